-- Laid by a program (wip/tools/myprint.py) out of the translation. Not trusted: Lean checks it.
import Derived.Test.YthnhpbplglmmmaaP0
import Derived.Test.YthnhpbplglmmmaaPbailiwickref1
namespace Go.Proofs.Ythnhpbplglmmmaa.P
open Go.RowKit Go.Proofs.YthnhpbplglmmmaaW.PrintWords Go.Proofs.YthnhpbplglmmmaaW.PrintLast Go.Proofs.YthnhpbplglmmmaaW.PrintMore
attribute [local go_sem] max2_int min2_int max_two min_two max_three min_three max_four min_four   -- for this text's walks alone
set_option linter.unusedVariables false
set_option linter.unusedSimpArgs false

/-! ### bailiwickref3_in: function 48 -/
def bailiwickref3_in.f (a0 : Int) (a1 : Int) : Option (Bool) := if a0 ≥ 0 then (some (decide (a0 ≤ a1))) else (some false)
set_option maxHeartbeats 8000000 in
set_option maxRecDepth 100000 in
theorem bailiwickref3_in.calls (a0 : Int) (a1 : Int) (r : Bool) (w : World) (h : bailiwickref3_in.f a0 a1 = some r) :
    Calls Try.prog 48 #[.int .i64 a0, .int .i64 a1] w fun e w' => e = .returned (.bool r) ∧ Drawn0 w w' := by
  have H : (if a0 ≥ 0 then (some (decide (a0 ≤ a1))) else (some false)) = some r := h
  clear h
  by_cases c3 : a0 ≥ 0
  · rw [if_pos c3] at H
    have c3b0 : decide (0 ≤ a0) = true := decide_eq_true c3
    clear c3
    obtain rfl := Option.some.inj H
    go_enter Try.func48, Try.ntmps48
    go_wp2
    go_ret
    exact ⟨by first | rfl | (simp; done) | (simp [*]; done), by repeat (first | exact Drawn0.refl _ | apply Drawn0.step)⟩
  · rw [if_neg c3] at H
    have c3b0 : decide (0 ≤ a0) = false := decide_eq_false c3
    clear c3
    obtain rfl := Option.some.inj H
    go_enter Try.func48, Try.ntmps48
    go_wp2
    go_ret
    exact ⟨by first | rfl | (simp; done) | (simp [*]; done), by repeat (first | exact Drawn0.refl _ | apply Drawn0.step)⟩

/-! ### bailiwickref3_Pseudo: function 50 -/
def bailiwickref3_Pseudo.f (k : Nat) (a0 : Int) (a1 : Int) (a2 : Int) (a3 : Int) : Option (List Int) := (bailiwickref1_Lay.f k ([] : List Int) 4 (IntKind.u64.wrap (a0))).bind fun t242 => ((bailiwickref1_Lay.f k t242 4 (IntKind.u64.wrap (a1))).bind fun t245 => ((some (([0, (a2) % 256] : List Int) : List Int)).bind fun y248 => (if t245.length + y248.length < 140737488355328 then ((bailiwickref1_Lay.f k (t245 ++ y248) 2 (IntKind.u64.wrap (a3))).bind fun t254 => (some t254)) else (none))))
theorem bailiwickref3_Pseudo.mono : ∀ a0 a1 a2 a3 k, LeO (bailiwickref3_Pseudo.f k a0 a1 a2 a3) (bailiwickref3_Pseudo.f (k + 1) a0 a1 a2 a3) := by
  intro a0 a1 a2 a3 k
  unfold bailiwickref3_Pseudo.f
  repeat' first
      | (with_reducible exact bailiwickref1_Lay.mono _ _ _ _)
      | (with_reducible exact LeO.refl _)
      | (with_reducible exact LeO.none _)
      | (with_reducible refine LeO.ite ?_ ?_)
      | (with_reducible refine LeO.bind ?_ (fun _ => ?_))
      | exact bailiwickref1_Lay.mono _ _ _ _
      | exact LeO.none _
      | refine LeO.ite ?_ ?_
      | refine LeO.bind ?_ (fun _ => ?_)
set_option maxHeartbeats 8000000 in
set_option maxRecDepth 100000 in
theorem bailiwickref3_Pseudo.calls (k : Nat) (a0 : Int) (a1 : Int) (a2 : Int) (a3 : Int) (r : List Int) (w : World) (h : bailiwickref3_Pseudo.f k a0 a1 a2 a3 = some r) :
    Calls Try.prog 50 #[.int .u32 a0, .int .u32 a1, .int .i64 a2, .int .i64 a3] w fun e w' => ∃ v0_ : Value, e = .returned (v0_) ∧ Kd.R (Kd.int .u8) 5 w' w.heap.size (fun _ => True) v0_ r ∧ Below w.heap.size w w' := by
  have HB := Aside0.mk (Below.refl w.heap.size w)
  have H : ((bailiwickref1_Lay.f k ([] : List Int) 4 (IntKind.u64.wrap (a0))).bind fun t242 => ((bailiwickref1_Lay.f k t242 4 (IntKind.u64.wrap (a1))).bind fun t245 => ((some (([0, (a2) % 256] : List Int) : List Int)).bind fun y248 => (if t245.length + y248.length < 140737488355328 then ((bailiwickref1_Lay.f k (t245 ++ y248) 2 (IntKind.u64.wrap (a3))).bind fun t254 => (some t254)) else (none))))) = some r := h
  clear h
  replace H := Option.bind_eq_some_iff.mp H
  obtain ⟨t242, A50, H⟩ := H
  replace H : ((bailiwickref1_Lay.f k t242 4 (IntKind.u64.wrap (a1))).bind fun t245 => ((some (([0, (a2) % 256] : List Int) : List Int)).bind fun y248 => (if t245.length + y248.length < 140737488355328 then ((bailiwickref1_Lay.f k (t245 ++ y248) 2 (IntKind.u64.wrap (a3))).bind fun t254 => (some t254)) else (none)))) = some r := H
  have A5 := Aside0.mk A50
  clear A50
  replace H := Option.bind_eq_some_iff.mp H
  obtain ⟨t245, A60, H⟩ := H
  replace H : ((some (([0, (a2) % 256] : List Int) : List Int)).bind fun y248 => (if t245.length + y248.length < 140737488355328 then ((bailiwickref1_Lay.f k (t245 ++ y248) 2 (IntKind.u64.wrap (a3))).bind fun t254 => (some t254)) else (none))) = some r := H
  have A6 := Aside0.mk A60
  clear A60
  obtain ⟨y248, hy248⟩ : ∃ y_ : List Int, y_ = (([0, (a2) % 256] : List Int)) := ⟨_, rfl⟩
  replace H : (if t245.length + y248.length < 140737488355328 then ((bailiwickref1_Lay.f k (t245 ++ y248) 2 (IntKind.u64.wrap (a3))).bind fun t254 => (some t254)) else (none)) = some r := by first | (rw [hy248]; with_reducible exact H) | (have H2_ := (Option.bind_some _ _).symm.trans H; rw [hy248]; with_reducible exact H2_) | (have H2_ := (Option.bind_some _ _).symm.trans H; with_reducible exact H2_) | with_reducible exact H | (rw [hy248]; exact H) | exact H
  have Ny248 := Aside0.mk hy248
  clear hy248
  by_cases c7 : t245.length + y248.length < 140737488355328
  · rw [if_pos c7] at H
    have LMc7 := Aside0.mk c7
    clear c7
    obtain ⟨y251, hy251⟩ : ∃ y_ : List Int, y_ = (t245 ++ y248) := ⟨_, rfl⟩
    replace H : ((bailiwickref1_Lay.f k y251 2 (IntKind.u64.wrap (a3))).bind fun t254 => (some t254)) = some r := by first | (rw [hy251]; with_reducible exact H) | (have H2_ := (Option.bind_some _ _).symm.trans H; rw [hy251]; with_reducible exact H2_) | (have H2_ := (Option.bind_some _ _).symm.trans H; with_reducible exact H2_) | with_reducible exact H | (rw [hy251]; exact H) | exact H
    have Ny251 := Aside0.mk hy251
    clear hy251
    replace H := Option.bind_eq_some_iff.mp H
    obtain ⟨t254, A80, H⟩ := H
    replace H : (some t254) = some r := H
    have A8 := Aside0.mk A80
    clear A80
    obtain rfl := Option.some.inj H
    go_enter Try.func50, Try.ntmps50
    go_wp2_with (first | ((with_reducible refine gate_callee (f := 38) rfl ?_); refine goesL_ (some 13) rfl rfl Try.func38 (by kernel_rfl) rfl #[.slice none 0 0, .int .i64 4, .int .u64 (IntKind.u64.wrap (a0))] rfl (by (try simp only [List.map_toArray, List.map_cons, List.map_nil]); first | done | rfl | (simp only [List.length_drop, List.length_take]; rfl)) ?_; (refine (bailiwickref1_Lay.calls k (fun k_ => some k_ = (.slice none 0 0 : Value).ownBlock) (.slice none 0 0) ([] : List Int) 4 (IntKind.u64.wrap (a0)) t242 w _ ?side1 ?side2 A5.out).mono ?_); (case side1 => repeat (first | (with_reducible first | exact HB.out | apply below_alloc | apply pw_below_drewN | apply below_drew1) | exact HB.out)); (case side2 => exact Kd.R_nil _ _ _ _ _); rintro e w9 ⟨v243, rfl, ho0, hb, hkp⟩; refine ⟨_, rfl, ?_⟩; have n0_ := Aside0.mk (Kd.R_mono (ok' := fun k_ => True) ho0 (fun k_ hk_ => trivial)); have n1_ := Aside0.mk (hb); clear HB; have HO244 := n0_; have HB := n1_; clear n0_ n1_; (try clear hb); (try clear hkp); (try clear ho0); obtain ⟨Ao10, co10, eo10⟩ := Kd.R_slice HO244.out; subst eo10) | ((with_reducible refine gate_callee (f := 38) rfl ?_); refine goesL_ (some 17) rfl rfl Try.func38 (by kernel_rfl) rfl #[.slice Ao10 t242.length co10, .int .i64 4, .int .u64 (IntKind.u64.wrap (a1))] rfl (by (try simp only [List.map_toArray, List.map_cons, List.map_nil]); first | done | rfl | (simp only [List.length_drop, List.length_take]; rfl)) ?_; (with_reducible refine (bailiwickref1_Lay.calls k (fun k_ => some k_ = (.slice Ao10 t242.length co10 : Value).ownBlock) (.slice Ao10 t242.length co10) t242 4 (IntKind.u64.wrap (a1)) t245 w _ ?side1 ?side2 A6.out).mono ?_); (case side1 => repeat (first | (with_reducible first | exact HB.out | apply below_alloc | apply pw_below_drewN | apply below_drew1) | exact HB.out)); (case side2 => exact Kd.R_tight rfl HO244.out); rintro e w11 ⟨v246, rfl, ho0, hb, hkp⟩; refine ⟨_, rfl, ?_⟩; have n0_ := Aside0.mk (Kd.R_mono (ok' := fun k_ => True) ho0 (fun k_ hk_ => trivial)); have n1_ := Aside0.mk (hb); clear HB; clear HO244; have HO247 := n0_; have HB := n1_; clear n0_ n1_; (try clear hb); (try clear hkp); (try clear ho0)) | ((with_reducible refine gate_dst (N := 21) rfl ?_); refine Kd.R_lit (Kd.int .u8) _ 5 ?hg (N := 21) ?hd (xs := ([0, (a2) % 256] : List Int)) (inner := [.int .u8 0, .int .u8 ((a2) % 256)]) (ok := fun _ => True) (okp := fun _ => True) ?hr ?hp (fun _ hk => hk) trivial (Below.refl _ _) (Nat.le_refl _) (by simp) ?_; (case hd => rfl); (case hg => rfl); (case hr => first | (go_simp; done) | (go_simp; rfl)); (case hp => exact (Reps.one (show Kd.M (Kd.int .u8) _ _ _ 0 [.int .u8 0] from rfl) (Reps.one (show Kd.M (Kd.int .u8) _ _ _ ((a2) % 256) [.int .u8 ((a2) % 256)] from rfl) (Reps.none _ _)))); intro v249 w12 ho13 hb hg_ hnew_; clear hg_ hnew_; (first | rw [← Ny248.out] at ho13 | (simp only [Int.reduceToNat] at ho13; rw [← Ny248.out] at ho13)); have n0_ := Aside0.mk (Kd.R_elder' (by (with_reducible repeat (first | apply Kd.R_alloc | apply Kd.R_drewN | apply Kd.R_drew)); exact HO247.out) (Kd.R_base ho13) hb); have n1_ := Aside0.mk (Kd.R_lower (Kd.R_new' ho13 (Kd.R_lt (by (with_reducible repeat (first | apply Kd.R_alloc | apply Kd.R_drewN | apply Kd.R_drew)); exact HO247.out))) (below_size (by repeat (first | (with_reducible first | exact HB.out | apply below_alloc | apply pw_below_drewN | apply below_drew1) | exact HB.out)))); have n2_ := Aside0.mk (below_step (by repeat (first | (with_reducible first | exact HB.out | apply below_alloc | apply pw_below_drewN | apply below_drew1) | exact HB.out)) hb); clear HO247; clear HB; have HO247 := n0_; have HO250 := n1_; have HB := n2_; clear n0_ n1_ n2_; clear hb ho13; obtain ⟨Ao15, co15, eo15⟩ := Kd.R_slice HO250.out; subst eo15) | ((with_reducible refine gate_builtin (b := .append) (xs := #[.tmp 18, .tmp 21]) rfl ?_); at_builtin; refine Kd.R_append_rows (Kd.int .u8) (w0 := w) w.heap.size rfl (.tmp 18) (.tmp 21) 23 5 (.int .u8 0) 1 rfl Try.underlying23 info5 rfl (by decide) (by omega) v246 t245 y248 _ _ _ (fun k_ => some k_ ≠ (.slice Ao15 y248.length co15 : Value).ownBlock) (fun _ => False) rfl rfl ?aO ?aR (fun _ _ h => h) (fun _ h => h.elim) ?aF ?aB ?aS ?aL ?_; (case aR => repeat (first | exact (Kd.R_reads' HO250.out).2.2 | (with_reducible refine Kd.C_alloc ?_ _) | (with_reducible refine Kd.C_drewN ?_ _) | (with_reducible refine Kd.C_drew ?_))); (case aB => exact (by repeat (first | (with_reducible first | exact HB.out | apply below_alloc | apply pw_below_drewN | apply below_drew1) | exact HB.out))); (case aF => exact (fun k_ hk => Kd.fresh' (Kd.R_lt (by (with_reducible repeat (first | apply Kd.R_alloc | apply Kd.R_drewN | apply Kd.R_drew)); exact HO250.out)) k_ hk)); (case aO => exact (by (with_reducible repeat (first | apply Kd.R_alloc | apply Kd.R_drewN | apply Kd.R_drew)); exact Kd.R_mono HO247.out (fun _ hk => hk.2))); (case aS => exact (below_size (by repeat (first | (with_reducible first | exact HB.out | apply below_alloc | apply pw_below_drewN | apply below_drew1) | exact HB.out)))); (case aL => have := LMc7.out; omega); intro v252 w14 ho hb hg hat; rw [← Ny251.out] at ho; have n0_ := Aside0.mk (Kd.R_after (ok := (fun _ => True)) (by (with_reducible repeat (first | apply Kd.R_alloc | apply Kd.R_drewN | apply Kd.R_drew)); exact HO250.out) hg hat); have n1_ := Aside0.mk (hb); have n2_ := Aside0.mk (ho); clear HO250; clear HB; clear HO247; have HO250 := n0_; have HB := n1_; have HO253 := n2_; clear n0_ n1_ n2_; clear ho hb hg hat; obtain ⟨Ao16, co16, eo16⟩ := Kd.R_slice HO253.out; subst eo16) | ((with_reducible refine gate_callee (f := 38) rfl ?_); refine goesL_ (some 26) rfl rfl Try.func38 (by kernel_rfl) rfl #[.slice Ao16 y251.length co16, .int .i64 2, .int .u64 (IntKind.u64.wrap (a3))] rfl (by (try simp only [List.map_toArray, List.map_cons, List.map_nil]); first | done | rfl | (simp only [List.length_drop, List.length_take]; rfl)) ?_; (with_reducible refine (bailiwickref1_Lay.calls k (fun k_ => some k_ = (.slice Ao16 y251.length co16 : Value).ownBlock) (.slice Ao16 y251.length co16) y251 2 (IntKind.u64.wrap (a3)) t254 w _ ?side1 ?side2 A8.out).mono ?_); (case side1 => repeat (first | (with_reducible first | exact HB.out | apply below_alloc | apply pw_below_drewN | apply below_drew1) | exact HB.out)); (case side2 => exact Kd.R_tight rfl HO253.out); rintro e w17 ⟨v255, rfl, ho0, hb, hkp⟩; refine ⟨_, rfl, ?_⟩; have n0_ := Aside0.mk (Kd.R_mono (ok' := fun k_ => some k_ ≠ (v255 : Value).ownBlock) (Kd.R_keptB (HO250.out) hkp (fun k_ hk_ hs_ => (hk_.2) hs_)) (fun k_ hk_ => fun e_ => Or.elim (ho0.1 k_ e_.symm) (fun hs_ => hk_.2.1 hs_) (fun hn_ => Nat.not_le.2 hk_.2.2 hn_))); have n1_ := Aside0.mk (Kd.R_mono (ok' := fun k_ => some k_ ≠ (.slice Ao15 y248.length co15 : Value).ownBlock) ho0 (fun k_ hk_ => Or.elim hk_ (fun hs_ => fun e_ => (((HO250.out).1 k_ e_.symm).2) hs_) (fun hn_ => (Kd.fresh' (Kd.R_lt (by (with_reducible repeat (first | apply Kd.R_alloc | apply Kd.R_drewN | apply Kd.R_drew)); exact HO250.out)) k_ hn_)))); have n2_ := Aside0.mk (hb); clear HO250; clear HB; clear HO253; have HO250 := n0_; have HO256 := n1_; have HB := n2_; clear n0_ n1_ n2_; (try clear hb); (try clear hkp); (try clear ho0)))
    go_ret
    exact ⟨_, by first | rfl | (simp [errW_none, errW_some] <;> rfl) | (simp [*, errW_none, errW_some] <;> rfl), by (with_reducible repeat (first | apply Kd.R_alloc | apply Kd.R_drewN | apply Kd.R_drew)); exact Kd.R_mono HO256.out (fun _ hk => trivial), by repeat (first | (with_reducible first | exact HB.out | apply below_alloc | apply pw_below_drewN | apply below_drew1) | exact HB.out)⟩
  · rw [if_neg c7] at H
    exact absurd H (by simp)

/-! ### bailiwickref3_BuildPiece: function 26 -/
mutual
def bailiwickref3_BuildPiece.j0 : Nat → Int → Int → Bool → Int → Int → Int → Int → Int → Int → Int → List Int → List Int → Option (List Int × Int)
  | 0, _, _, _, _, _, _, _, _, _, _, _, _ => none
  | k + 1, x0, x1, x53, x258000, x258001, x258002, x258003, x258004, x258005, x258006, x258007, x258008 => if x53 = true then (some (([] : List Int), 1)) else (if (x258008.length : Int) > (wrap64 (2028 - (wrap64 (20 + (x258007.length : Int))))) then (some (([] : List Int), 3)) else ((bailiwickref1_Lay.f k ([] : List Int) 2 (IntKind.u64.wrap (x258000))).bind fun t263 => ((bailiwickref1_Lay.f k t263 2 (IntKind.u64.wrap (x258001))).bind fun t266 => ((bailiwickref1_Lay.f k t266 4 (IntKind.u64.wrap (x258002))).bind fun t269 => ((bailiwickref1_Lay.f k t269 4 (IntKind.u64.wrap (x258003))).bind fun t272 => ((some (([(((wrap64 (Int.tdiv (wrap64 (20 + (x258007.length : Int))) 4)) % 256) * 16) % 256, (x258004) % 256] : List Int) : List Int)).bind fun y275 => (if t272.length + y275.length < 140737488355328 then ((bailiwickref1_Lay.f k (t272 ++ y275) 2 (IntKind.u64.wrap (x258005))).bind fun t281 => ((some (([0, 0] : List Int) : List Int)).bind fun y284 => (if t281.length + y284.length < 140737488355328 then ((bailiwickref1_Lay.f k (t281 ++ y284) 2 (IntKind.u64.wrap (x258006))).bind fun t290 => (bailiwickref3_BuildPiece.l0 k x0 x1 t290 0 x258000 x258001 x258002 x258003 x258004 x258005 x258006 x258007 x258008)) else (none)))) else (none))))))))
def bailiwickref3_BuildPiece.l0 : Nat → Int → Int → List Int → Int → Int → Int → Int → Int → Int → Int → Int → List Int → List Int → Option (List Int × Int)
  | 0, _, _, _, _, _, _, _, _, _, _, _, _, _ => none
  | k + 1, x0, x1, x9, x10, x258000, x258001, x258002, x258003, x258004, x258005, x258006, x258007, x258008 => if x10 < (x258007.length : Int) then (if 0 ≤ x10 then (if x9.length < 140737488355328 then (bailiwickref3_BuildPiece.l0 k x0 x1 (x9 ++ [rd x258007 x10]) (wrap64 (x10 + 1)) x258000 x258001 x258002 x258003 x258004 x258005 x258006 x258007 x258008) else (none)) else (none)) else (bailiwickref3_BuildPiece.l1 k x0 x1 x9 0 x258000 x258001 x258002 x258003 x258004 x258005 x258006 x258007 x258008)
def bailiwickref3_BuildPiece.l1 : Nat → Int → Int → List Int → Int → Int → Int → Int → Int → Int → Int → Int → List Int → List Int → Option (List Int × Int)
  | 0, _, _, _, _, _, _, _, _, _, _, _, _, _ => none
  | k + 1, x0, x1, x9, x11, x258000, x258001, x258002, x258003, x258004, x258005, x258006, x258007, x258008 => if x11 < (x258008.length : Int) then (if 0 ≤ x11 then (if x9.length < 140737488355328 then (bailiwickref3_BuildPiece.l1 k x0 x1 (x9 ++ [rd x258008 x11]) (wrap64 (x11 + 1)) x258000 x258001 x258002 x258003 x258004 x258005 x258006 x258007 x258008) else (none)) else (none)) else ((bailiwickref3_Pseudo.f k x0 x1 6 (x9.length : Int)).bind fun t301 => ((bailiwickref1_Sum.f k (([t301, x9] : List (List Int)))).bind fun t308 => (if 16 < (x9.length : Int) then (if 17 < (x9.length : Int) then (some (((x9.set (16 : Int).toNat (((wrap64 (65535 - t308)) / 256) % 256)).set (17 : Int).toNat ((wrap64 (65535 - t308)) % 256)), 0)) else (none)) else (none))))
end
def bailiwickref3_BuildPiece.f (k : Nat) (a0 : Int) (a1 : Int) (a2_0 : Int) (a2_1 : Int) (a2_2 : Int) (a2_3 : Int) (a2_4 : Int) (a2_5 : Int) (a2_6 : Int) (l2_7 : List Int) (l2_8 : List Int) : Option (List Int × Int) := (bailiwickref3_in.f a2_0 65535).bind fun t258 => (if t258 = true then ((bailiwickref3_in.f a2_1 65535).bind fun t259 => (if t259 = true then ((bailiwickref3_in.f a2_5 65535).bind fun t260 => (if t260 = true then ((bailiwickref3_in.f a2_6 65535).bind fun t261 => (if t261 = true then ((bailiwickref3_in.f a2_4 255).bind fun t262 => (if t262 = true then (if (l2_7.length : Int) > 40 then (bailiwickref3_BuildPiece.j0 k a0 a1 true a2_0 a2_1 a2_2 a2_3 a2_4 a2_5 a2_6 l2_7 l2_8) else (bailiwickref3_BuildPiece.j0 k a0 a1 (((l2_7.length : Int) % 4) != 0) a2_0 a2_1 a2_2 a2_3 a2_4 a2_5 a2_6 l2_7 l2_8)) else (bailiwickref3_BuildPiece.j0 k a0 a1 true a2_0 a2_1 a2_2 a2_3 a2_4 a2_5 a2_6 l2_7 l2_8))) else (bailiwickref3_BuildPiece.j0 k a0 a1 true a2_0 a2_1 a2_2 a2_3 a2_4 a2_5 a2_6 l2_7 l2_8))) else (bailiwickref3_BuildPiece.j0 k a0 a1 true a2_0 a2_1 a2_2 a2_3 a2_4 a2_5 a2_6 l2_7 l2_8))) else (bailiwickref3_BuildPiece.j0 k a0 a1 true a2_0 a2_1 a2_2 a2_3 a2_4 a2_5 a2_6 l2_7 l2_8))) else (bailiwickref3_BuildPiece.j0 k a0 a1 true a2_0 a2_1 a2_2 a2_3 a2_4 a2_5 a2_6 l2_7 l2_8))
theorem bailiwickref3_BuildPiece.mono_l : ∀ k, (∀ y0 y1 y2 y3 y4 y5 y6 y7 y8 y9 y10 y11, LeO (bailiwickref3_BuildPiece.j0 k y0 y1 y2 y3 y4 y5 y6 y7 y8 y9 y10 y11) (bailiwickref3_BuildPiece.j0 (k + 1) y0 y1 y2 y3 y4 y5 y6 y7 y8 y9 y10 y11)) ∧ (∀ y0 y1 y2 y3 y4 y5 y6 y7 y8 y9 y10 y11 y12, LeO (bailiwickref3_BuildPiece.l0 k y0 y1 y2 y3 y4 y5 y6 y7 y8 y9 y10 y11 y12) (bailiwickref3_BuildPiece.l0 (k + 1) y0 y1 y2 y3 y4 y5 y6 y7 y8 y9 y10 y11 y12)) ∧ (∀ y0 y1 y2 y3 y4 y5 y6 y7 y8 y9 y10 y11 y12, LeO (bailiwickref3_BuildPiece.l1 k y0 y1 y2 y3 y4 y5 y6 y7 y8 y9 y10 y11 y12) (bailiwickref3_BuildPiece.l1 (k + 1) y0 y1 y2 y3 y4 y5 y6 y7 y8 y9 y10 y11 y12))
  | 0 => ⟨fun _ _ _ _ _ _ _ _ _ _ _ _ r h => by simp [bailiwickref3_BuildPiece.j0] at h, fun _ _ _ _ _ _ _ _ _ _ _ _ _ r h => by simp [bailiwickref3_BuildPiece.l0] at h, fun _ _ _ _ _ _ _ _ _ _ _ _ _ r h => by simp [bailiwickref3_BuildPiece.l1] at h⟩
  | k + 1 => by
    obtain ⟨ih0, ih1, ih2⟩ := bailiwickref3_BuildPiece.mono_l k
    refine ⟨?_, ?_, ?_⟩
    · intro y0 y1 y2 y3 y4 y5 y6 y7 y8 y9 y10 y11
      unfold bailiwickref3_BuildPiece.j0
      repeat' first
      | (with_reducible exact ih0 _ _ _ _ _ _ _ _ _ _ _ _)
      | (with_reducible exact ih1 _ _ _ _ _ _ _ _ _ _ _ _ _)
      | (with_reducible exact ih2 _ _ _ _ _ _ _ _ _ _ _ _ _)
      | (with_reducible exact bailiwickref1_Lay.mono _ _ _ _)
      | (with_reducible exact bailiwickref1_Sum.mono _ _)
      | (with_reducible exact bailiwickref3_Pseudo.mono _ _ _ _ _)
      | (with_reducible exact LeO.refl _)
      | (with_reducible exact LeO.none _)
      | (with_reducible refine LeO.ite ?_ ?_)
      | (with_reducible refine LeO.bind ?_ (fun _ => ?_))
      | exact ih0 _ _ _ _ _ _ _ _ _ _ _ _
      | exact ih1 _ _ _ _ _ _ _ _ _ _ _ _ _
      | exact ih2 _ _ _ _ _ _ _ _ _ _ _ _ _
      | exact bailiwickref1_Lay.mono _ _ _ _
      | exact bailiwickref1_Sum.mono _ _
      | exact bailiwickref3_Pseudo.mono _ _ _ _ _
      | exact LeO.none _
      | refine LeO.ite ?_ ?_
      | refine LeO.bind ?_ (fun _ => ?_)
    · intro y0 y1 y2 y3 y4 y5 y6 y7 y8 y9 y10 y11 y12
      unfold bailiwickref3_BuildPiece.l0
      repeat' first
      | (with_reducible exact ih0 _ _ _ _ _ _ _ _ _ _ _ _)
      | (with_reducible exact ih1 _ _ _ _ _ _ _ _ _ _ _ _ _)
      | (with_reducible exact ih2 _ _ _ _ _ _ _ _ _ _ _ _ _)
      | (with_reducible exact bailiwickref1_Lay.mono _ _ _ _)
      | (with_reducible exact bailiwickref1_Sum.mono _ _)
      | (with_reducible exact bailiwickref3_Pseudo.mono _ _ _ _ _)
      | (with_reducible exact LeO.refl _)
      | (with_reducible exact LeO.none _)
      | (with_reducible refine LeO.ite ?_ ?_)
      | (with_reducible refine LeO.bind ?_ (fun _ => ?_))
      | exact ih0 _ _ _ _ _ _ _ _ _ _ _ _
      | exact ih1 _ _ _ _ _ _ _ _ _ _ _ _ _
      | exact ih2 _ _ _ _ _ _ _ _ _ _ _ _ _
      | exact bailiwickref1_Lay.mono _ _ _ _
      | exact bailiwickref1_Sum.mono _ _
      | exact bailiwickref3_Pseudo.mono _ _ _ _ _
      | exact LeO.none _
      | refine LeO.ite ?_ ?_
      | refine LeO.bind ?_ (fun _ => ?_)
    · intro y0 y1 y2 y3 y4 y5 y6 y7 y8 y9 y10 y11 y12
      unfold bailiwickref3_BuildPiece.l1
      repeat' first
      | (with_reducible exact ih0 _ _ _ _ _ _ _ _ _ _ _ _)
      | (with_reducible exact ih1 _ _ _ _ _ _ _ _ _ _ _ _ _)
      | (with_reducible exact ih2 _ _ _ _ _ _ _ _ _ _ _ _ _)
      | (with_reducible exact bailiwickref1_Lay.mono _ _ _ _)
      | (with_reducible exact bailiwickref1_Sum.mono _ _)
      | (with_reducible exact bailiwickref3_Pseudo.mono _ _ _ _ _)
      | (with_reducible exact LeO.refl _)
      | (with_reducible exact LeO.none _)
      | (with_reducible refine LeO.ite ?_ ?_)
      | (with_reducible refine LeO.bind ?_ (fun _ => ?_))
      | exact ih0 _ _ _ _ _ _ _ _ _ _ _ _
      | exact ih1 _ _ _ _ _ _ _ _ _ _ _ _ _
      | exact ih2 _ _ _ _ _ _ _ _ _ _ _ _ _
      | exact bailiwickref1_Lay.mono _ _ _ _
      | exact bailiwickref1_Sum.mono _ _
      | exact bailiwickref3_Pseudo.mono _ _ _ _ _
      | exact LeO.none _
      | refine LeO.ite ?_ ?_
      | refine LeO.bind ?_ (fun _ => ?_)
theorem bailiwickref3_BuildPiece.mono : ∀ a0 a1 a2 a3 a4 a5 a6 a7 a8 a9 a10 k, LeO (bailiwickref3_BuildPiece.f k a0 a1 a2 a3 a4 a5 a6 a7 a8 a9 a10) (bailiwickref3_BuildPiece.f (k + 1) a0 a1 a2 a3 a4 a5 a6 a7 a8 a9 a10) := by
  intro a0 a1 a2 a3 a4 a5 a6 a7 a8 a9 a10 k
  obtain ⟨ih0, ih1, ih2⟩ := bailiwickref3_BuildPiece.mono_l k
  unfold bailiwickref3_BuildPiece.f
  repeat' first
      | (with_reducible exact ih0 _ _ _ _ _ _ _ _ _ _ _ _)
      | (with_reducible exact ih1 _ _ _ _ _ _ _ _ _ _ _ _ _)
      | (with_reducible exact ih2 _ _ _ _ _ _ _ _ _ _ _ _ _)
      | (with_reducible exact bailiwickref1_Lay.mono _ _ _ _)
      | (with_reducible exact bailiwickref1_Sum.mono _ _)
      | (with_reducible exact bailiwickref3_Pseudo.mono _ _ _ _ _)
      | (with_reducible exact LeO.refl _)
      | (with_reducible exact LeO.none _)
      | (with_reducible refine LeO.ite ?_ ?_)
      | (with_reducible refine LeO.bind ?_ (fun _ => ?_))
      | exact ih0 _ _ _ _ _ _ _ _ _ _ _ _
      | exact ih1 _ _ _ _ _ _ _ _ _ _ _ _ _
      | exact ih2 _ _ _ _ _ _ _ _ _ _ _ _ _
      | exact bailiwickref1_Lay.mono _ _ _ _
      | exact bailiwickref1_Sum.mono _ _
      | exact bailiwickref3_Pseudo.mono _ _ _ _ _
      | exact LeO.none _
      | refine LeO.ite ?_ ?_
      | refine LeO.bind ?_ (fun _ => ?_)
set_option maxHeartbeats 8000000 in
set_option maxRecDepth 100000 in
theorem bailiwickref3_BuildPiece.calls (k : Nat) (a0 : Int) (a1 : Int) (a2_0 : Int) (a2_1 : Int) (a2_2 : Int) (a2_3 : Int) (a2_4 : Int) (a2_5 : Int) (a2_6 : Int) (A2_7 : Option Addr) (c2_7 : Nat) (l2_7 : List Int) (A2_8 : Option Addr) (c2_8 : Nat) (l2_8 : List Int) (r1 : List Int) (r2 : Int) (w : World) (hr2_7 : Kd.C (Kd.int .u8) w A2_7 l2_7.length l2_7) (hc2_7 : l2_7.length ≤ c2_7) (hr2_8 : Kd.C (Kd.int .u8) w A2_8 l2_8.length l2_8) (hc2_8 : l2_8.length ≤ c2_8) (h : bailiwickref3_BuildPiece.f k a0 a1 a2_0 a2_1 a2_2 a2_3 a2_4 a2_5 a2_6 l2_7 l2_8 = some (r1, r2)) :
    Calls Try.prog 26 #[.int .u32 a0, .int .u32 a1, .agg #[.int .i64 a2_0, .int .i64 a2_1, .int .u32 a2_2, .int .u32 a2_3, .int .i64 a2_4, .int .i64 a2_5, .int .i64 a2_6, .slice A2_7 l2_7.length c2_7, .slice A2_8 l2_8.length c2_8]] w fun e w' => ∃ v0_ : Value, e = .returned (.tuple #[v0_, .int .i64 r2]) ∧ Kd.R (Kd.int .u8) 5 w' w.heap.size (fun _ => True) v0_ r1 ∧ Below w.heap.size w w' := by
  have hu46 := Try.underlying46
  have HR2_7 := Aside0.mk hr2_7
  have HC2_7 := Aside0.mk hc2_7
  clear hr2_7 hc2_7
  have HR2_8 := Aside0.mk hr2_8
  have HC2_8 := Aside0.mk hc2_8
  clear hr2_8 hc2_8
  have HB := Aside0.mk (Below.refl w.heap.size w)
  have H : ((bailiwickref3_in.f a2_0 65535).bind fun t258 => (if t258 = true then ((bailiwickref3_in.f a2_1 65535).bind fun t259 => (if t259 = true then ((bailiwickref3_in.f a2_5 65535).bind fun t260 => (if t260 = true then ((bailiwickref3_in.f a2_6 65535).bind fun t261 => (if t261 = true then ((bailiwickref3_in.f a2_4 255).bind fun t262 => (if t262 = true then (if (l2_7.length : Int) > 40 then (bailiwickref3_BuildPiece.j0 k a0 a1 true a2_0 a2_1 a2_2 a2_3 a2_4 a2_5 a2_6 l2_7 l2_8) else (bailiwickref3_BuildPiece.j0 k a0 a1 (((l2_7.length : Int) % 4) != 0) a2_0 a2_1 a2_2 a2_3 a2_4 a2_5 a2_6 l2_7 l2_8)) else (bailiwickref3_BuildPiece.j0 k a0 a1 true a2_0 a2_1 a2_2 a2_3 a2_4 a2_5 a2_6 l2_7 l2_8))) else (bailiwickref3_BuildPiece.j0 k a0 a1 true a2_0 a2_1 a2_2 a2_3 a2_4 a2_5 a2_6 l2_7 l2_8))) else (bailiwickref3_BuildPiece.j0 k a0 a1 true a2_0 a2_1 a2_2 a2_3 a2_4 a2_5 a2_6 l2_7 l2_8))) else (bailiwickref3_BuildPiece.j0 k a0 a1 true a2_0 a2_1 a2_2 a2_3 a2_4 a2_5 a2_6 l2_7 l2_8))) else (bailiwickref3_BuildPiece.j0 k a0 a1 true a2_0 a2_1 a2_2 a2_3 a2_4 a2_5 a2_6 l2_7 l2_8))) = some (r1, r2) := h
  clear h
  have HC4 := Aside0.mk H
  clear H
  go_enter Try.func26, Try.ntmps26
  go_upto_region 1 with (first | ((with_reducible refine gate_dst (N := 5) rfl ?_); (try (refine gate_guard (by rfl) ?_; dsimp only)); refine box_event ?hg (N := 5) ?hd (cs := #[.int .i64 a2_0, .int .i64 a2_1, .int .u32 a2_2, .int .u32 a2_3, .int .i64 a2_4, .int .i64 a2_5, .int .i64 a2_6, .slice A2_7 l2_7.length c2_7, .slice A2_8 l2_8.length c2_8]) (t := 46) ?hr ?_; (case hd => rfl); (case hg => rfl); (case hr => first | (go_simp; done) | (go_simp; rfl)); intro gb257 hg w5 hbox hb; have n0_ := Aside0.mk (below_step (by repeat (first | (with_reducible first | exact HB.out | apply below_alloc | apply pw_below_drewN | apply below_drew1) | exact HB.out)) hb); have n1_ := Aside0.mk (hbox); have n2_ := Aside0.mk ((by rw [hg]; exact (below_size (by repeat (first | (with_reducible first | exact HB.out | apply below_alloc | apply pw_below_drewN | apply below_drew1) | exact HB.out))) : w.heap.size ≤ gb257)); have n3_ := Aside0.mk ((by rw [hg]; exact (below_size (by repeat (first | (with_reducible first | exact HB.out | apply below_alloc | apply pw_below_drewN | apply below_drew1) | exact HB.out))) : w.heap.size ≤ gb257)); clear HB; have HB := n0_; have BK257 := n1_; have GW257 := n2_; have GE257 := n3_; clear n0_ n1_ n2_ n3_; clear hb hbox hg))
  (try simp only [Act.put, List.setIfInBounds_toArray, List.set_cons_zero, List.set_cons_succ])
  go_cut [53] (fun v53 wc => ∃ (kq : Nat) (x53_3 : Bool), v53 = .bool x53_3 ∧ Aside0 (bailiwickref3_BuildPiece.j0 kq a0 a1 x53_3 a2_0 a2_1 a2_2 a2_3 a2_4 a2_5 a2_6 l2_7 l2_8 = some (r1, r2)) ∧ Aside0 (kq ≤ k) ∧ Aside0 (wc.heap[gb257]? = some (.cells #[.int .i64 a2_0, .int .i64 a2_1, .int .u32 a2_2, .int .u32 a2_3, .int .i64 a2_4, .int .i64 a2_5, .int .i64 a2_6, (.slice A2_7 l2_7.length c2_7), (.slice A2_8 l2_8.length c2_8)] 46 (0, 0))) ∧ Aside0 (Below w.heap.size w wc))
  case first =>
    have H := HC4.out
    clear HC4
    replace H := Option.bind_eq_some_iff.mp H
    obtain ⟨t258, A60, H⟩ := H
    replace H : (if t258 = true then ((bailiwickref3_in.f a2_1 65535).bind fun t259 => (if t259 = true then ((bailiwickref3_in.f a2_5 65535).bind fun t260 => (if t260 = true then ((bailiwickref3_in.f a2_6 65535).bind fun t261 => (if t261 = true then ((bailiwickref3_in.f a2_4 255).bind fun t262 => (if t262 = true then (if (l2_7.length : Int) > 40 then (bailiwickref3_BuildPiece.j0 k a0 a1 true a2_0 a2_1 a2_2 a2_3 a2_4 a2_5 a2_6 l2_7 l2_8) else (bailiwickref3_BuildPiece.j0 k a0 a1 (((l2_7.length : Int) % 4) != 0) a2_0 a2_1 a2_2 a2_3 a2_4 a2_5 a2_6 l2_7 l2_8)) else (bailiwickref3_BuildPiece.j0 k a0 a1 true a2_0 a2_1 a2_2 a2_3 a2_4 a2_5 a2_6 l2_7 l2_8))) else (bailiwickref3_BuildPiece.j0 k a0 a1 true a2_0 a2_1 a2_2 a2_3 a2_4 a2_5 a2_6 l2_7 l2_8))) else (bailiwickref3_BuildPiece.j0 k a0 a1 true a2_0 a2_1 a2_2 a2_3 a2_4 a2_5 a2_6 l2_7 l2_8))) else (bailiwickref3_BuildPiece.j0 k a0 a1 true a2_0 a2_1 a2_2 a2_3 a2_4 a2_5 a2_6 l2_7 l2_8))) else (bailiwickref3_BuildPiece.j0 k a0 a1 true a2_0 a2_1 a2_2 a2_3 a2_4 a2_5 a2_6 l2_7 l2_8)) = some (r1, r2) := H
    have A6 := Aside0.mk A60
    clear A60
    by_cases c7 : t258 = true
    · subst c7
      have H1 : ((bailiwickref3_in.f a2_1 65535).bind fun t259 => (if t259 = true then ((bailiwickref3_in.f a2_5 65535).bind fun t260 => (if t260 = true then ((bailiwickref3_in.f a2_6 65535).bind fun t261 => (if t261 = true then ((bailiwickref3_in.f a2_4 255).bind fun t262 => (if t262 = true then (if (l2_7.length : Int) > 40 then (bailiwickref3_BuildPiece.j0 k a0 a1 true a2_0 a2_1 a2_2 a2_3 a2_4 a2_5 a2_6 l2_7 l2_8) else (bailiwickref3_BuildPiece.j0 k a0 a1 (((l2_7.length : Int) % 4) != 0) a2_0 a2_1 a2_2 a2_3 a2_4 a2_5 a2_6 l2_7 l2_8)) else (bailiwickref3_BuildPiece.j0 k a0 a1 true a2_0 a2_1 a2_2 a2_3 a2_4 a2_5 a2_6 l2_7 l2_8))) else (bailiwickref3_BuildPiece.j0 k a0 a1 true a2_0 a2_1 a2_2 a2_3 a2_4 a2_5 a2_6 l2_7 l2_8))) else (bailiwickref3_BuildPiece.j0 k a0 a1 true a2_0 a2_1 a2_2 a2_3 a2_4 a2_5 a2_6 l2_7 l2_8))) else (bailiwickref3_BuildPiece.j0 k a0 a1 true a2_0 a2_1 a2_2 a2_3 a2_4 a2_5 a2_6 l2_7 l2_8))) = some (r1, r2) := by rw [if_pos rfl] at H; exact H
      clear H
      have H := H1
      clear H1
      replace H := Option.bind_eq_some_iff.mp H
      obtain ⟨t259, A80, H⟩ := H
      replace H : (if t259 = true then ((bailiwickref3_in.f a2_5 65535).bind fun t260 => (if t260 = true then ((bailiwickref3_in.f a2_6 65535).bind fun t261 => (if t261 = true then ((bailiwickref3_in.f a2_4 255).bind fun t262 => (if t262 = true then (if (l2_7.length : Int) > 40 then (bailiwickref3_BuildPiece.j0 k a0 a1 true a2_0 a2_1 a2_2 a2_3 a2_4 a2_5 a2_6 l2_7 l2_8) else (bailiwickref3_BuildPiece.j0 k a0 a1 (((l2_7.length : Int) % 4) != 0) a2_0 a2_1 a2_2 a2_3 a2_4 a2_5 a2_6 l2_7 l2_8)) else (bailiwickref3_BuildPiece.j0 k a0 a1 true a2_0 a2_1 a2_2 a2_3 a2_4 a2_5 a2_6 l2_7 l2_8))) else (bailiwickref3_BuildPiece.j0 k a0 a1 true a2_0 a2_1 a2_2 a2_3 a2_4 a2_5 a2_6 l2_7 l2_8))) else (bailiwickref3_BuildPiece.j0 k a0 a1 true a2_0 a2_1 a2_2 a2_3 a2_4 a2_5 a2_6 l2_7 l2_8))) else (bailiwickref3_BuildPiece.j0 k a0 a1 true a2_0 a2_1 a2_2 a2_3 a2_4 a2_5 a2_6 l2_7 l2_8)) = some (r1, r2) := H
      have A8 := Aside0.mk A80
      clear A80
      by_cases c9 : t259 = true
      · subst c9
        have H1 : ((bailiwickref3_in.f a2_5 65535).bind fun t260 => (if t260 = true then ((bailiwickref3_in.f a2_6 65535).bind fun t261 => (if t261 = true then ((bailiwickref3_in.f a2_4 255).bind fun t262 => (if t262 = true then (if (l2_7.length : Int) > 40 then (bailiwickref3_BuildPiece.j0 k a0 a1 true a2_0 a2_1 a2_2 a2_3 a2_4 a2_5 a2_6 l2_7 l2_8) else (bailiwickref3_BuildPiece.j0 k a0 a1 (((l2_7.length : Int) % 4) != 0) a2_0 a2_1 a2_2 a2_3 a2_4 a2_5 a2_6 l2_7 l2_8)) else (bailiwickref3_BuildPiece.j0 k a0 a1 true a2_0 a2_1 a2_2 a2_3 a2_4 a2_5 a2_6 l2_7 l2_8))) else (bailiwickref3_BuildPiece.j0 k a0 a1 true a2_0 a2_1 a2_2 a2_3 a2_4 a2_5 a2_6 l2_7 l2_8))) else (bailiwickref3_BuildPiece.j0 k a0 a1 true a2_0 a2_1 a2_2 a2_3 a2_4 a2_5 a2_6 l2_7 l2_8))) = some (r1, r2) := by rw [if_pos rfl] at H; exact H
        clear H
        have H := H1
        clear H1
        replace H := Option.bind_eq_some_iff.mp H
        obtain ⟨t260, A100, H⟩ := H
        replace H : (if t260 = true then ((bailiwickref3_in.f a2_6 65535).bind fun t261 => (if t261 = true then ((bailiwickref3_in.f a2_4 255).bind fun t262 => (if t262 = true then (if (l2_7.length : Int) > 40 then (bailiwickref3_BuildPiece.j0 k a0 a1 true a2_0 a2_1 a2_2 a2_3 a2_4 a2_5 a2_6 l2_7 l2_8) else (bailiwickref3_BuildPiece.j0 k a0 a1 (((l2_7.length : Int) % 4) != 0) a2_0 a2_1 a2_2 a2_3 a2_4 a2_5 a2_6 l2_7 l2_8)) else (bailiwickref3_BuildPiece.j0 k a0 a1 true a2_0 a2_1 a2_2 a2_3 a2_4 a2_5 a2_6 l2_7 l2_8))) else (bailiwickref3_BuildPiece.j0 k a0 a1 true a2_0 a2_1 a2_2 a2_3 a2_4 a2_5 a2_6 l2_7 l2_8))) else (bailiwickref3_BuildPiece.j0 k a0 a1 true a2_0 a2_1 a2_2 a2_3 a2_4 a2_5 a2_6 l2_7 l2_8)) = some (r1, r2) := H
        have A10 := Aside0.mk A100
        clear A100
        by_cases c11 : t260 = true
        · subst c11
          have H1 : ((bailiwickref3_in.f a2_6 65535).bind fun t261 => (if t261 = true then ((bailiwickref3_in.f a2_4 255).bind fun t262 => (if t262 = true then (if (l2_7.length : Int) > 40 then (bailiwickref3_BuildPiece.j0 k a0 a1 true a2_0 a2_1 a2_2 a2_3 a2_4 a2_5 a2_6 l2_7 l2_8) else (bailiwickref3_BuildPiece.j0 k a0 a1 (((l2_7.length : Int) % 4) != 0) a2_0 a2_1 a2_2 a2_3 a2_4 a2_5 a2_6 l2_7 l2_8)) else (bailiwickref3_BuildPiece.j0 k a0 a1 true a2_0 a2_1 a2_2 a2_3 a2_4 a2_5 a2_6 l2_7 l2_8))) else (bailiwickref3_BuildPiece.j0 k a0 a1 true a2_0 a2_1 a2_2 a2_3 a2_4 a2_5 a2_6 l2_7 l2_8))) = some (r1, r2) := by rw [if_pos rfl] at H; exact H
          clear H
          have H := H1
          clear H1
          replace H := Option.bind_eq_some_iff.mp H
          obtain ⟨t261, A120, H⟩ := H
          replace H : (if t261 = true then ((bailiwickref3_in.f a2_4 255).bind fun t262 => (if t262 = true then (if (l2_7.length : Int) > 40 then (bailiwickref3_BuildPiece.j0 k a0 a1 true a2_0 a2_1 a2_2 a2_3 a2_4 a2_5 a2_6 l2_7 l2_8) else (bailiwickref3_BuildPiece.j0 k a0 a1 (((l2_7.length : Int) % 4) != 0) a2_0 a2_1 a2_2 a2_3 a2_4 a2_5 a2_6 l2_7 l2_8)) else (bailiwickref3_BuildPiece.j0 k a0 a1 true a2_0 a2_1 a2_2 a2_3 a2_4 a2_5 a2_6 l2_7 l2_8))) else (bailiwickref3_BuildPiece.j0 k a0 a1 true a2_0 a2_1 a2_2 a2_3 a2_4 a2_5 a2_6 l2_7 l2_8)) = some (r1, r2) := H
          have A12 := Aside0.mk A120
          clear A120
          by_cases c13 : t261 = true
          · subst c13
            have H1 : ((bailiwickref3_in.f a2_4 255).bind fun t262 => (if t262 = true then (if (l2_7.length : Int) > 40 then (bailiwickref3_BuildPiece.j0 k a0 a1 true a2_0 a2_1 a2_2 a2_3 a2_4 a2_5 a2_6 l2_7 l2_8) else (bailiwickref3_BuildPiece.j0 k a0 a1 (((l2_7.length : Int) % 4) != 0) a2_0 a2_1 a2_2 a2_3 a2_4 a2_5 a2_6 l2_7 l2_8)) else (bailiwickref3_BuildPiece.j0 k a0 a1 true a2_0 a2_1 a2_2 a2_3 a2_4 a2_5 a2_6 l2_7 l2_8))) = some (r1, r2) := by rw [if_pos rfl] at H; exact H
            clear H
            have H := H1
            clear H1
            replace H := Option.bind_eq_some_iff.mp H
            obtain ⟨t262, A140, H⟩ := H
            replace H : (if t262 = true then (if (l2_7.length : Int) > 40 then (bailiwickref3_BuildPiece.j0 k a0 a1 true a2_0 a2_1 a2_2 a2_3 a2_4 a2_5 a2_6 l2_7 l2_8) else (bailiwickref3_BuildPiece.j0 k a0 a1 (((l2_7.length : Int) % 4) != 0) a2_0 a2_1 a2_2 a2_3 a2_4 a2_5 a2_6 l2_7 l2_8)) else (bailiwickref3_BuildPiece.j0 k a0 a1 true a2_0 a2_1 a2_2 a2_3 a2_4 a2_5 a2_6 l2_7 l2_8)) = some (r1, r2) := H
            have A14 := Aside0.mk A140
            clear A140
            by_cases c15 : t262 = true
            · subst c15
              have H1 : (if (l2_7.length : Int) > 40 then (bailiwickref3_BuildPiece.j0 k a0 a1 true a2_0 a2_1 a2_2 a2_3 a2_4 a2_5 a2_6 l2_7 l2_8) else (bailiwickref3_BuildPiece.j0 k a0 a1 (((l2_7.length : Int) % 4) != 0) a2_0 a2_1 a2_2 a2_3 a2_4 a2_5 a2_6 l2_7 l2_8)) = some (r1, r2) := by rw [if_pos rfl] at H; exact H
              clear H
              have H := H1
              clear H1
              by_cases c16 : (l2_7.length : Int) > 40
              · rw [if_pos c16] at H
                have c16b0 : decide (40 < (l2_7.length : Int)) = true := decide_eq_true c16
                have c16b1 : decide (40 < l2_7.length) = true := decide_eq_true (by omega)
                clear c16
                (first | rw [c16b0] | (simp only [i64_w, i32_w]; rw [c16b0]) | skip)
                have H' := Aside0.mk H
                clear H
                have hcz17_0 : w5.cell? ⟨gb257, 0, none⟩ = some (.int .i64 a2_0) := (blk_cell BK257.out 0).trans rfl
                have hcz17_1 : w5.cell? ⟨gb257, 1, none⟩ = some (.int .i64 a2_1) := (blk_cell BK257.out 1).trans rfl
                have hcz17_2 : w5.cell? ⟨gb257, 2, none⟩ = some (.int .u32 a2_2) := (blk_cell BK257.out 2).trans rfl
                have hcz17_3 : w5.cell? ⟨gb257, 3, none⟩ = some (.int .u32 a2_3) := (blk_cell BK257.out 3).trans rfl
                have hcz17_4 : w5.cell? ⟨gb257, 4, none⟩ = some (.int .i64 a2_4) := (blk_cell BK257.out 4).trans rfl
                have hcz17_5 : w5.cell? ⟨gb257, 5, none⟩ = some (.int .i64 a2_5) := (blk_cell BK257.out 5).trans rfl
                have hcz17_6 : w5.cell? ⟨gb257, 6, none⟩ = some (.int .i64 a2_6) := (blk_cell BK257.out 6).trans rfl
                have hcz17_7 : w5.cell? ⟨gb257, 7, none⟩ = some (.slice A2_7 l2_7.length c2_7) := (blk_cell BK257.out 7).trans rfl
                have hcz17_8 : w5.cell? ⟨gb257, 8, none⟩ = some (.slice A2_8 l2_8.length c2_8) := (blk_cell BK257.out 8).trans rfl
                have hfz17_0 := blk_frozen BK257.out 0
                have hfz17_1 := blk_frozen BK257.out 1
                have hfz17_2 := blk_frozen BK257.out 2
                have hfz17_3 := blk_frozen BK257.out 3
                have hfz17_4 := blk_frozen BK257.out 4
                have hfz17_5 := blk_frozen BK257.out 5
                have hfz17_6 := blk_frozen BK257.out 6
                have hfz17_7 := blk_frozen BK257.out 7
                have hfz17_8 := blk_frozen BK257.out 8
                go_wp2_with (first | ((with_reducible refine gate_callee (f := 48) rfl ?_); refine goesL_ (some 15) rfl rfl Try.func48 (by kernel_rfl) rfl #[.int .i64 a2_0, .int .i64 65535] rfl (by (try simp only [List.map_toArray, List.map_cons, List.map_nil]); first | done | rfl | (simp only [List.length_drop, List.length_take]; rfl)) ?_; (with_reducible refine (bailiwickref3_in.calls a2_0 65535 true _ A6.out).mono ?_); rintro e w' ⟨rfl, ⟨nd, rfl⟩⟩; refine ⟨_, rfl, ?_⟩) | (go_at_call 48; (with_reducible refine (bailiwickref3_in.calls a2_1 65535 true _ A8.out).mono ?_); rintro e w' ⟨rfl, ⟨nd, rfl⟩⟩) | (go_at_call 48; (with_reducible refine (bailiwickref3_in.calls a2_5 65535 true _ A10.out).mono ?_); rintro e w' ⟨rfl, ⟨nd, rfl⟩⟩) | (go_at_call 48; (with_reducible refine (bailiwickref3_in.calls a2_6 65535 true _ A12.out).mono ?_); rintro e w' ⟨rfl, ⟨nd, rfl⟩⟩) | (go_at_call 48; (with_reducible refine (bailiwickref3_in.calls a2_4 255 true _ A14.out).mono ?_); rintro e w' ⟨rfl, ⟨nd, rfl⟩⟩))
                go_meet
                case rel => exact ⟨_, (true), (by first | rfl | (simp; done) | (simp [*]; done)), H', ⟨by first | omega | exact Nat.le_refl _⟩, ⟨by (with_reducible repeat (first | refine blk_drewN ?_ _ | refine blk_drew ?_ | refine blk_alloc ?_ _)); exact BK257.out⟩, ⟨by repeat (first | (with_reducible first | exact HB.out | apply below_alloc | apply pw_below_drewN | apply below_drew1 | refine below_set ?_ GE257.out) | exact HB.out)⟩⟩
              · rw [if_neg c16] at H
                have c16b0 : decide (40 < (l2_7.length : Int)) = false := decide_eq_false c16
                have c16b1 : decide (40 < l2_7.length) = false := decide_eq_false (by omega)
                clear c16
                (first | rw [c16b0] | (simp only [i64_w, i32_w]; rw [c16b0]) | skip)
                have H' := Aside0.mk H
                clear H
                have hcz18_0 : w5.cell? ⟨gb257, 0, none⟩ = some (.int .i64 a2_0) := (blk_cell BK257.out 0).trans rfl
                have hcz18_1 : w5.cell? ⟨gb257, 1, none⟩ = some (.int .i64 a2_1) := (blk_cell BK257.out 1).trans rfl
                have hcz18_2 : w5.cell? ⟨gb257, 2, none⟩ = some (.int .u32 a2_2) := (blk_cell BK257.out 2).trans rfl
                have hcz18_3 : w5.cell? ⟨gb257, 3, none⟩ = some (.int .u32 a2_3) := (blk_cell BK257.out 3).trans rfl
                have hcz18_4 : w5.cell? ⟨gb257, 4, none⟩ = some (.int .i64 a2_4) := (blk_cell BK257.out 4).trans rfl
                have hcz18_5 : w5.cell? ⟨gb257, 5, none⟩ = some (.int .i64 a2_5) := (blk_cell BK257.out 5).trans rfl
                have hcz18_6 : w5.cell? ⟨gb257, 6, none⟩ = some (.int .i64 a2_6) := (blk_cell BK257.out 6).trans rfl
                have hcz18_7 : w5.cell? ⟨gb257, 7, none⟩ = some (.slice A2_7 l2_7.length c2_7) := (blk_cell BK257.out 7).trans rfl
                have hcz18_8 : w5.cell? ⟨gb257, 8, none⟩ = some (.slice A2_8 l2_8.length c2_8) := (blk_cell BK257.out 8).trans rfl
                have hfz18_0 := blk_frozen BK257.out 0
                have hfz18_1 := blk_frozen BK257.out 1
                have hfz18_2 := blk_frozen BK257.out 2
                have hfz18_3 := blk_frozen BK257.out 3
                have hfz18_4 := blk_frozen BK257.out 4
                have hfz18_5 := blk_frozen BK257.out 5
                have hfz18_6 := blk_frozen BK257.out 6
                have hfz18_7 := blk_frozen BK257.out 7
                have hfz18_8 := blk_frozen BK257.out 8
                go_wp2_with (first | ((with_reducible refine gate_callee (f := 48) rfl ?_); refine goesL_ (some 15) rfl rfl Try.func48 (by kernel_rfl) rfl #[.int .i64 a2_0, .int .i64 65535] rfl (by (try simp only [List.map_toArray, List.map_cons, List.map_nil]); first | done | rfl | (simp only [List.length_drop, List.length_take]; rfl)) ?_; (with_reducible refine (bailiwickref3_in.calls a2_0 65535 true _ A6.out).mono ?_); rintro e w' ⟨rfl, ⟨nd, rfl⟩⟩; refine ⟨_, rfl, ?_⟩) | (go_at_call 48; (with_reducible refine (bailiwickref3_in.calls a2_1 65535 true _ A8.out).mono ?_); rintro e w' ⟨rfl, ⟨nd, rfl⟩⟩) | (go_at_call 48; (with_reducible refine (bailiwickref3_in.calls a2_5 65535 true _ A10.out).mono ?_); rintro e w' ⟨rfl, ⟨nd, rfl⟩⟩) | (go_at_call 48; (with_reducible refine (bailiwickref3_in.calls a2_6 65535 true _ A12.out).mono ?_); rintro e w' ⟨rfl, ⟨nd, rfl⟩⟩) | (go_at_call 48; (with_reducible refine (bailiwickref3_in.calls a2_4 255 true _ A14.out).mono ?_); rintro e w' ⟨rfl, ⟨nd, rfl⟩⟩))
                go_meet
                case rel => exact ⟨_, ((((l2_7.length : Int) % 4) != 0)), (by first | rfl | (simp; done) | (simp [*]; done)), H', ⟨by first | omega | exact Nat.le_refl _⟩, ⟨by (with_reducible repeat (first | refine blk_drewN ?_ _ | refine blk_drew ?_ | refine blk_alloc ?_ _)); exact BK257.out⟩, ⟨by repeat (first | (with_reducible first | exact HB.out | apply below_alloc | apply pw_below_drewN | apply below_drew1 | refine below_set ?_ GE257.out) | exact HB.out)⟩⟩
            · replace c15 := Bool.eq_false_iff.mpr c15
              subst c15
              have H1 : (bailiwickref3_BuildPiece.j0 k a0 a1 true a2_0 a2_1 a2_2 a2_3 a2_4 a2_5 a2_6 l2_7 l2_8) = some (r1, r2) := by rw [if_neg (show ¬ (false = true) by decide)] at H; exact H
              clear H
              have H := H1
              clear H1
              have H' := Aside0.mk H
              clear H
              have hcz19_0 : w5.cell? ⟨gb257, 0, none⟩ = some (.int .i64 a2_0) := (blk_cell BK257.out 0).trans rfl
              have hcz19_1 : w5.cell? ⟨gb257, 1, none⟩ = some (.int .i64 a2_1) := (blk_cell BK257.out 1).trans rfl
              have hcz19_2 : w5.cell? ⟨gb257, 2, none⟩ = some (.int .u32 a2_2) := (blk_cell BK257.out 2).trans rfl
              have hcz19_3 : w5.cell? ⟨gb257, 3, none⟩ = some (.int .u32 a2_3) := (blk_cell BK257.out 3).trans rfl
              have hcz19_4 : w5.cell? ⟨gb257, 4, none⟩ = some (.int .i64 a2_4) := (blk_cell BK257.out 4).trans rfl
              have hcz19_5 : w5.cell? ⟨gb257, 5, none⟩ = some (.int .i64 a2_5) := (blk_cell BK257.out 5).trans rfl
              have hcz19_6 : w5.cell? ⟨gb257, 6, none⟩ = some (.int .i64 a2_6) := (blk_cell BK257.out 6).trans rfl
              have hcz19_7 : w5.cell? ⟨gb257, 7, none⟩ = some (.slice A2_7 l2_7.length c2_7) := (blk_cell BK257.out 7).trans rfl
              have hcz19_8 : w5.cell? ⟨gb257, 8, none⟩ = some (.slice A2_8 l2_8.length c2_8) := (blk_cell BK257.out 8).trans rfl
              have hfz19_0 := blk_frozen BK257.out 0
              have hfz19_1 := blk_frozen BK257.out 1
              have hfz19_2 := blk_frozen BK257.out 2
              have hfz19_3 := blk_frozen BK257.out 3
              have hfz19_4 := blk_frozen BK257.out 4
              have hfz19_5 := blk_frozen BK257.out 5
              have hfz19_6 := blk_frozen BK257.out 6
              have hfz19_7 := blk_frozen BK257.out 7
              have hfz19_8 := blk_frozen BK257.out 8
              go_wp2_with (first | ((with_reducible refine gate_callee (f := 48) rfl ?_); refine goesL_ (some 15) rfl rfl Try.func48 (by kernel_rfl) rfl #[.int .i64 a2_0, .int .i64 65535] rfl (by (try simp only [List.map_toArray, List.map_cons, List.map_nil]); first | done | rfl | (simp only [List.length_drop, List.length_take]; rfl)) ?_; (with_reducible refine (bailiwickref3_in.calls a2_0 65535 true _ A6.out).mono ?_); rintro e w' ⟨rfl, ⟨nd, rfl⟩⟩; refine ⟨_, rfl, ?_⟩) | (go_at_call 48; (with_reducible refine (bailiwickref3_in.calls a2_1 65535 true _ A8.out).mono ?_); rintro e w' ⟨rfl, ⟨nd, rfl⟩⟩) | (go_at_call 48; (with_reducible refine (bailiwickref3_in.calls a2_5 65535 true _ A10.out).mono ?_); rintro e w' ⟨rfl, ⟨nd, rfl⟩⟩) | (go_at_call 48; (with_reducible refine (bailiwickref3_in.calls a2_6 65535 true _ A12.out).mono ?_); rintro e w' ⟨rfl, ⟨nd, rfl⟩⟩) | (go_at_call 48; (with_reducible refine (bailiwickref3_in.calls a2_4 255 false _ A14.out).mono ?_); rintro e w' ⟨rfl, ⟨nd, rfl⟩⟩))
              go_meet
              case rel => exact ⟨_, (true), (by first | rfl | (simp; done) | (simp [*]; done)), H', ⟨by first | omega | exact Nat.le_refl _⟩, ⟨by (with_reducible repeat (first | refine blk_drewN ?_ _ | refine blk_drew ?_ | refine blk_alloc ?_ _)); exact BK257.out⟩, ⟨by repeat (first | (with_reducible first | exact HB.out | apply below_alloc | apply pw_below_drewN | apply below_drew1 | refine below_set ?_ GE257.out) | exact HB.out)⟩⟩
          · replace c13 := Bool.eq_false_iff.mpr c13
            subst c13
            have H1 : (bailiwickref3_BuildPiece.j0 k a0 a1 true a2_0 a2_1 a2_2 a2_3 a2_4 a2_5 a2_6 l2_7 l2_8) = some (r1, r2) := by rw [if_neg (show ¬ (false = true) by decide)] at H; exact H
            clear H
            have H := H1
            clear H1
            have H' := Aside0.mk H
            clear H
            have hcz20_0 : w5.cell? ⟨gb257, 0, none⟩ = some (.int .i64 a2_0) := (blk_cell BK257.out 0).trans rfl
            have hcz20_1 : w5.cell? ⟨gb257, 1, none⟩ = some (.int .i64 a2_1) := (blk_cell BK257.out 1).trans rfl
            have hcz20_2 : w5.cell? ⟨gb257, 2, none⟩ = some (.int .u32 a2_2) := (blk_cell BK257.out 2).trans rfl
            have hcz20_3 : w5.cell? ⟨gb257, 3, none⟩ = some (.int .u32 a2_3) := (blk_cell BK257.out 3).trans rfl
            have hcz20_4 : w5.cell? ⟨gb257, 4, none⟩ = some (.int .i64 a2_4) := (blk_cell BK257.out 4).trans rfl
            have hcz20_5 : w5.cell? ⟨gb257, 5, none⟩ = some (.int .i64 a2_5) := (blk_cell BK257.out 5).trans rfl
            have hcz20_6 : w5.cell? ⟨gb257, 6, none⟩ = some (.int .i64 a2_6) := (blk_cell BK257.out 6).trans rfl
            have hcz20_7 : w5.cell? ⟨gb257, 7, none⟩ = some (.slice A2_7 l2_7.length c2_7) := (blk_cell BK257.out 7).trans rfl
            have hcz20_8 : w5.cell? ⟨gb257, 8, none⟩ = some (.slice A2_8 l2_8.length c2_8) := (blk_cell BK257.out 8).trans rfl
            have hfz20_0 := blk_frozen BK257.out 0
            have hfz20_1 := blk_frozen BK257.out 1
            have hfz20_2 := blk_frozen BK257.out 2
            have hfz20_3 := blk_frozen BK257.out 3
            have hfz20_4 := blk_frozen BK257.out 4
            have hfz20_5 := blk_frozen BK257.out 5
            have hfz20_6 := blk_frozen BK257.out 6
            have hfz20_7 := blk_frozen BK257.out 7
            have hfz20_8 := blk_frozen BK257.out 8
            go_wp2_with (first | ((with_reducible refine gate_callee (f := 48) rfl ?_); refine goesL_ (some 15) rfl rfl Try.func48 (by kernel_rfl) rfl #[.int .i64 a2_0, .int .i64 65535] rfl (by (try simp only [List.map_toArray, List.map_cons, List.map_nil]); first | done | rfl | (simp only [List.length_drop, List.length_take]; rfl)) ?_; (with_reducible refine (bailiwickref3_in.calls a2_0 65535 true _ A6.out).mono ?_); rintro e w' ⟨rfl, ⟨nd, rfl⟩⟩; refine ⟨_, rfl, ?_⟩) | (go_at_call 48; (with_reducible refine (bailiwickref3_in.calls a2_1 65535 true _ A8.out).mono ?_); rintro e w' ⟨rfl, ⟨nd, rfl⟩⟩) | (go_at_call 48; (with_reducible refine (bailiwickref3_in.calls a2_5 65535 true _ A10.out).mono ?_); rintro e w' ⟨rfl, ⟨nd, rfl⟩⟩) | (go_at_call 48; (with_reducible refine (bailiwickref3_in.calls a2_6 65535 false _ A12.out).mono ?_); rintro e w' ⟨rfl, ⟨nd, rfl⟩⟩))
            go_meet
            case rel => exact ⟨_, (true), (by first | rfl | (simp; done) | (simp [*]; done)), H', ⟨by first | omega | exact Nat.le_refl _⟩, ⟨by (with_reducible repeat (first | refine blk_drewN ?_ _ | refine blk_drew ?_ | refine blk_alloc ?_ _)); exact BK257.out⟩, ⟨by repeat (first | (with_reducible first | exact HB.out | apply below_alloc | apply pw_below_drewN | apply below_drew1 | refine below_set ?_ GE257.out) | exact HB.out)⟩⟩
        · replace c11 := Bool.eq_false_iff.mpr c11
          subst c11
          have H1 : (bailiwickref3_BuildPiece.j0 k a0 a1 true a2_0 a2_1 a2_2 a2_3 a2_4 a2_5 a2_6 l2_7 l2_8) = some (r1, r2) := by rw [if_neg (show ¬ (false = true) by decide)] at H; exact H
          clear H
          have H := H1
          clear H1
          have H' := Aside0.mk H
          clear H
          have hcz21_0 : w5.cell? ⟨gb257, 0, none⟩ = some (.int .i64 a2_0) := (blk_cell BK257.out 0).trans rfl
          have hcz21_1 : w5.cell? ⟨gb257, 1, none⟩ = some (.int .i64 a2_1) := (blk_cell BK257.out 1).trans rfl
          have hcz21_2 : w5.cell? ⟨gb257, 2, none⟩ = some (.int .u32 a2_2) := (blk_cell BK257.out 2).trans rfl
          have hcz21_3 : w5.cell? ⟨gb257, 3, none⟩ = some (.int .u32 a2_3) := (blk_cell BK257.out 3).trans rfl
          have hcz21_4 : w5.cell? ⟨gb257, 4, none⟩ = some (.int .i64 a2_4) := (blk_cell BK257.out 4).trans rfl
          have hcz21_5 : w5.cell? ⟨gb257, 5, none⟩ = some (.int .i64 a2_5) := (blk_cell BK257.out 5).trans rfl
          have hcz21_6 : w5.cell? ⟨gb257, 6, none⟩ = some (.int .i64 a2_6) := (blk_cell BK257.out 6).trans rfl
          have hcz21_7 : w5.cell? ⟨gb257, 7, none⟩ = some (.slice A2_7 l2_7.length c2_7) := (blk_cell BK257.out 7).trans rfl
          have hcz21_8 : w5.cell? ⟨gb257, 8, none⟩ = some (.slice A2_8 l2_8.length c2_8) := (blk_cell BK257.out 8).trans rfl
          have hfz21_0 := blk_frozen BK257.out 0
          have hfz21_1 := blk_frozen BK257.out 1
          have hfz21_2 := blk_frozen BK257.out 2
          have hfz21_3 := blk_frozen BK257.out 3
          have hfz21_4 := blk_frozen BK257.out 4
          have hfz21_5 := blk_frozen BK257.out 5
          have hfz21_6 := blk_frozen BK257.out 6
          have hfz21_7 := blk_frozen BK257.out 7
          have hfz21_8 := blk_frozen BK257.out 8
          go_wp2_with (first | ((with_reducible refine gate_callee (f := 48) rfl ?_); refine goesL_ (some 15) rfl rfl Try.func48 (by kernel_rfl) rfl #[.int .i64 a2_0, .int .i64 65535] rfl (by (try simp only [List.map_toArray, List.map_cons, List.map_nil]); first | done | rfl | (simp only [List.length_drop, List.length_take]; rfl)) ?_; (with_reducible refine (bailiwickref3_in.calls a2_0 65535 true _ A6.out).mono ?_); rintro e w' ⟨rfl, ⟨nd, rfl⟩⟩; refine ⟨_, rfl, ?_⟩) | (go_at_call 48; (with_reducible refine (bailiwickref3_in.calls a2_1 65535 true _ A8.out).mono ?_); rintro e w' ⟨rfl, ⟨nd, rfl⟩⟩) | (go_at_call 48; (with_reducible refine (bailiwickref3_in.calls a2_5 65535 false _ A10.out).mono ?_); rintro e w' ⟨rfl, ⟨nd, rfl⟩⟩))
          go_meet
          case rel => exact ⟨_, (true), (by first | rfl | (simp; done) | (simp [*]; done)), H', ⟨by first | omega | exact Nat.le_refl _⟩, ⟨by (with_reducible repeat (first | refine blk_drewN ?_ _ | refine blk_drew ?_ | refine blk_alloc ?_ _)); exact BK257.out⟩, ⟨by repeat (first | (with_reducible first | exact HB.out | apply below_alloc | apply pw_below_drewN | apply below_drew1 | refine below_set ?_ GE257.out) | exact HB.out)⟩⟩
      · replace c9 := Bool.eq_false_iff.mpr c9
        subst c9
        have H1 : (bailiwickref3_BuildPiece.j0 k a0 a1 true a2_0 a2_1 a2_2 a2_3 a2_4 a2_5 a2_6 l2_7 l2_8) = some (r1, r2) := by rw [if_neg (show ¬ (false = true) by decide)] at H; exact H
        clear H
        have H := H1
        clear H1
        have H' := Aside0.mk H
        clear H
        have hcz22_0 : w5.cell? ⟨gb257, 0, none⟩ = some (.int .i64 a2_0) := (blk_cell BK257.out 0).trans rfl
        have hcz22_1 : w5.cell? ⟨gb257, 1, none⟩ = some (.int .i64 a2_1) := (blk_cell BK257.out 1).trans rfl
        have hcz22_2 : w5.cell? ⟨gb257, 2, none⟩ = some (.int .u32 a2_2) := (blk_cell BK257.out 2).trans rfl
        have hcz22_3 : w5.cell? ⟨gb257, 3, none⟩ = some (.int .u32 a2_3) := (blk_cell BK257.out 3).trans rfl
        have hcz22_4 : w5.cell? ⟨gb257, 4, none⟩ = some (.int .i64 a2_4) := (blk_cell BK257.out 4).trans rfl
        have hcz22_5 : w5.cell? ⟨gb257, 5, none⟩ = some (.int .i64 a2_5) := (blk_cell BK257.out 5).trans rfl
        have hcz22_6 : w5.cell? ⟨gb257, 6, none⟩ = some (.int .i64 a2_6) := (blk_cell BK257.out 6).trans rfl
        have hcz22_7 : w5.cell? ⟨gb257, 7, none⟩ = some (.slice A2_7 l2_7.length c2_7) := (blk_cell BK257.out 7).trans rfl
        have hcz22_8 : w5.cell? ⟨gb257, 8, none⟩ = some (.slice A2_8 l2_8.length c2_8) := (blk_cell BK257.out 8).trans rfl
        have hfz22_0 := blk_frozen BK257.out 0
        have hfz22_1 := blk_frozen BK257.out 1
        have hfz22_2 := blk_frozen BK257.out 2
        have hfz22_3 := blk_frozen BK257.out 3
        have hfz22_4 := blk_frozen BK257.out 4
        have hfz22_5 := blk_frozen BK257.out 5
        have hfz22_6 := blk_frozen BK257.out 6
        have hfz22_7 := blk_frozen BK257.out 7
        have hfz22_8 := blk_frozen BK257.out 8
        go_wp2_with (first | ((with_reducible refine gate_callee (f := 48) rfl ?_); refine goesL_ (some 15) rfl rfl Try.func48 (by kernel_rfl) rfl #[.int .i64 a2_0, .int .i64 65535] rfl (by (try simp only [List.map_toArray, List.map_cons, List.map_nil]); first | done | rfl | (simp only [List.length_drop, List.length_take]; rfl)) ?_; (with_reducible refine (bailiwickref3_in.calls a2_0 65535 true _ A6.out).mono ?_); rintro e w' ⟨rfl, ⟨nd, rfl⟩⟩; refine ⟨_, rfl, ?_⟩) | (go_at_call 48; (with_reducible refine (bailiwickref3_in.calls a2_1 65535 false _ A8.out).mono ?_); rintro e w' ⟨rfl, ⟨nd, rfl⟩⟩))
        go_meet
        case rel => exact ⟨_, (true), (by first | rfl | (simp; done) | (simp [*]; done)), H', ⟨by first | omega | exact Nat.le_refl _⟩, ⟨by (with_reducible repeat (first | refine blk_drewN ?_ _ | refine blk_drew ?_ | refine blk_alloc ?_ _)); exact BK257.out⟩, ⟨by repeat (first | (with_reducible first | exact HB.out | apply below_alloc | apply pw_below_drewN | apply below_drew1 | refine below_set ?_ GE257.out) | exact HB.out)⟩⟩
    · replace c7 := Bool.eq_false_iff.mpr c7
      subst c7
      have H1 : (bailiwickref3_BuildPiece.j0 k a0 a1 true a2_0 a2_1 a2_2 a2_3 a2_4 a2_5 a2_6 l2_7 l2_8) = some (r1, r2) := by rw [if_neg (show ¬ (false = true) by decide)] at H; exact H
      clear H
      have H := H1
      clear H1
      have H' := Aside0.mk H
      clear H
      have hcz23_0 : w5.cell? ⟨gb257, 0, none⟩ = some (.int .i64 a2_0) := (blk_cell BK257.out 0).trans rfl
      have hcz23_1 : w5.cell? ⟨gb257, 1, none⟩ = some (.int .i64 a2_1) := (blk_cell BK257.out 1).trans rfl
      have hcz23_2 : w5.cell? ⟨gb257, 2, none⟩ = some (.int .u32 a2_2) := (blk_cell BK257.out 2).trans rfl
      have hcz23_3 : w5.cell? ⟨gb257, 3, none⟩ = some (.int .u32 a2_3) := (blk_cell BK257.out 3).trans rfl
      have hcz23_4 : w5.cell? ⟨gb257, 4, none⟩ = some (.int .i64 a2_4) := (blk_cell BK257.out 4).trans rfl
      have hcz23_5 : w5.cell? ⟨gb257, 5, none⟩ = some (.int .i64 a2_5) := (blk_cell BK257.out 5).trans rfl
      have hcz23_6 : w5.cell? ⟨gb257, 6, none⟩ = some (.int .i64 a2_6) := (blk_cell BK257.out 6).trans rfl
      have hcz23_7 : w5.cell? ⟨gb257, 7, none⟩ = some (.slice A2_7 l2_7.length c2_7) := (blk_cell BK257.out 7).trans rfl
      have hcz23_8 : w5.cell? ⟨gb257, 8, none⟩ = some (.slice A2_8 l2_8.length c2_8) := (blk_cell BK257.out 8).trans rfl
      have hfz23_0 := blk_frozen BK257.out 0
      have hfz23_1 := blk_frozen BK257.out 1
      have hfz23_2 := blk_frozen BK257.out 2
      have hfz23_3 := blk_frozen BK257.out 3
      have hfz23_4 := blk_frozen BK257.out 4
      have hfz23_5 := blk_frozen BK257.out 5
      have hfz23_6 := blk_frozen BK257.out 6
      have hfz23_7 := blk_frozen BK257.out 7
      have hfz23_8 := blk_frozen BK257.out 8
      go_wp2_with (first | ((with_reducible refine gate_callee (f := 48) rfl ?_); refine goesL_ (some 15) rfl rfl Try.func48 (by kernel_rfl) rfl #[.int .i64 a2_0, .int .i64 65535] rfl (by (try simp only [List.map_toArray, List.map_cons, List.map_nil]); first | done | rfl | (simp only [List.length_drop, List.length_take]; rfl)) ?_; (with_reducible refine (bailiwickref3_in.calls a2_0 65535 false _ A6.out).mono ?_); rintro e w' ⟨rfl, ⟨nd, rfl⟩⟩; refine ⟨_, rfl, ?_⟩))
      go_meet
      case rel => exact ⟨_, (true), (by first | rfl | (simp; done) | (simp [*]; done)), H', ⟨by first | omega | exact Nat.le_refl _⟩, ⟨by (with_reducible repeat (first | refine blk_drewN ?_ _ | refine blk_drew ?_ | refine blk_alloc ?_ _)); exact BK257.out⟩, ⟨by repeat (first | (with_reducible first | exact HB.out | apply below_alloc | apply pw_below_drewN | apply below_drew1 | refine below_set ?_ GE257.out) | exact HB.out)⟩⟩
  case rest =>
    clear HC4
    try clear c1
    try clear c2
    try clear p2
    try clear c4
    try clear c7
    try clear c9
    try clear c11
    try clear c13
    try clear c15
    try clear c16
    try clear c16b0
    try clear c16b1
    try clear hcz17_0
    try clear hcz17_1
    try clear hcz17_2
    try clear hcz17_3
    try clear hcz17_4
    try clear hcz17_5
    try clear hcz17_6
    try clear hcz17_7
    try clear hcz17_8
    try clear hcz18_0
    try clear hcz18_1
    try clear hcz18_2
    try clear hcz18_3
    try clear hcz18_4
    try clear hcz18_5
    try clear hcz18_6
    try clear hcz18_7
    try clear hcz18_8
    try clear hcz19_0
    try clear hcz19_1
    try clear hcz19_2
    try clear hcz19_3
    try clear hcz19_4
    try clear hcz19_5
    try clear hcz19_6
    try clear hcz19_7
    try clear hcz19_8
    try clear hcz20_0
    try clear hcz20_1
    try clear hcz20_2
    try clear hcz20_3
    try clear hcz20_4
    try clear hcz20_5
    try clear hcz20_6
    try clear hcz20_7
    try clear hcz20_8
    try clear hcz21_0
    try clear hcz21_1
    try clear hcz21_2
    try clear hcz21_3
    try clear hcz21_4
    try clear hcz21_5
    try clear hcz21_6
    try clear hcz21_7
    try clear hcz21_8
    try clear hcz22_0
    try clear hcz22_1
    try clear hcz22_2
    try clear hcz22_3
    try clear hcz22_4
    try clear hcz22_5
    try clear hcz22_6
    try clear hcz22_7
    try clear hcz22_8
    try clear hcz23_0
    try clear hcz23_1
    try clear hcz23_2
    try clear hcz23_3
    try clear hcz23_4
    try clear hcz23_5
    try clear hcz23_6
    try clear hcz23_7
    try clear hcz23_8
    try clear hfz17_0
    try clear hfz17_1
    try clear hfz17_2
    try clear hfz17_3
    try clear hfz17_4
    try clear hfz17_5
    try clear hfz17_6
    try clear hfz17_7
    try clear hfz17_8
    try clear hfz18_0
    try clear hfz18_1
    try clear hfz18_2
    try clear hfz18_3
    try clear hfz18_4
    try clear hfz18_5
    try clear hfz18_6
    try clear hfz18_7
    try clear hfz18_8
    try clear hfz19_0
    try clear hfz19_1
    try clear hfz19_2
    try clear hfz19_3
    try clear hfz19_4
    try clear hfz19_5
    try clear hfz19_6
    try clear hfz19_7
    try clear hfz19_8
    try clear hfz20_0
    try clear hfz20_1
    try clear hfz20_2
    try clear hfz20_3
    try clear hfz20_4
    try clear hfz20_5
    try clear hfz20_6
    try clear hfz20_7
    try clear hfz20_8
    try clear hfz21_0
    try clear hfz21_1
    try clear hfz21_2
    try clear hfz21_3
    try clear hfz21_4
    try clear hfz21_5
    try clear hfz21_6
    try clear hfz21_7
    try clear hfz21_8
    try clear hfz22_0
    try clear hfz22_1
    try clear hfz22_2
    try clear hfz22_3
    try clear hfz22_4
    try clear hfz22_5
    try clear hfz22_6
    try clear hfz22_7
    try clear hfz22_8
    try clear hfz23_0
    try clear hfz23_1
    try clear hfz23_2
    try clear hfz23_3
    try clear hfz23_4
    try clear hfz23_5
    try clear hfz23_6
    try clear hfz23_7
    try clear hfz23_8
    obtain ⟨kq, x53_3, rfl, HA, HJ3, BK257, HB⟩ := hcut
    cases kq with
    | zero => exact absurd HA.out (by simp [bailiwickref3_BuildPiece.j0])
    | succ kj3 =>
      have H := HA.out
      clear HA
      simp only [bailiwickref3_BuildPiece.j0] at H
      by_cases c24 : x53_3 = true
      · subst c24
        have H1 : (some (([] : List Int), 1)) = some (r1, r2) := by rw [if_pos rfl] at H; exact H
        clear H
        have H := H1
        clear H1
        simp only [Option.some.injEq, Prod.mk.injEq] at H
        obtain ⟨rfl, rfl⟩ := H
        go_wp2
        go_ret2
        exact ⟨_, by first | rfl | (simp [errW_none, errW_some] <;> rfl) | (simp [*, errW_none, errW_some] <;> rfl), by first | exact Kd.R_nil _ _ _ _ _ | exact Kd.N_nil _ _ _ _ _ | exact Kd.V_nil _ _ _ _ _ | exact Kd.Q_nil _ _ _ _ _ | exact Kd.S_nil _ _ _ _ _, by repeat (first | (with_reducible first | exact HB.out | apply below_alloc | apply pw_below_drewN | apply below_drew1 | refine below_set ?_ GE257.out) | exact HB.out)⟩
      · replace c24 := Bool.eq_false_iff.mpr c24
        subst c24
        have H1 : (if (l2_8.length : Int) > (wrap64 (2028 - (wrap64 (20 + (l2_7.length : Int))))) then (some (([] : List Int), 3)) else ((bailiwickref1_Lay.f kj3 ([] : List Int) 2 (IntKind.u64.wrap (a2_0))).bind fun t263 => ((bailiwickref1_Lay.f kj3 t263 2 (IntKind.u64.wrap (a2_1))).bind fun t266 => ((bailiwickref1_Lay.f kj3 t266 4 (IntKind.u64.wrap (a2_2))).bind fun t269 => ((bailiwickref1_Lay.f kj3 t269 4 (IntKind.u64.wrap (a2_3))).bind fun t272 => ((some (([(((wrap64 (Int.tdiv (wrap64 (20 + (l2_7.length : Int))) 4)) % 256) * 16) % 256, (a2_4) % 256] : List Int) : List Int)).bind fun y275 => (if t272.length + y275.length < 140737488355328 then ((bailiwickref1_Lay.f kj3 (t272 ++ y275) 2 (IntKind.u64.wrap (a2_5))).bind fun t281 => ((some (([0, 0] : List Int) : List Int)).bind fun y284 => (if t281.length + y284.length < 140737488355328 then ((bailiwickref1_Lay.f kj3 (t281 ++ y284) 2 (IntKind.u64.wrap (a2_6))).bind fun t290 => (bailiwickref3_BuildPiece.l0 kj3 a0 a1 t290 0 a2_0 a2_1 a2_2 a2_3 a2_4 a2_5 a2_6 l2_7 l2_8)) else (none)))) else (none)))))))) = some (r1, r2) := by rw [if_neg (show ¬ (false = true) by decide)] at H; exact H
        clear H
        have H := H1
        clear H1
        by_cases c25 : (l2_8.length : Int) > (wrap64 (2028 - (wrap64 (20 + (l2_7.length : Int)))))
        · rw [if_pos c25] at H
          have c25b0 : decide ((wrap64 (2028 - (wrap64 (20 + (l2_7.length : Int))))) < (l2_8.length : Int)) = true := decide_eq_true c25
          clear c25
          simp only [Option.some.injEq, Prod.mk.injEq] at H
          obtain ⟨rfl, rfl⟩ := H
          have hcz26_0 : wc.cell? ⟨gb257, 0, none⟩ = some (.int .i64 a2_0) := (blk_cell BK257.out 0).trans rfl
          have hcz26_1 : wc.cell? ⟨gb257, 1, none⟩ = some (.int .i64 a2_1) := (blk_cell BK257.out 1).trans rfl
          have hcz26_2 : wc.cell? ⟨gb257, 2, none⟩ = some (.int .u32 a2_2) := (blk_cell BK257.out 2).trans rfl
          have hcz26_3 : wc.cell? ⟨gb257, 3, none⟩ = some (.int .u32 a2_3) := (blk_cell BK257.out 3).trans rfl
          have hcz26_4 : wc.cell? ⟨gb257, 4, none⟩ = some (.int .i64 a2_4) := (blk_cell BK257.out 4).trans rfl
          have hcz26_5 : wc.cell? ⟨gb257, 5, none⟩ = some (.int .i64 a2_5) := (blk_cell BK257.out 5).trans rfl
          have hcz26_6 : wc.cell? ⟨gb257, 6, none⟩ = some (.int .i64 a2_6) := (blk_cell BK257.out 6).trans rfl
          have hcz26_7 : wc.cell? ⟨gb257, 7, none⟩ = some (.slice A2_7 l2_7.length c2_7) := (blk_cell BK257.out 7).trans rfl
          have hcz26_8 : wc.cell? ⟨gb257, 8, none⟩ = some (.slice A2_8 l2_8.length c2_8) := (blk_cell BK257.out 8).trans rfl
          have hfz26_0 := blk_frozen BK257.out 0
          have hfz26_1 := blk_frozen BK257.out 1
          have hfz26_2 := blk_frozen BK257.out 2
          have hfz26_3 := blk_frozen BK257.out 3
          have hfz26_4 := blk_frozen BK257.out 4
          have hfz26_5 := blk_frozen BK257.out 5
          have hfz26_6 := blk_frozen BK257.out 6
          have hfz26_7 := blk_frozen BK257.out 7
          have hfz26_8 := blk_frozen BK257.out 8
          go_wp2
          go_ret2
          exact ⟨_, by first | rfl | (simp [errW_none, errW_some] <;> rfl) | (simp [*, errW_none, errW_some] <;> rfl), by first | exact Kd.R_nil _ _ _ _ _ | exact Kd.N_nil _ _ _ _ _ | exact Kd.V_nil _ _ _ _ _ | exact Kd.Q_nil _ _ _ _ _ | exact Kd.S_nil _ _ _ _ _, by repeat (first | (with_reducible first | exact HB.out | apply below_alloc | apply pw_below_drewN | apply below_drew1 | refine below_set ?_ GE257.out) | exact HB.out)⟩
        · rw [if_neg c25] at H
          have c25b0 : decide ((wrap64 (2028 - (wrap64 (20 + (l2_7.length : Int))))) < (l2_8.length : Int)) = false := decide_eq_false c25
          clear c25
          replace H := Option.bind_eq_some_iff.mp H
          obtain ⟨t263, A270, H⟩ := H
          replace H : ((bailiwickref1_Lay.f kj3 t263 2 (IntKind.u64.wrap (a2_1))).bind fun t266 => ((bailiwickref1_Lay.f kj3 t266 4 (IntKind.u64.wrap (a2_2))).bind fun t269 => ((bailiwickref1_Lay.f kj3 t269 4 (IntKind.u64.wrap (a2_3))).bind fun t272 => ((some (([(((wrap64 (Int.tdiv (wrap64 (20 + (l2_7.length : Int))) 4)) % 256) * 16) % 256, (a2_4) % 256] : List Int) : List Int)).bind fun y275 => (if t272.length + y275.length < 140737488355328 then ((bailiwickref1_Lay.f kj3 (t272 ++ y275) 2 (IntKind.u64.wrap (a2_5))).bind fun t281 => ((some (([0, 0] : List Int) : List Int)).bind fun y284 => (if t281.length + y284.length < 140737488355328 then ((bailiwickref1_Lay.f kj3 (t281 ++ y284) 2 (IntKind.u64.wrap (a2_6))).bind fun t290 => (bailiwickref3_BuildPiece.l0 kj3 a0 a1 t290 0 a2_0 a2_1 a2_2 a2_3 a2_4 a2_5 a2_6 l2_7 l2_8)) else (none)))) else (none)))))) = some (r1, r2) := H
          have A27 := Aside0.mk A270
          clear A270
          replace H := Option.bind_eq_some_iff.mp H
          obtain ⟨t266, A280, H⟩ := H
          replace H : ((bailiwickref1_Lay.f kj3 t266 4 (IntKind.u64.wrap (a2_2))).bind fun t269 => ((bailiwickref1_Lay.f kj3 t269 4 (IntKind.u64.wrap (a2_3))).bind fun t272 => ((some (([(((wrap64 (Int.tdiv (wrap64 (20 + (l2_7.length : Int))) 4)) % 256) * 16) % 256, (a2_4) % 256] : List Int) : List Int)).bind fun y275 => (if t272.length + y275.length < 140737488355328 then ((bailiwickref1_Lay.f kj3 (t272 ++ y275) 2 (IntKind.u64.wrap (a2_5))).bind fun t281 => ((some (([0, 0] : List Int) : List Int)).bind fun y284 => (if t281.length + y284.length < 140737488355328 then ((bailiwickref1_Lay.f kj3 (t281 ++ y284) 2 (IntKind.u64.wrap (a2_6))).bind fun t290 => (bailiwickref3_BuildPiece.l0 kj3 a0 a1 t290 0 a2_0 a2_1 a2_2 a2_3 a2_4 a2_5 a2_6 l2_7 l2_8)) else (none)))) else (none))))) = some (r1, r2) := H
          have A28 := Aside0.mk A280
          clear A280
          replace H := Option.bind_eq_some_iff.mp H
          obtain ⟨t269, A290, H⟩ := H
          replace H : ((bailiwickref1_Lay.f kj3 t269 4 (IntKind.u64.wrap (a2_3))).bind fun t272 => ((some (([(((wrap64 (Int.tdiv (wrap64 (20 + (l2_7.length : Int))) 4)) % 256) * 16) % 256, (a2_4) % 256] : List Int) : List Int)).bind fun y275 => (if t272.length + y275.length < 140737488355328 then ((bailiwickref1_Lay.f kj3 (t272 ++ y275) 2 (IntKind.u64.wrap (a2_5))).bind fun t281 => ((some (([0, 0] : List Int) : List Int)).bind fun y284 => (if t281.length + y284.length < 140737488355328 then ((bailiwickref1_Lay.f kj3 (t281 ++ y284) 2 (IntKind.u64.wrap (a2_6))).bind fun t290 => (bailiwickref3_BuildPiece.l0 kj3 a0 a1 t290 0 a2_0 a2_1 a2_2 a2_3 a2_4 a2_5 a2_6 l2_7 l2_8)) else (none)))) else (none)))) = some (r1, r2) := H
          have A29 := Aside0.mk A290
          clear A290
          replace H := Option.bind_eq_some_iff.mp H
          obtain ⟨t272, A300, H⟩ := H
          replace H : ((some (([(((wrap64 (Int.tdiv (wrap64 (20 + (l2_7.length : Int))) 4)) % 256) * 16) % 256, (a2_4) % 256] : List Int) : List Int)).bind fun y275 => (if t272.length + y275.length < 140737488355328 then ((bailiwickref1_Lay.f kj3 (t272 ++ y275) 2 (IntKind.u64.wrap (a2_5))).bind fun t281 => ((some (([0, 0] : List Int) : List Int)).bind fun y284 => (if t281.length + y284.length < 140737488355328 then ((bailiwickref1_Lay.f kj3 (t281 ++ y284) 2 (IntKind.u64.wrap (a2_6))).bind fun t290 => (bailiwickref3_BuildPiece.l0 kj3 a0 a1 t290 0 a2_0 a2_1 a2_2 a2_3 a2_4 a2_5 a2_6 l2_7 l2_8)) else (none)))) else (none))) = some (r1, r2) := H
          have A30 := Aside0.mk A300
          clear A300
          obtain ⟨y275, hy275⟩ : ∃ y_ : List Int, y_ = (([(((wrap64 (Int.tdiv (wrap64 (20 + (l2_7.length : Int))) 4)) % 256) * 16) % 256, (a2_4) % 256] : List Int)) := ⟨_, rfl⟩
          replace H : (if t272.length + y275.length < 140737488355328 then ((bailiwickref1_Lay.f kj3 (t272 ++ y275) 2 (IntKind.u64.wrap (a2_5))).bind fun t281 => ((some (([0, 0] : List Int) : List Int)).bind fun y284 => (if t281.length + y284.length < 140737488355328 then ((bailiwickref1_Lay.f kj3 (t281 ++ y284) 2 (IntKind.u64.wrap (a2_6))).bind fun t290 => (bailiwickref3_BuildPiece.l0 kj3 a0 a1 t290 0 a2_0 a2_1 a2_2 a2_3 a2_4 a2_5 a2_6 l2_7 l2_8)) else (none)))) else (none)) = some (r1, r2) := by first | (rw [hy275]; with_reducible exact H) | (have H2_ := (Option.bind_some _ _).symm.trans H; rw [hy275]; with_reducible exact H2_) | (have H2_ := (Option.bind_some _ _).symm.trans H; with_reducible exact H2_) | with_reducible exact H | (rw [hy275]; exact H) | exact H
          have Ny275 := Aside0.mk hy275
          clear hy275
          by_cases c31 : t272.length + y275.length < 140737488355328
          · rw [if_pos c31] at H
            have LMc31 := Aside0.mk c31
            clear c31
            obtain ⟨y278, hy278⟩ : ∃ y_ : List Int, y_ = (t272 ++ y275) := ⟨_, rfl⟩
            replace H : ((bailiwickref1_Lay.f kj3 y278 2 (IntKind.u64.wrap (a2_5))).bind fun t281 => ((some (([0, 0] : List Int) : List Int)).bind fun y284 => (if t281.length + y284.length < 140737488355328 then ((bailiwickref1_Lay.f kj3 (t281 ++ y284) 2 (IntKind.u64.wrap (a2_6))).bind fun t290 => (bailiwickref3_BuildPiece.l0 kj3 a0 a1 t290 0 a2_0 a2_1 a2_2 a2_3 a2_4 a2_5 a2_6 l2_7 l2_8)) else (none)))) = some (r1, r2) := by first | (rw [hy278]; with_reducible exact H) | (have H2_ := (Option.bind_some _ _).symm.trans H; rw [hy278]; with_reducible exact H2_) | (have H2_ := (Option.bind_some _ _).symm.trans H; with_reducible exact H2_) | with_reducible exact H | (rw [hy278]; exact H) | exact H
            have Ny278 := Aside0.mk hy278
            clear hy278
            replace H := Option.bind_eq_some_iff.mp H
            obtain ⟨t281, A320, H⟩ := H
            replace H : ((some (([0, 0] : List Int) : List Int)).bind fun y284 => (if t281.length + y284.length < 140737488355328 then ((bailiwickref1_Lay.f kj3 (t281 ++ y284) 2 (IntKind.u64.wrap (a2_6))).bind fun t290 => (bailiwickref3_BuildPiece.l0 kj3 a0 a1 t290 0 a2_0 a2_1 a2_2 a2_3 a2_4 a2_5 a2_6 l2_7 l2_8)) else (none))) = some (r1, r2) := H
            have A32 := Aside0.mk A320
            clear A320
            obtain ⟨y284, hy284⟩ : ∃ y_ : List Int, y_ = (([0, 0] : List Int)) := ⟨_, rfl⟩
            replace H : (if t281.length + y284.length < 140737488355328 then ((bailiwickref1_Lay.f kj3 (t281 ++ y284) 2 (IntKind.u64.wrap (a2_6))).bind fun t290 => (bailiwickref3_BuildPiece.l0 kj3 a0 a1 t290 0 a2_0 a2_1 a2_2 a2_3 a2_4 a2_5 a2_6 l2_7 l2_8)) else (none)) = some (r1, r2) := by first | (rw [hy284]; with_reducible exact H) | (have H2_ := (Option.bind_some _ _).symm.trans H; rw [hy284]; with_reducible exact H2_) | (have H2_ := (Option.bind_some _ _).symm.trans H; with_reducible exact H2_) | with_reducible exact H | (rw [hy284]; exact H) | exact H
            have Ny284 := Aside0.mk hy284
            clear hy284
            by_cases c33 : t281.length + y284.length < 140737488355328
            · rw [if_pos c33] at H
              have LMc33 := Aside0.mk c33
              clear c33
              obtain ⟨y287, hy287⟩ : ∃ y_ : List Int, y_ = (t281 ++ y284) := ⟨_, rfl⟩
              replace H : ((bailiwickref1_Lay.f kj3 y287 2 (IntKind.u64.wrap (a2_6))).bind fun t290 => (bailiwickref3_BuildPiece.l0 kj3 a0 a1 t290 0 a2_0 a2_1 a2_2 a2_3 a2_4 a2_5 a2_6 l2_7 l2_8)) = some (r1, r2) := by first | (rw [hy287]; with_reducible exact H) | (have H2_ := (Option.bind_some _ _).symm.trans H; rw [hy287]; with_reducible exact H2_) | (have H2_ := (Option.bind_some _ _).symm.trans H; with_reducible exact H2_) | with_reducible exact H | (rw [hy287]; exact H) | exact H
              have Ny287 := Aside0.mk hy287
              clear hy287
              replace H := Option.bind_eq_some_iff.mp H
              obtain ⟨t290, A340, H⟩ := H
              replace H : (bailiwickref3_BuildPiece.l0 kj3 a0 a1 t290 0 a2_0 a2_1 a2_2 a2_3 a2_4 a2_5 a2_6 l2_7 l2_8) = some (r1, r2) := H
              have A34 := Aside0.mk A340
              clear A340
              have H' := Aside0.mk H
              clear H
              have hcz35_0 : wc.cell? ⟨gb257, 0, none⟩ = some (.int .i64 a2_0) := (blk_cell BK257.out 0).trans rfl
              have hcz35_1 : wc.cell? ⟨gb257, 1, none⟩ = some (.int .i64 a2_1) := (blk_cell BK257.out 1).trans rfl
              have hcz35_2 : wc.cell? ⟨gb257, 2, none⟩ = some (.int .u32 a2_2) := (blk_cell BK257.out 2).trans rfl
              have hcz35_3 : wc.cell? ⟨gb257, 3, none⟩ = some (.int .u32 a2_3) := (blk_cell BK257.out 3).trans rfl
              have hcz35_4 : wc.cell? ⟨gb257, 4, none⟩ = some (.int .i64 a2_4) := (blk_cell BK257.out 4).trans rfl
              have hcz35_5 : wc.cell? ⟨gb257, 5, none⟩ = some (.int .i64 a2_5) := (blk_cell BK257.out 5).trans rfl
              have hcz35_6 : wc.cell? ⟨gb257, 6, none⟩ = some (.int .i64 a2_6) := (blk_cell BK257.out 6).trans rfl
              have hcz35_7 : wc.cell? ⟨gb257, 7, none⟩ = some (.slice A2_7 l2_7.length c2_7) := (blk_cell BK257.out 7).trans rfl
              have hcz35_8 : wc.cell? ⟨gb257, 8, none⟩ = some (.slice A2_8 l2_8.length c2_8) := (blk_cell BK257.out 8).trans rfl
              have hfz35_0 := blk_frozen BK257.out 0
              have hfz35_1 := blk_frozen BK257.out 1
              have hfz35_2 := blk_frozen BK257.out 2
              have hfz35_3 := blk_frozen BK257.out 3
              have hfz35_4 := blk_frozen BK257.out 4
              have hfz35_5 := blk_frozen BK257.out 5
              have hfz35_6 := blk_frozen BK257.out 6
              have hfz35_7 := blk_frozen BK257.out 7
              have hfz35_8 := blk_frozen BK257.out 8
              go_wp2_with (first | ((with_reducible refine gate_callee (f := 38) rfl ?_); refine goesL_ (some 68) rfl rfl Try.func38 (by kernel_rfl) rfl #[.slice none 0 0, .int .i64 2, .int .u64 (IntKind.u64.wrap (a2_0))] rfl (by (try simp only [List.map_toArray, List.map_cons, List.map_nil]); first | done | rfl | (simp only [List.length_drop, List.length_take]; rfl)) ?_; (refine (bailiwickref1_Lay.calls kj3 (fun k_ => some k_ = (.slice none 0 0 : Value).ownBlock) (.slice none 0 0) ([] : List Int) 2 (IntKind.u64.wrap (a2_0)) t263 w _ ?side1 ?side2 A27.out).mono ?_); (case side1 => repeat (first | (with_reducible first | exact HB.out | apply below_alloc | apply pw_below_drewN | apply below_drew1 | refine below_set ?_ GE257.out) | exact HB.out)); (case side2 => exact Kd.R_nil _ _ _ _ _); rintro e w36 ⟨v264, rfl, ho0, hb, hkp⟩; refine ⟨_, rfl, ?_⟩; have n0_ := Aside0.mk (blk_kept (by (with_reducible repeat (first | refine blk_drewN ?_ _ | refine blk_drew ?_ | refine blk_alloc ?_ _)); exact BK257.out) hkp (fun hs_ => (fun e_ => by simp [Value.ownBlock] at e_) hs_)); have n1_ := Aside0.mk (Kd.R_mono (ok' := fun k_ => True) ho0 (fun k_ hk_ => trivial)); have n2_ := Aside0.mk (hb); clear BK257; clear HB; have BK257 := n0_; have HO265 := n1_; have HB := n2_; clear n0_ n1_ n2_; (try clear hb); (try clear hkp); (try clear ho0); have hcz37_0 : w36.cell? ⟨gb257, 0, none⟩ = some (.int .i64 a2_0) := (blk_cell BK257.out 0).trans rfl; have hcz37_1 : w36.cell? ⟨gb257, 1, none⟩ = some (.int .i64 a2_1) := (blk_cell BK257.out 1).trans rfl; have hcz37_2 : w36.cell? ⟨gb257, 2, none⟩ = some (.int .u32 a2_2) := (blk_cell BK257.out 2).trans rfl; have hcz37_3 : w36.cell? ⟨gb257, 3, none⟩ = some (.int .u32 a2_3) := (blk_cell BK257.out 3).trans rfl; have hcz37_4 : w36.cell? ⟨gb257, 4, none⟩ = some (.int .i64 a2_4) := (blk_cell BK257.out 4).trans rfl; have hcz37_5 : w36.cell? ⟨gb257, 5, none⟩ = some (.int .i64 a2_5) := (blk_cell BK257.out 5).trans rfl; have hcz37_6 : w36.cell? ⟨gb257, 6, none⟩ = some (.int .i64 a2_6) := (blk_cell BK257.out 6).trans rfl; have hcz37_7 : w36.cell? ⟨gb257, 7, none⟩ = some (.slice A2_7 l2_7.length c2_7) := (blk_cell BK257.out 7).trans rfl; have hcz37_8 : w36.cell? ⟨gb257, 8, none⟩ = some (.slice A2_8 l2_8.length c2_8) := (blk_cell BK257.out 8).trans rfl; have hfz37_0 := blk_frozen BK257.out 0; have hfz37_1 := blk_frozen BK257.out 1; have hfz37_2 := blk_frozen BK257.out 2; have hfz37_3 := blk_frozen BK257.out 3; have hfz37_4 := blk_frozen BK257.out 4; have hfz37_5 := blk_frozen BK257.out 5; have hfz37_6 := blk_frozen BK257.out 6; have hfz37_7 := blk_frozen BK257.out 7; have hfz37_8 := blk_frozen BK257.out 8; obtain ⟨Ao38, co38, eo38⟩ := Kd.R_slice HO265.out; subst eo38) | ((with_reducible refine gate_callee (f := 38) rfl ?_); refine goesL_ (some 73) rfl rfl Try.func38 (by kernel_rfl) rfl #[.slice Ao38 t263.length co38, .int .i64 2, .int .u64 (IntKind.u64.wrap (a2_1))] rfl (by (try simp only [List.map_toArray, List.map_cons, List.map_nil]); first | done | rfl | (simp only [List.length_drop, List.length_take]; rfl)) ?_; (with_reducible refine (bailiwickref1_Lay.calls kj3 (fun k_ => some k_ = (.slice Ao38 t263.length co38 : Value).ownBlock) (.slice Ao38 t263.length co38) t263 2 (IntKind.u64.wrap (a2_1)) t266 w _ ?side1 ?side2 A28.out).mono ?_); (case side1 => repeat (first | (with_reducible first | exact HB.out | apply below_alloc | apply pw_below_drewN | apply below_drew1 | refine below_set ?_ GE257.out) | exact HB.out)); (case side2 => exact Kd.R_tight rfl HO265.out); rintro e w39 ⟨v267, rfl, ho0, hb, hkp⟩; refine ⟨_, rfl, ?_⟩; have n0_ := Aside0.mk (blk_kept (by (with_reducible repeat (first | refine blk_drewN ?_ _ | refine blk_drew ?_ | refine blk_alloc ?_ _)); exact BK257.out) hkp (fun hs_ => (fun e_ => (Kd.R_ne HO265.out BK257.out (by decide)) e_) hs_)); have n1_ := Aside0.mk (Kd.R_mono (ok' := fun k_ => True) ho0 (fun k_ hk_ => trivial)); have n2_ := Aside0.mk (hb); clear BK257; clear HB; clear HO265; have BK257 := n0_; have HO268 := n1_; have HB := n2_; clear n0_ n1_ n2_; (try clear hb); (try clear hkp); (try clear ho0); have hcz40_0 : w39.cell? ⟨gb257, 0, none⟩ = some (.int .i64 a2_0) := (blk_cell BK257.out 0).trans rfl; have hcz40_1 : w39.cell? ⟨gb257, 1, none⟩ = some (.int .i64 a2_1) := (blk_cell BK257.out 1).trans rfl; have hcz40_2 : w39.cell? ⟨gb257, 2, none⟩ = some (.int .u32 a2_2) := (blk_cell BK257.out 2).trans rfl; have hcz40_3 : w39.cell? ⟨gb257, 3, none⟩ = some (.int .u32 a2_3) := (blk_cell BK257.out 3).trans rfl; have hcz40_4 : w39.cell? ⟨gb257, 4, none⟩ = some (.int .i64 a2_4) := (blk_cell BK257.out 4).trans rfl; have hcz40_5 : w39.cell? ⟨gb257, 5, none⟩ = some (.int .i64 a2_5) := (blk_cell BK257.out 5).trans rfl; have hcz40_6 : w39.cell? ⟨gb257, 6, none⟩ = some (.int .i64 a2_6) := (blk_cell BK257.out 6).trans rfl; have hcz40_7 : w39.cell? ⟨gb257, 7, none⟩ = some (.slice A2_7 l2_7.length c2_7) := (blk_cell BK257.out 7).trans rfl; have hcz40_8 : w39.cell? ⟨gb257, 8, none⟩ = some (.slice A2_8 l2_8.length c2_8) := (blk_cell BK257.out 8).trans rfl; have hfz40_0 := blk_frozen BK257.out 0; have hfz40_1 := blk_frozen BK257.out 1; have hfz40_2 := blk_frozen BK257.out 2; have hfz40_3 := blk_frozen BK257.out 3; have hfz40_4 := blk_frozen BK257.out 4; have hfz40_5 := blk_frozen BK257.out 5; have hfz40_6 := blk_frozen BK257.out 6; have hfz40_7 := blk_frozen BK257.out 7; have hfz40_8 := blk_frozen BK257.out 8; obtain ⟨Ao41, co41, eo41⟩ := Kd.R_slice HO268.out; subst eo41) | ((with_reducible refine gate_callee (f := 38) rfl ?_); refine goesL_ (some 78) rfl rfl Try.func38 (by kernel_rfl) rfl #[.slice Ao41 t266.length co41, .int .i64 4, .int .u64 (IntKind.u64.wrap (a2_2))] rfl (by (try simp only [List.map_toArray, List.map_cons, List.map_nil]); first | done | rfl | (simp only [List.length_drop, List.length_take]; rfl)) ?_; (with_reducible refine (bailiwickref1_Lay.calls kj3 (fun k_ => some k_ = (.slice Ao41 t266.length co41 : Value).ownBlock) (.slice Ao41 t266.length co41) t266 4 (IntKind.u64.wrap (a2_2)) t269 w _ ?side1 ?side2 A29.out).mono ?_); (case side1 => repeat (first | (with_reducible first | exact HB.out | apply below_alloc | apply pw_below_drewN | apply below_drew1 | refine below_set ?_ GE257.out) | exact HB.out)); (case side2 => exact Kd.R_tight rfl HO268.out); rintro e w42 ⟨v270, rfl, ho0, hb, hkp⟩; refine ⟨_, rfl, ?_⟩; have n0_ := Aside0.mk (blk_kept (by (with_reducible repeat (first | refine blk_drewN ?_ _ | refine blk_drew ?_ | refine blk_alloc ?_ _)); exact BK257.out) hkp (fun hs_ => (fun e_ => (Kd.R_ne HO268.out BK257.out (by decide)) e_) hs_)); have n1_ := Aside0.mk (Kd.R_mono (ok' := fun k_ => True) ho0 (fun k_ hk_ => trivial)); have n2_ := Aside0.mk (hb); clear BK257; clear HB; clear HO268; have BK257 := n0_; have HO271 := n1_; have HB := n2_; clear n0_ n1_ n2_; (try clear hb); (try clear hkp); (try clear ho0); have hcz43_0 : w42.cell? ⟨gb257, 0, none⟩ = some (.int .i64 a2_0) := (blk_cell BK257.out 0).trans rfl; have hcz43_1 : w42.cell? ⟨gb257, 1, none⟩ = some (.int .i64 a2_1) := (blk_cell BK257.out 1).trans rfl; have hcz43_2 : w42.cell? ⟨gb257, 2, none⟩ = some (.int .u32 a2_2) := (blk_cell BK257.out 2).trans rfl; have hcz43_3 : w42.cell? ⟨gb257, 3, none⟩ = some (.int .u32 a2_3) := (blk_cell BK257.out 3).trans rfl; have hcz43_4 : w42.cell? ⟨gb257, 4, none⟩ = some (.int .i64 a2_4) := (blk_cell BK257.out 4).trans rfl; have hcz43_5 : w42.cell? ⟨gb257, 5, none⟩ = some (.int .i64 a2_5) := (blk_cell BK257.out 5).trans rfl; have hcz43_6 : w42.cell? ⟨gb257, 6, none⟩ = some (.int .i64 a2_6) := (blk_cell BK257.out 6).trans rfl; have hcz43_7 : w42.cell? ⟨gb257, 7, none⟩ = some (.slice A2_7 l2_7.length c2_7) := (blk_cell BK257.out 7).trans rfl; have hcz43_8 : w42.cell? ⟨gb257, 8, none⟩ = some (.slice A2_8 l2_8.length c2_8) := (blk_cell BK257.out 8).trans rfl; have hfz43_0 := blk_frozen BK257.out 0; have hfz43_1 := blk_frozen BK257.out 1; have hfz43_2 := blk_frozen BK257.out 2; have hfz43_3 := blk_frozen BK257.out 3; have hfz43_4 := blk_frozen BK257.out 4; have hfz43_5 := blk_frozen BK257.out 5; have hfz43_6 := blk_frozen BK257.out 6; have hfz43_7 := blk_frozen BK257.out 7; have hfz43_8 := blk_frozen BK257.out 8; obtain ⟨Ao44, co44, eo44⟩ := Kd.R_slice HO271.out; subst eo44) | ((with_reducible refine gate_callee (f := 38) rfl ?_); refine goesL_ (some 83) rfl rfl Try.func38 (by kernel_rfl) rfl #[.slice Ao44 t269.length co44, .int .i64 4, .int .u64 (IntKind.u64.wrap (a2_3))] rfl (by (try simp only [List.map_toArray, List.map_cons, List.map_nil]); first | done | rfl | (simp only [List.length_drop, List.length_take]; rfl)) ?_; (with_reducible refine (bailiwickref1_Lay.calls kj3 (fun k_ => some k_ = (.slice Ao44 t269.length co44 : Value).ownBlock) (.slice Ao44 t269.length co44) t269 4 (IntKind.u64.wrap (a2_3)) t272 w _ ?side1 ?side2 A30.out).mono ?_); (case side1 => repeat (first | (with_reducible first | exact HB.out | apply below_alloc | apply pw_below_drewN | apply below_drew1 | refine below_set ?_ GE257.out) | exact HB.out)); (case side2 => exact Kd.R_tight rfl HO271.out); rintro e w45 ⟨v273, rfl, ho0, hb, hkp⟩; refine ⟨_, rfl, ?_⟩; have n0_ := Aside0.mk (blk_kept (by (with_reducible repeat (first | refine blk_drewN ?_ _ | refine blk_drew ?_ | refine blk_alloc ?_ _)); exact BK257.out) hkp (fun hs_ => (fun e_ => (Kd.R_ne HO271.out BK257.out (by decide)) e_) hs_)); have n1_ := Aside0.mk (Kd.R_mono (ok' := fun k_ => True) ho0 (fun k_ hk_ => trivial)); have n2_ := Aside0.mk (hb); clear BK257; clear HB; clear HO271; have BK257 := n0_; have HO274 := n1_; have HB := n2_; clear n0_ n1_ n2_; (try clear hb); (try clear hkp); (try clear ho0); have hcz46_0 : w45.cell? ⟨gb257, 0, none⟩ = some (.int .i64 a2_0) := (blk_cell BK257.out 0).trans rfl; have hcz46_1 : w45.cell? ⟨gb257, 1, none⟩ = some (.int .i64 a2_1) := (blk_cell BK257.out 1).trans rfl; have hcz46_2 : w45.cell? ⟨gb257, 2, none⟩ = some (.int .u32 a2_2) := (blk_cell BK257.out 2).trans rfl; have hcz46_3 : w45.cell? ⟨gb257, 3, none⟩ = some (.int .u32 a2_3) := (blk_cell BK257.out 3).trans rfl; have hcz46_4 : w45.cell? ⟨gb257, 4, none⟩ = some (.int .i64 a2_4) := (blk_cell BK257.out 4).trans rfl; have hcz46_5 : w45.cell? ⟨gb257, 5, none⟩ = some (.int .i64 a2_5) := (blk_cell BK257.out 5).trans rfl; have hcz46_6 : w45.cell? ⟨gb257, 6, none⟩ = some (.int .i64 a2_6) := (blk_cell BK257.out 6).trans rfl; have hcz46_7 : w45.cell? ⟨gb257, 7, none⟩ = some (.slice A2_7 l2_7.length c2_7) := (blk_cell BK257.out 7).trans rfl; have hcz46_8 : w45.cell? ⟨gb257, 8, none⟩ = some (.slice A2_8 l2_8.length c2_8) := (blk_cell BK257.out 8).trans rfl; have hfz46_0 := blk_frozen BK257.out 0; have hfz46_1 := blk_frozen BK257.out 1; have hfz46_2 := blk_frozen BK257.out 2; have hfz46_3 := blk_frozen BK257.out 3; have hfz46_4 := blk_frozen BK257.out 4; have hfz46_5 := blk_frozen BK257.out 5; have hfz46_6 := blk_frozen BK257.out 6; have hfz46_7 := blk_frozen BK257.out 7; have hfz46_8 := blk_frozen BK257.out 8) | ((with_reducible refine gate_dst (N := 92) rfl ?_); (try (refine gate_guard (by rfl) ?_; dsimp only)); refine Kd.R_lit (Kd.int .u8) _ 5 ?hg (N := 92) ?hd (xs := ([(((wrap64 (Int.tdiv (wrap64 (20 + (l2_7.length : Int))) 4)) % 256) * 16) % 256, (a2_4) % 256] : List Int)) (inner := [.int .u8 ((((wrap64 (Int.tdiv (wrap64 (20 + (l2_7.length : Int))) 4)) % 256) * 16) % 256), .int .u8 ((a2_4) % 256)]) (ok := fun _ => True) (okp := fun _ => True) ?hr ?hp (fun _ hk => hk) trivial (Below.refl _ _) (Nat.le_refl _) (by simp) ?_; (case hd => rfl); (case hg => rfl); (case hr => first | (go_simp; done) | (go_simp; rfl)); (case hp => exact (Reps.one (show Kd.M (Kd.int .u8) _ _ _ ((((wrap64 (Int.tdiv (wrap64 (20 + (l2_7.length : Int))) 4)) % 256) * 16) % 256) [.int .u8 ((((wrap64 (Int.tdiv (wrap64 (20 + (l2_7.length : Int))) 4)) % 256) * 16) % 256)] from rfl) (Reps.one (show Kd.M (Kd.int .u8) _ _ _ ((a2_4) % 256) [.int .u8 ((a2_4) % 256)] from rfl) (Reps.none _ _)))); intro v276 w47 ho48 hb hg_ hnew_; clear hg_ hnew_; (first | rw [← Ny275.out] at ho48 | (simp only [Int.reduceToNat] at ho48; rw [← Ny275.out] at ho48)); have n0_ := Aside0.mk (Kd.R_elder' (by (with_reducible repeat (first | apply Kd.R_alloc | apply Kd.R_drewN | apply Kd.R_drew)); exact HO274.out) (Kd.R_base ho48) hb); have n1_ := Aside0.mk (Kd.R_lower (Kd.R_new' ho48 (Kd.R_lt (by (with_reducible repeat (first | apply Kd.R_alloc | apply Kd.R_drewN | apply Kd.R_drew)); exact HO274.out))) (below_size (by repeat (first | (with_reducible first | exact HB.out | apply below_alloc | apply pw_below_drewN | apply below_drew1 | refine below_set ?_ GE257.out) | exact HB.out)))); have n2_ := Aside0.mk (blk_below (g := gb257) (o := .cells #[.int .i64 a2_0, .int .i64 a2_1, .int .u32 a2_2, .int .u32 a2_3, .int .i64 a2_4, .int .i64 a2_5, .int .i64 a2_6, .slice A2_7 l2_7.length c2_7, .slice A2_8 l2_8.length c2_8] 46 (0, 0)) (by (with_reducible repeat (first | refine blk_drewN ?_ _ | refine blk_drew ?_ | refine blk_alloc ?_ _)); exact BK257.out) hb); have n3_ := Aside0.mk (below_step (by repeat (first | (with_reducible first | exact HB.out | apply below_alloc | apply pw_below_drewN | apply below_drew1 | refine below_set ?_ GE257.out) | exact HB.out)) hb); clear HO274; clear BK257; clear HB; have HO274 := n0_; have HO277 := n1_; have BK257 := n2_; have HB := n3_; clear n0_ n1_ n2_ n3_; clear hb ho48; obtain ⟨Ao50, co50, eo50⟩ := Kd.R_slice HO277.out; subst eo50) | ((with_reducible refine gate_builtin (b := .append) (xs := #[.tmp 84, .tmp 92]) rfl ?_); (try (refine gate_guard (by rfl) ?_; dsimp only)); at_builtin; refine Kd.R_append_rows (Kd.int .u8) (w0 := w) w.heap.size rfl (.tmp 84) (.tmp 92) 23 5 (.int .u8 0) 1 rfl Try.underlying23 info5 rfl (by decide) (by omega) v273 t272 y275 _ _ _ (fun k_ => some k_ ≠ (.slice Ao50 y275.length co50 : Value).ownBlock) (fun _ => False) rfl rfl ?aO ?aR (fun _ _ h => h) (fun _ h => h.elim) ?aF ?aB ?aS ?aL ?_; (case aR => repeat (first | exact (Kd.R_reads' HO277.out).2.2 | (with_reducible refine Kd.C_alloc ?_ _) | (with_reducible refine Kd.C_drewN ?_ _) | (with_reducible refine Kd.C_drew ?_))); (case aB => exact (by repeat (first | (with_reducible first | exact HB.out | apply below_alloc | apply pw_below_drewN | apply below_drew1 | refine below_set ?_ GE257.out) | exact HB.out))); (case aF => exact (fun k_ hk => Kd.fresh' (Kd.R_lt (by (with_reducible repeat (first | apply Kd.R_alloc | apply Kd.R_drewN | apply Kd.R_drew)); exact HO277.out)) k_ hk)); (case aO => exact (by (with_reducible repeat (first | apply Kd.R_alloc | apply Kd.R_drewN | apply Kd.R_drew)); exact Kd.R_mono HO274.out (fun _ hk => hk.2))); (case aS => exact (below_size (by repeat (first | (with_reducible first | exact HB.out | apply below_alloc | apply pw_below_drewN | apply below_drew1 | refine below_set ?_ GE257.out) | exact HB.out)))); (case aL => have := LMc31.out; omega); intro v279 w49 ho hb hg hat; rw [← Ny278.out] at ho; have n0_ := Aside0.mk (blk_grown (g := gb257) (o := .cells #[.int .i64 a2_0, .int .i64 a2_1, .int .u32 a2_2, .int .u32 a2_3, .int .i64 a2_4, .int .i64 a2_5, .int .i64 a2_6, .slice A2_7 l2_7.length c2_7, .slice A2_8 l2_8.length c2_8] 46 (0, 0)) (by (with_reducible repeat (first | refine blk_drewN ?_ _ | refine blk_drew ?_ | refine blk_alloc ?_ _)); exact BK257.out) hg (Kd.R_ne HO274.out BK257.out (by decide))); have n1_ := Aside0.mk (Kd.R_after (ok := (fun _ => True)) (by (with_reducible repeat (first | apply Kd.R_alloc | apply Kd.R_drewN | apply Kd.R_drew)); exact HO277.out) hg hat); have n2_ := Aside0.mk (hb); have n3_ := Aside0.mk (ho); clear BK257; clear HO277; clear HB; clear HO274; have BK257 := n0_; have HO277 := n1_; have HB := n2_; have HO280 := n3_; clear n0_ n1_ n2_ n3_; clear ho hb hg hat; have hcz51_0 : w49.cell? ⟨gb257, 0, none⟩ = some (.int .i64 a2_0) := (blk_cell BK257.out 0).trans rfl; have hcz51_1 : w49.cell? ⟨gb257, 1, none⟩ = some (.int .i64 a2_1) := (blk_cell BK257.out 1).trans rfl; have hcz51_2 : w49.cell? ⟨gb257, 2, none⟩ = some (.int .u32 a2_2) := (blk_cell BK257.out 2).trans rfl; have hcz51_3 : w49.cell? ⟨gb257, 3, none⟩ = some (.int .u32 a2_3) := (blk_cell BK257.out 3).trans rfl; have hcz51_4 : w49.cell? ⟨gb257, 4, none⟩ = some (.int .i64 a2_4) := (blk_cell BK257.out 4).trans rfl; have hcz51_5 : w49.cell? ⟨gb257, 5, none⟩ = some (.int .i64 a2_5) := (blk_cell BK257.out 5).trans rfl; have hcz51_6 : w49.cell? ⟨gb257, 6, none⟩ = some (.int .i64 a2_6) := (blk_cell BK257.out 6).trans rfl; have hcz51_7 : w49.cell? ⟨gb257, 7, none⟩ = some (.slice A2_7 l2_7.length c2_7) := (blk_cell BK257.out 7).trans rfl; have hcz51_8 : w49.cell? ⟨gb257, 8, none⟩ = some (.slice A2_8 l2_8.length c2_8) := (blk_cell BK257.out 8).trans rfl; have hfz51_0 := blk_frozen BK257.out 0; have hfz51_1 := blk_frozen BK257.out 1; have hfz51_2 := blk_frozen BK257.out 2; have hfz51_3 := blk_frozen BK257.out 3; have hfz51_4 := blk_frozen BK257.out 4; have hfz51_5 := blk_frozen BK257.out 5; have hfz51_6 := blk_frozen BK257.out 6; have hfz51_7 := blk_frozen BK257.out 7; have hfz51_8 := blk_frozen BK257.out 8; obtain ⟨Ao52, co52, eo52⟩ := Kd.R_slice HO280.out; subst eo52) | ((with_reducible refine gate_callee (f := 38) rfl ?_); refine goesL_ (some 98) rfl rfl Try.func38 (by kernel_rfl) rfl #[.slice Ao52 y278.length co52, .int .i64 2, .int .u64 (IntKind.u64.wrap (a2_5))] rfl (by (try simp only [List.map_toArray, List.map_cons, List.map_nil]); first | done | rfl | (simp only [List.length_drop, List.length_take]; rfl)) ?_; (with_reducible refine (bailiwickref1_Lay.calls kj3 (fun k_ => some k_ = (.slice Ao52 y278.length co52 : Value).ownBlock) (.slice Ao52 y278.length co52) y278 2 (IntKind.u64.wrap (a2_5)) t281 w _ ?side1 ?side2 A32.out).mono ?_); (case side1 => repeat (first | (with_reducible first | exact HB.out | apply below_alloc | apply pw_below_drewN | apply below_drew1 | refine below_set ?_ GE257.out) | exact HB.out)); (case side2 => exact Kd.R_tight rfl HO280.out); rintro e w53 ⟨v282, rfl, ho0, hb, hkp⟩; refine ⟨_, rfl, ?_⟩; have n0_ := Aside0.mk (blk_kept (by (with_reducible repeat (first | refine blk_drewN ?_ _ | refine blk_drew ?_ | refine blk_alloc ?_ _)); exact BK257.out) hkp (fun hs_ => (fun e_ => (Kd.R_ne HO280.out BK257.out (by decide)) e_) hs_)); have n1_ := Aside0.mk (Kd.R_mono (ok' := fun k_ => some k_ ≠ (v282 : Value).ownBlock) (Kd.R_keptB (HO277.out) hkp (fun k_ hk_ hs_ => (hk_.2) hs_)) (fun k_ hk_ => fun e_ => Or.elim (ho0.1 k_ e_.symm) (fun hs_ => hk_.2.1 hs_) (fun hn_ => Nat.not_le.2 hk_.2.2 hn_))); have n2_ := Aside0.mk (Kd.R_mono (ok' := fun k_ => some k_ ≠ (.slice Ao50 y275.length co50 : Value).ownBlock) ho0 (fun k_ hk_ => Or.elim hk_ (fun hs_ => fun e_ => (((HO277.out).1 k_ e_.symm).2) hs_) (fun hn_ => (Kd.fresh' (Kd.R_lt (by (with_reducible repeat (first | apply Kd.R_alloc | apply Kd.R_drewN | apply Kd.R_drew)); exact HO277.out)) k_ hn_)))); have n3_ := Aside0.mk (hb); clear BK257; clear HO277; clear HB; clear HO280; have BK257 := n0_; have HO277 := n1_; have HO283 := n2_; have HB := n3_; clear n0_ n1_ n2_ n3_; (try clear hb); (try clear hkp); (try clear ho0)) | ((with_reducible refine gate_dst (N := 100) rfl ?_); (try (refine gate_guard (by rfl) ?_; dsimp only)); refine Kd.R_lit (Kd.int .u8) _ 5 ?hg (N := 100) ?hd (xs := ([0, 0] : List Int)) (inner := [.int .u8 0, .int .u8 0]) (ok := fun _ => True) (okp := fun _ => True) ?hr ?hp (fun _ hk => hk) trivial (Below.refl _ _) (Nat.le_refl _) (by simp) ?_; (case hd => rfl); (case hg => rfl); (case hr => first | (go_simp; done) | (go_simp; rfl)); (case hp => exact (Reps.one (show Kd.M (Kd.int .u8) _ _ _ 0 [.int .u8 0] from rfl) (Reps.one (show Kd.M (Kd.int .u8) _ _ _ 0 [.int .u8 0] from rfl) (Reps.none _ _)))); intro v285 w54 ho55 hb hg_ hnew_; clear hg_ hnew_; (first | rw [← Ny284.out] at ho55 | (simp only [Int.reduceToNat] at ho55; rw [← Ny284.out] at ho55)); have n0_ := Aside0.mk (Kd.R_elder' (by (with_reducible repeat (first | apply Kd.R_alloc | apply Kd.R_drewN | apply Kd.R_drew)); exact HO277.out) (Kd.R_base ho55) hb); have n1_ := Aside0.mk (Kd.R_elder' (by (with_reducible repeat (first | apply Kd.R_alloc | apply Kd.R_drewN | apply Kd.R_drew)); exact HO283.out) (Kd.R_base ho55) hb); have n2_ := Aside0.mk (Kd.R_lower (Kd.R_new' (Kd.R_new' ho55 (Kd.R_lt (by (with_reducible repeat (first | apply Kd.R_alloc | apply Kd.R_drewN | apply Kd.R_drew)); exact HO277.out))) (Kd.R_lt (by (with_reducible repeat (first | apply Kd.R_alloc | apply Kd.R_drewN | apply Kd.R_drew)); exact HO283.out))) (below_size (by repeat (first | (with_reducible first | exact HB.out | apply below_alloc | apply pw_below_drewN | apply below_drew1 | refine below_set ?_ GE257.out) | exact HB.out)))); have n3_ := Aside0.mk (blk_below (g := gb257) (o := .cells #[.int .i64 a2_0, .int .i64 a2_1, .int .u32 a2_2, .int .u32 a2_3, .int .i64 a2_4, .int .i64 a2_5, .int .i64 a2_6, .slice A2_7 l2_7.length c2_7, .slice A2_8 l2_8.length c2_8] 46 (0, 0)) (by (with_reducible repeat (first | refine blk_drewN ?_ _ | refine blk_drew ?_ | refine blk_alloc ?_ _)); exact BK257.out) hb); have n4_ := Aside0.mk (below_step (by repeat (first | (with_reducible first | exact HB.out | apply below_alloc | apply pw_below_drewN | apply below_drew1 | refine below_set ?_ GE257.out) | exact HB.out)) hb); clear HO277; clear HO283; clear BK257; clear HB; have HO277 := n0_; have HO283 := n1_; have HO286 := n2_; have BK257 := n3_; have HB := n4_; clear n0_ n1_ n2_ n3_ n4_; clear hb ho55; obtain ⟨Ao57, co57, eo57⟩ := Kd.R_slice HO286.out; subst eo57) | ((with_reducible refine gate_builtin (b := .append) (xs := #[.tmp 99, .tmp 100]) rfl ?_); (try (refine gate_guard (by rfl) ?_; dsimp only)); at_builtin; refine Kd.R_append_rows (Kd.int .u8) (w0 := w) w.heap.size rfl (.tmp 99) (.tmp 100) 23 5 (.int .u8 0) 1 rfl Try.underlying23 info5 rfl (by decide) (by omega) v282 t281 y284 _ _ _ (fun k_ => some k_ ≠ (.slice Ao50 y275.length co50 : Value).ownBlock ∧ some k_ ≠ (.slice Ao57 y284.length co57 : Value).ownBlock) (fun _ => False) rfl rfl ?aO ?aR (fun _ _ h => h) (fun _ h => h.elim) ?aF ?aB ?aS ?aL ?_; (case aR => repeat (first | exact (Kd.R_reads' HO286.out).2.2 | (with_reducible refine Kd.C_alloc ?_ _) | (with_reducible refine Kd.C_drewN ?_ _) | (with_reducible refine Kd.C_drew ?_))); (case aB => exact (by repeat (first | (with_reducible first | exact HB.out | apply below_alloc | apply pw_below_drewN | apply below_drew1 | refine below_set ?_ GE257.out) | exact HB.out))); (case aF => exact (fun k_ hk => ⟨Kd.fresh' (Kd.R_lt (by (with_reducible repeat (first | apply Kd.R_alloc | apply Kd.R_drewN | apply Kd.R_drew)); exact HO277.out)) k_ hk, Kd.fresh' (Kd.R_lt (by (with_reducible repeat (first | apply Kd.R_alloc | apply Kd.R_drewN | apply Kd.R_drew)); exact HO286.out)) k_ hk⟩)); (case aO => exact (by (with_reducible repeat (first | apply Kd.R_alloc | apply Kd.R_drewN | apply Kd.R_drew)); exact HO283.out)); (case aS => exact (below_size (by repeat (first | (with_reducible first | exact HB.out | apply below_alloc | apply pw_below_drewN | apply below_drew1 | refine below_set ?_ GE257.out) | exact HB.out)))); (case aL => have := LMc33.out; omega); intro v288 w56 ho hb hg hat; rw [← Ny287.out] at ho; have n0_ := Aside0.mk (blk_grown (g := gb257) (o := .cells #[.int .i64 a2_0, .int .i64 a2_1, .int .u32 a2_2, .int .u32 a2_3, .int .i64 a2_4, .int .i64 a2_5, .int .i64 a2_6, .slice A2_7 l2_7.length c2_7, .slice A2_8 l2_8.length c2_8] 46 (0, 0)) (by (with_reducible repeat (first | refine blk_drewN ?_ _ | refine blk_drew ?_ | refine blk_alloc ?_ _)); exact BK257.out) hg (Kd.R_ne HO283.out BK257.out (by decide))); have n1_ := Aside0.mk (Kd.R_after (ok := (fun k_ => some k_ ≠ (.slice Ao57 y284.length co57 : Value).ownBlock)) (by (with_reducible repeat (first | apply Kd.R_alloc | apply Kd.R_drewN | apply Kd.R_drew)); exact Kd.R_mono HO277.out (fun _ hk => ⟨hk.2, hk.1⟩)) hg hat); have n2_ := Aside0.mk (Kd.R_after (ok := (fun k_ => some k_ ≠ (.slice Ao50 y275.length co50 : Value).ownBlock)) (by (with_reducible repeat (first | apply Kd.R_alloc | apply Kd.R_drewN | apply Kd.R_drew)); exact Kd.R_mono HO286.out (fun _ hk => ⟨hk.1.2, hk.2⟩)) hg hat); have n3_ := Aside0.mk (hb); have n4_ := Aside0.mk (ho); clear BK257; clear HO277; clear HO286; clear HB; clear HO283; have BK257 := n0_; have HO277 := n1_; have HO286 := n2_; have HB := n3_; have HO289 := n4_; clear n0_ n1_ n2_ n3_ n4_; clear ho hb hg hat; have hcz58_0 : w56.cell? ⟨gb257, 0, none⟩ = some (.int .i64 a2_0) := (blk_cell BK257.out 0).trans rfl; have hcz58_1 : w56.cell? ⟨gb257, 1, none⟩ = some (.int .i64 a2_1) := (blk_cell BK257.out 1).trans rfl; have hcz58_2 : w56.cell? ⟨gb257, 2, none⟩ = some (.int .u32 a2_2) := (blk_cell BK257.out 2).trans rfl; have hcz58_3 : w56.cell? ⟨gb257, 3, none⟩ = some (.int .u32 a2_3) := (blk_cell BK257.out 3).trans rfl; have hcz58_4 : w56.cell? ⟨gb257, 4, none⟩ = some (.int .i64 a2_4) := (blk_cell BK257.out 4).trans rfl; have hcz58_5 : w56.cell? ⟨gb257, 5, none⟩ = some (.int .i64 a2_5) := (blk_cell BK257.out 5).trans rfl; have hcz58_6 : w56.cell? ⟨gb257, 6, none⟩ = some (.int .i64 a2_6) := (blk_cell BK257.out 6).trans rfl; have hcz58_7 : w56.cell? ⟨gb257, 7, none⟩ = some (.slice A2_7 l2_7.length c2_7) := (blk_cell BK257.out 7).trans rfl; have hcz58_8 : w56.cell? ⟨gb257, 8, none⟩ = some (.slice A2_8 l2_8.length c2_8) := (blk_cell BK257.out 8).trans rfl; have hfz58_0 := blk_frozen BK257.out 0; have hfz58_1 := blk_frozen BK257.out 1; have hfz58_2 := blk_frozen BK257.out 2; have hfz58_3 := blk_frozen BK257.out 3; have hfz58_4 := blk_frozen BK257.out 4; have hfz58_5 := blk_frozen BK257.out 5; have hfz58_6 := blk_frozen BK257.out 6; have hfz58_7 := blk_frozen BK257.out 7; have hfz58_8 := blk_frozen BK257.out 8; obtain ⟨Ao59, co59, eo59⟩ := Kd.R_slice HO289.out; subst eo59) | ((with_reducible refine gate_callee (f := 38) rfl ?_); refine goesL_ (some 106) rfl rfl Try.func38 (by kernel_rfl) rfl #[.slice Ao59 y287.length co59, .int .i64 2, .int .u64 (IntKind.u64.wrap (a2_6))] rfl (by (try simp only [List.map_toArray, List.map_cons, List.map_nil]); first | done | rfl | (simp only [List.length_drop, List.length_take]; rfl)) ?_; (with_reducible refine (bailiwickref1_Lay.calls kj3 (fun k_ => some k_ = (.slice Ao59 y287.length co59 : Value).ownBlock) (.slice Ao59 y287.length co59) y287 2 (IntKind.u64.wrap (a2_6)) t290 w _ ?side1 ?side2 A34.out).mono ?_); (case side1 => repeat (first | (with_reducible first | exact HB.out | apply below_alloc | apply pw_below_drewN | apply below_drew1 | refine below_set ?_ GE257.out) | exact HB.out)); (case side2 => exact Kd.R_tight rfl HO289.out); rintro e w60 ⟨v291, rfl, ho0, hb, hkp⟩; refine ⟨_, rfl, ?_⟩; have n0_ := Aside0.mk (blk_kept (by (with_reducible repeat (first | refine blk_drewN ?_ _ | refine blk_drew ?_ | refine blk_alloc ?_ _)); exact BK257.out) hkp (fun hs_ => (fun e_ => (Kd.R_ne HO289.out BK257.out (by decide)) e_) hs_)); have n1_ := Aside0.mk (Kd.R_mono (ok' := fun k_ => some k_ ≠ (.slice Ao57 y284.length co57 : Value).ownBlock ∧ some k_ ≠ (v291 : Value).ownBlock) (Kd.R_keptB (HO277.out) hkp (fun k_ hk_ hs_ => (hk_.2) hs_)) (fun k_ hk_ => ⟨hk_.1.1, fun e_ => Or.elim (ho0.1 k_ e_.symm) (fun hs_ => hk_.2.1 hs_) (fun hn_ => Nat.not_le.2 hk_.2.2 hn_)⟩)); have n2_ := Aside0.mk (Kd.R_mono (ok' := fun k_ => some k_ ≠ (.slice Ao50 y275.length co50 : Value).ownBlock ∧ some k_ ≠ (v291 : Value).ownBlock) (Kd.R_keptB (HO286.out) hkp (fun k_ hk_ hs_ => (hk_.2) hs_)) (fun k_ hk_ => ⟨hk_.1.1, fun e_ => Or.elim (ho0.1 k_ e_.symm) (fun hs_ => hk_.2.1 hs_) (fun hn_ => Nat.not_le.2 hk_.2.2 hn_)⟩)); have n3_ := Aside0.mk (Kd.R_mono (ok' := fun k_ => some k_ ≠ (.slice Ao50 y275.length co50 : Value).ownBlock ∧ some k_ ≠ (.slice Ao57 y284.length co57 : Value).ownBlock) ho0 (fun k_ hk_ => ⟨Or.elim hk_ (fun hs_ => fun e_ => (((HO277.out).1 k_ e_.symm).2) hs_) (fun hn_ => (Kd.fresh' (Kd.R_lt (by (with_reducible repeat (first | apply Kd.R_alloc | apply Kd.R_drewN | apply Kd.R_drew)); exact HO277.out)) k_ hn_)), Or.elim hk_ (fun hs_ => fun e_ => (((HO286.out).1 k_ e_.symm).2) hs_) (fun hn_ => (Kd.fresh' (Kd.R_lt (by (with_reducible repeat (first | apply Kd.R_alloc | apply Kd.R_drewN | apply Kd.R_drew)); exact HO286.out)) k_ hn_))⟩)); have n4_ := Aside0.mk (hb); clear BK257; clear HO277; clear HO286; clear HB; clear HO289; have BK257 := n0_; have HO277 := n1_; have HO286 := n2_; have HO292 := n3_; have HB := n4_; clear n0_ n1_ n2_ n3_ n4_; (try clear hb); (try clear hkp); (try clear ho0)))
              go_loopg [9, 10] kj3 (fun kq v9 v10 w' => ∃ (x9_2 : List Int) (x10_2 : Int), v10 = .int .i64 x10_2 ∧ Aside0 (bailiwickref3_BuildPiece.l0 kq a0 a1 x9_2 x10_2 a2_0 a2_1 a2_2 a2_3 a2_4 a2_5 a2_6 l2_7 l2_8 = some (r1, r2)) ∧ Aside0 (kq ≤ kj3) ∧ Aside0 (Kd.R (Kd.int .u8) 5 w' w.heap.size (fun _ => True) v9 x9_2) ∧ Aside0 (w'.heap[gb257]? = some (.cells #[.int .i64 a2_0, .int .i64 a2_1, .int .u32 a2_2, .int .u32 a2_3, .int .i64 a2_4, .int .i64 a2_5, .int .i64 a2_6, (.slice A2_7 l2_7.length c2_7), (.slice A2_8 l2_8.length c2_8)] 46 (0, 0))) ∧ Aside0 (Below w.heap.size w w'))
              case atStart => exact ⟨(t290), (0), (by first | rfl | (simp; done) | (simp [*]; done)), H', ⟨Nat.le_refl _⟩, ⟨by (with_reducible repeat (first | apply Kd.R_alloc | apply Kd.R_drewN | apply Kd.R_drew)); exact Kd.R_mono HO292.out (fun _ hk => trivial)⟩, ⟨by (with_reducible repeat (first | refine blk_drewN ?_ _ | refine blk_drew ?_ | refine blk_alloc ?_ _)); exact BK257.out⟩, ⟨by repeat (first | (with_reducible first | exact HB.out | apply below_alloc | apply pw_below_drewN | apply below_drew1 | refine below_set ?_ GE257.out) | exact HB.out)⟩⟩
              case round =>
                clear H'
                try clear c1
                try clear c2
                try clear p2
                try clear c3
                try clear c4
                try clear p6
                try clear c7
                try clear c9
                try clear c11
                try clear c13
                try clear c15
                try clear c16
                try clear c16b0
                try clear c16b1
                try clear c24
                try clear c25
                try clear c25b0
                try clear c26
                try clear c31
                try clear c33
                try clear c38
                try clear c48
                try clear hcz17_0
                try clear hcz17_1
                try clear hcz17_2
                try clear hcz17_3
                try clear hcz17_4
                try clear hcz17_5
                try clear hcz17_6
                try clear hcz17_7
                try clear hcz17_8
                try clear hcz18_0
                try clear hcz18_1
                try clear hcz18_2
                try clear hcz18_3
                try clear hcz18_4
                try clear hcz18_5
                try clear hcz18_6
                try clear hcz18_7
                try clear hcz18_8
                try clear hcz19_0
                try clear hcz19_1
                try clear hcz19_2
                try clear hcz19_3
                try clear hcz19_4
                try clear hcz19_5
                try clear hcz19_6
                try clear hcz19_7
                try clear hcz19_8
                try clear hcz20_0
                try clear hcz20_1
                try clear hcz20_2
                try clear hcz20_3
                try clear hcz20_4
                try clear hcz20_5
                try clear hcz20_6
                try clear hcz20_7
                try clear hcz20_8
                try clear hcz21_0
                try clear hcz21_1
                try clear hcz21_2
                try clear hcz21_3
                try clear hcz21_4
                try clear hcz21_5
                try clear hcz21_6
                try clear hcz21_7
                try clear hcz21_8
                try clear hcz22_0
                try clear hcz22_1
                try clear hcz22_2
                try clear hcz22_3
                try clear hcz22_4
                try clear hcz22_5
                try clear hcz22_6
                try clear hcz22_7
                try clear hcz22_8
                try clear hcz23_0
                try clear hcz23_1
                try clear hcz23_2
                try clear hcz23_3
                try clear hcz23_4
                try clear hcz23_5
                try clear hcz23_6
                try clear hcz23_7
                try clear hcz23_8
                try clear hcz26_0
                try clear hcz26_1
                try clear hcz26_2
                try clear hcz26_3
                try clear hcz26_4
                try clear hcz26_5
                try clear hcz26_6
                try clear hcz26_7
                try clear hcz26_8
                try clear hcz35_0
                try clear hcz35_1
                try clear hcz35_2
                try clear hcz35_3
                try clear hcz35_4
                try clear hcz35_5
                try clear hcz35_6
                try clear hcz35_7
                try clear hcz35_8
                try clear hcz37_0
                try clear hcz37_1
                try clear hcz37_2
                try clear hcz37_3
                try clear hcz37_4
                try clear hcz37_5
                try clear hcz37_6
                try clear hcz37_7
                try clear hcz37_8
                try clear hcz40_0
                try clear hcz40_1
                try clear hcz40_2
                try clear hcz40_3
                try clear hcz40_4
                try clear hcz40_5
                try clear hcz40_6
                try clear hcz40_7
                try clear hcz40_8
                try clear hcz43_0
                try clear hcz43_1
                try clear hcz43_2
                try clear hcz43_3
                try clear hcz43_4
                try clear hcz43_5
                try clear hcz43_6
                try clear hcz43_7
                try clear hcz43_8
                try clear hcz46_0
                try clear hcz46_1
                try clear hcz46_2
                try clear hcz46_3
                try clear hcz46_4
                try clear hcz46_5
                try clear hcz46_6
                try clear hcz46_7
                try clear hcz46_8
                try clear hcz51_0
                try clear hcz51_1
                try clear hcz51_2
                try clear hcz51_3
                try clear hcz51_4
                try clear hcz51_5
                try clear hcz51_6
                try clear hcz51_7
                try clear hcz51_8
                try clear hcz58_0
                try clear hcz58_1
                try clear hcz58_2
                try clear hcz58_3
                try clear hcz58_4
                try clear hcz58_5
                try clear hcz58_6
                try clear hcz58_7
                try clear hcz58_8
                try clear hfz17_0
                try clear hfz17_1
                try clear hfz17_2
                try clear hfz17_3
                try clear hfz17_4
                try clear hfz17_5
                try clear hfz17_6
                try clear hfz17_7
                try clear hfz17_8
                try clear hfz18_0
                try clear hfz18_1
                try clear hfz18_2
                try clear hfz18_3
                try clear hfz18_4
                try clear hfz18_5
                try clear hfz18_6
                try clear hfz18_7
                try clear hfz18_8
                try clear hfz19_0
                try clear hfz19_1
                try clear hfz19_2
                try clear hfz19_3
                try clear hfz19_4
                try clear hfz19_5
                try clear hfz19_6
                try clear hfz19_7
                try clear hfz19_8
                try clear hfz20_0
                try clear hfz20_1
                try clear hfz20_2
                try clear hfz20_3
                try clear hfz20_4
                try clear hfz20_5
                try clear hfz20_6
                try clear hfz20_7
                try clear hfz20_8
                try clear hfz21_0
                try clear hfz21_1
                try clear hfz21_2
                try clear hfz21_3
                try clear hfz21_4
                try clear hfz21_5
                try clear hfz21_6
                try clear hfz21_7
                try clear hfz21_8
                try clear hfz22_0
                try clear hfz22_1
                try clear hfz22_2
                try clear hfz22_3
                try clear hfz22_4
                try clear hfz22_5
                try clear hfz22_6
                try clear hfz22_7
                try clear hfz22_8
                try clear hfz23_0
                try clear hfz23_1
                try clear hfz23_2
                try clear hfz23_3
                try clear hfz23_4
                try clear hfz23_5
                try clear hfz23_6
                try clear hfz23_7
                try clear hfz23_8
                try clear hfz26_0
                try clear hfz26_1
                try clear hfz26_2
                try clear hfz26_3
                try clear hfz26_4
                try clear hfz26_5
                try clear hfz26_6
                try clear hfz26_7
                try clear hfz26_8
                try clear hfz35_0
                try clear hfz35_1
                try clear hfz35_2
                try clear hfz35_3
                try clear hfz35_4
                try clear hfz35_5
                try clear hfz35_6
                try clear hfz35_7
                try clear hfz35_8
                try clear hfz37_0
                try clear hfz37_1
                try clear hfz37_2
                try clear hfz37_3
                try clear hfz37_4
                try clear hfz37_5
                try clear hfz37_6
                try clear hfz37_7
                try clear hfz37_8
                try clear hfz40_0
                try clear hfz40_1
                try clear hfz40_2
                try clear hfz40_3
                try clear hfz40_4
                try clear hfz40_5
                try clear hfz40_6
                try clear hfz40_7
                try clear hfz40_8
                try clear hfz43_0
                try clear hfz43_1
                try clear hfz43_2
                try clear hfz43_3
                try clear hfz43_4
                try clear hfz43_5
                try clear hfz43_6
                try clear hfz43_7
                try clear hfz43_8
                try clear hfz46_0
                try clear hfz46_1
                try clear hfz46_2
                try clear hfz46_3
                try clear hfz46_4
                try clear hfz46_5
                try clear hfz46_6
                try clear hfz46_7
                try clear hfz46_8
                try clear hfz51_0
                try clear hfz51_1
                try clear hfz51_2
                try clear hfz51_3
                try clear hfz51_4
                try clear hfz51_5
                try clear hfz51_6
                try clear hfz51_7
                try clear hfz51_8
                try clear hfz58_0
                try clear hfz58_1
                try clear hfz58_2
                try clear hfz58_3
                try clear hfz58_4
                try clear hfz58_5
                try clear hfz58_6
                try clear hfz58_7
                try clear hfz58_8
                try clear p2
                obtain ⟨x9_2, x10_2, rfl, HA, HK2, HO_9, BK257, HB⟩ := hrel
                cases gk with
                | zero => exact absurd HA.out (by simp [bailiwickref3_BuildPiece.l0])
                | succ k2 =>
                  have H := HA.out
                  clear HA
                  simp only [bailiwickref3_BuildPiece.l0] at H
                  by_cases c61 : x10_2 < (l2_7.length : Int)
                  · rw [if_pos c61] at H
                    have c61b0 : decide (x10_2 < (l2_7.length : Int)) = true := decide_eq_true c61
                    clear c61
                    by_cases c62 : 0 ≤ x10_2
                    · rw [if_pos c62] at H
                      have c62b0 : decide (0 ≤ x10_2) = true := decide_eq_true c62
                      clear c62
                      by_cases c63 : x9_2.length < 140737488355328
                      · rw [if_pos c63] at H
                        have LMc63 := Aside0.mk c63
                        clear c63
                        obtain ⟨y294, hy294⟩ : ∃ y_ : List Int, y_ = (x9_2 ++ [rd l2_7 x10_2]) := ⟨_, rfl⟩
                        replace H : (bailiwickref3_BuildPiece.l0 k2 a0 a1 y294 (wrap64 (x10_2 + 1)) a2_0 a2_1 a2_2 a2_3 a2_4 a2_5 a2_6 l2_7 l2_8) = some (r1, r2) := by first | (rw [hy294]; with_reducible exact H) | (have H2_ := (Option.bind_some _ _).symm.trans H; rw [hy294]; with_reducible exact H2_) | (have H2_ := (Option.bind_some _ _).symm.trans H; with_reducible exact H2_) | with_reducible exact H | (rw [hy294]; exact H) | exact H
                        have Ny294 := Aside0.mk hy294
                        clear hy294
                        have H' := Aside0.mk H
                        clear H
                        have hcz64_0 : wr.cell? ⟨gb257, 0, none⟩ = some (.int .i64 a2_0) := (blk_cell BK257.out 0).trans rfl
                        have hcz64_1 : wr.cell? ⟨gb257, 1, none⟩ = some (.int .i64 a2_1) := (blk_cell BK257.out 1).trans rfl
                        have hcz64_2 : wr.cell? ⟨gb257, 2, none⟩ = some (.int .u32 a2_2) := (blk_cell BK257.out 2).trans rfl
                        have hcz64_3 : wr.cell? ⟨gb257, 3, none⟩ = some (.int .u32 a2_3) := (blk_cell BK257.out 3).trans rfl
                        have hcz64_4 : wr.cell? ⟨gb257, 4, none⟩ = some (.int .i64 a2_4) := (blk_cell BK257.out 4).trans rfl
                        have hcz64_5 : wr.cell? ⟨gb257, 5, none⟩ = some (.int .i64 a2_5) := (blk_cell BK257.out 5).trans rfl
                        have hcz64_6 : wr.cell? ⟨gb257, 6, none⟩ = some (.int .i64 a2_6) := (blk_cell BK257.out 6).trans rfl
                        have hcz64_7 : wr.cell? ⟨gb257, 7, none⟩ = some (.slice A2_7 l2_7.length c2_7) := (blk_cell BK257.out 7).trans rfl
                        have hcz64_8 : wr.cell? ⟨gb257, 8, none⟩ = some (.slice A2_8 l2_8.length c2_8) := (blk_cell BK257.out 8).trans rfl
                        have hfz64_0 := blk_frozen BK257.out 0
                        have hfz64_1 := blk_frozen BK257.out 1
                        have hfz64_2 := blk_frozen BK257.out 2
                        have hfz64_3 := blk_frozen BK257.out 3
                        have hfz64_4 := blk_frozen BK257.out 4
                        have hfz64_5 := blk_frozen BK257.out 5
                        have hfz64_6 := blk_frozen BK257.out 6
                        have hfz64_7 := blk_frozen BK257.out 7
                        have hfz64_8 := blk_frozen BK257.out 8
                        have p293 : 0 ≤ (x10_2 : Int) := of_decide_eq_true (by first | (with_reducible assumption) | assumption)
                        have q293 : x10_2 < (l2_7.length : Int) := of_decide_eq_true (by first | (with_reducible assumption) | assumption)
                        obtain ⟨ad293, e293, hx293_0⟩ := Kd.at_int HR2_7.out x10_2 p293 q293
                        cases e293
                        replace hx293_0 := (HB.out.cell (World.block_lt_of_cell? w _ hx293_0)).trans hx293_0
                        replace p293 := eq_true p293
                        replace q293 := eq_true q293
                        go_wp2_with (first | ((with_reducible refine gate_builtin (b := .append) (xs := #[.tmp 114, .tmp 120]) rfl ?_); (try (refine gate_guard (by rfl) ?_; dsimp only)); at_builtin; refine Kd.R_append (Kd.int .u8) (w0 := w) w.heap.size rfl (.tmp 114) (.tmp 120) 23 5 (.int .u8 0) 1 rfl Try.underlying23 info5 rfl (by decide) (by omega) u9 x9_2 (rd l2_7 x10_2) [.int .u8 (rd l2_7 x10_2)] (fun _ => True) (fun _ => False) rfl rfl ?aP (fun _ hk => hk.elim) ?aF ?aO ?aB ?aS ?aL ?_; (case aP => exact rfl); (case aB => exact (by repeat (first | (with_reducible first | exact HB.out | apply below_alloc | apply pw_below_drewN | apply below_drew1 | refine below_set ?_ GE257.out) | exact HB.out))); (case aF => exact (fun _ _ => trivial)); (case aO => exact (by (with_reducible repeat (first | apply Kd.R_alloc | apply Kd.R_drewN | apply Kd.R_drew)); exact HO_9.out)); (case aS => exact (below_size (by repeat (first | (with_reducible first | exact HB.out | apply below_alloc | apply pw_below_drewN | apply below_drew1 | refine below_set ?_ GE257.out) | exact HB.out)))); (case aL => have := LMc63.out; omega); intro v295 w65 ho hb hg hat; rw [← Ny294.out] at ho; have n0_ := Aside0.mk (blk_grown (g := gb257) (o := .cells #[.int .i64 a2_0, .int .i64 a2_1, .int .u32 a2_2, .int .u32 a2_3, .int .i64 a2_4, .int .i64 a2_5, .int .i64 a2_6, .slice (some ad293) l2_7.length c2_7, .slice A2_8 l2_8.length c2_8] 46 (0, 0)) (by (with_reducible repeat (first | refine blk_drewN ?_ _ | refine blk_drew ?_ | refine blk_alloc ?_ _)); exact BK257.out) hg (Kd.R_ne HO_9.out BK257.out (by decide))); have n1_ := Aside0.mk (hb); have n2_ := Aside0.mk (ho); clear BK257; clear HB; clear HO_9; have BK257 := n0_; have HB := n1_; have HO296 := n2_; clear n0_ n1_ n2_; clear ho hb hg hat))
                        go_roundg k2
                        case measure => have := HJ3.out; have := HK2.out; omega
                        case rel => exact ⟨(y294), (wrap64 (x10_2 + 1)), (by first | rfl | (simp; done) | (simp [*]; done)), H', ⟨by have := HJ3.out; have := HK2.out; omega⟩, ⟨by (with_reducible repeat (first | apply Kd.R_alloc | apply Kd.R_drewN | apply Kd.R_drew)); exact HO296.out⟩, ⟨by (with_reducible repeat (first | refine blk_drewN ?_ _ | refine blk_drew ?_ | refine blk_alloc ?_ _)); exact BK257.out⟩, ⟨by repeat (first | (with_reducible first | exact HB.out | apply below_alloc | apply pw_below_drewN | apply below_drew1 | refine below_set ?_ GE257.out) | exact HB.out)⟩⟩
                      · rw [if_neg c63] at H
                        exact absurd H (by simp)
                    · rw [if_neg c62] at H
                      exact absurd H (by simp)
                  · rw [if_neg c61] at H
                    have c61b0 : decide (x10_2 < (l2_7.length : Int)) = false := decide_eq_false c61
                    clear c61
                    have H' := Aside0.mk H
                    clear H
                    have hcz66_0 : wr.cell? ⟨gb257, 0, none⟩ = some (.int .i64 a2_0) := (blk_cell BK257.out 0).trans rfl
                    have hcz66_1 : wr.cell? ⟨gb257, 1, none⟩ = some (.int .i64 a2_1) := (blk_cell BK257.out 1).trans rfl
                    have hcz66_2 : wr.cell? ⟨gb257, 2, none⟩ = some (.int .u32 a2_2) := (blk_cell BK257.out 2).trans rfl
                    have hcz66_3 : wr.cell? ⟨gb257, 3, none⟩ = some (.int .u32 a2_3) := (blk_cell BK257.out 3).trans rfl
                    have hcz66_4 : wr.cell? ⟨gb257, 4, none⟩ = some (.int .i64 a2_4) := (blk_cell BK257.out 4).trans rfl
                    have hcz66_5 : wr.cell? ⟨gb257, 5, none⟩ = some (.int .i64 a2_5) := (blk_cell BK257.out 5).trans rfl
                    have hcz66_6 : wr.cell? ⟨gb257, 6, none⟩ = some (.int .i64 a2_6) := (blk_cell BK257.out 6).trans rfl
                    have hcz66_7 : wr.cell? ⟨gb257, 7, none⟩ = some (.slice A2_7 l2_7.length c2_7) := (blk_cell BK257.out 7).trans rfl
                    have hcz66_8 : wr.cell? ⟨gb257, 8, none⟩ = some (.slice A2_8 l2_8.length c2_8) := (blk_cell BK257.out 8).trans rfl
                    have hfz66_0 := blk_frozen BK257.out 0
                    have hfz66_1 := blk_frozen BK257.out 1
                    have hfz66_2 := blk_frozen BK257.out 2
                    have hfz66_3 := blk_frozen BK257.out 3
                    have hfz66_4 := blk_frozen BK257.out 4
                    have hfz66_5 := blk_frozen BK257.out 5
                    have hfz66_6 := blk_frozen BK257.out 6
                    have hfz66_7 := blk_frozen BK257.out 7
                    have hfz66_8 := blk_frozen BK257.out 8
                    go_wp2
                    go_loopg [9, 11] k2 (fun kq v9 v11 w' => ∃ (x9_3 : List Int) (x11_3 : Int), v11 = .int .i64 x11_3 ∧ Aside0 (bailiwickref3_BuildPiece.l1 kq a0 a1 x9_3 x11_3 a2_0 a2_1 a2_2 a2_3 a2_4 a2_5 a2_6 l2_7 l2_8 = some (r1, r2)) ∧ Aside0 (kq ≤ k2) ∧ Aside0 (Kd.R (Kd.int .u8) 5 w' w.heap.size (fun _ => True) v9 x9_3) ∧ Aside0 (w'.heap[gb257]? = some (.cells #[.int .i64 a2_0, .int .i64 a2_1, .int .u32 a2_2, .int .u32 a2_3, .int .i64 a2_4, .int .i64 a2_5, .int .i64 a2_6, (.slice A2_7 l2_7.length c2_7), (.slice A2_8 l2_8.length c2_8)] 46 (0, 0))) ∧ Aside0 (Below w.heap.size w w'))
                    case atStart => exact ⟨(x9_2), (0), (by first | rfl | (simp; done) | (simp [*]; done)), H', ⟨Nat.le_refl _⟩, ⟨by (with_reducible repeat (first | apply Kd.R_alloc | apply Kd.R_drewN | apply Kd.R_drew)); exact HO_9.out⟩, ⟨by (with_reducible repeat (first | refine blk_drewN ?_ _ | refine blk_drew ?_ | refine blk_alloc ?_ _)); exact BK257.out⟩, ⟨by repeat (first | (with_reducible first | exact HB.out | apply below_alloc | apply pw_below_drewN | apply below_drew1 | refine below_set ?_ GE257.out) | exact HB.out)⟩⟩
                    case round =>
                      clear H'
                      try clear c1
                      try clear c2
                      try clear p2
                      try clear q2
                      try clear hx2
                      try clear c3
                      try clear c4
                      try clear c6
                      try clear p6
                      try clear c7
                      try clear c9
                      try clear c11
                      try clear c13
                      try clear c15
                      try clear c16
                      try clear c16b0
                      try clear c16b1
                      try clear c24
                      try clear c25
                      try clear c25b0
                      try clear c26
                      try clear p29
                      try clear q29
                      try clear hx29
                      try clear c31
                      try clear c33
                      try clear c38
                      try clear c48
                      try clear c61
                      try clear c61b0
                      try clear c62
                      try clear c62b0
                      try clear c63
                      try clear p64
                      try clear hcz17_0
                      try clear hcz17_1
                      try clear hcz17_2
                      try clear hcz17_3
                      try clear hcz17_4
                      try clear hcz17_5
                      try clear hcz17_6
                      try clear hcz17_7
                      try clear hcz17_8
                      try clear hcz18_0
                      try clear hcz18_1
                      try clear hcz18_2
                      try clear hcz18_3
                      try clear hcz18_4
                      try clear hcz18_5
                      try clear hcz18_6
                      try clear hcz18_7
                      try clear hcz18_8
                      try clear hcz19_0
                      try clear hcz19_1
                      try clear hcz19_2
                      try clear hcz19_3
                      try clear hcz19_4
                      try clear hcz19_5
                      try clear hcz19_6
                      try clear hcz19_7
                      try clear hcz19_8
                      try clear hcz20_0
                      try clear hcz20_1
                      try clear hcz20_2
                      try clear hcz20_3
                      try clear hcz20_4
                      try clear hcz20_5
                      try clear hcz20_6
                      try clear hcz20_7
                      try clear hcz20_8
                      try clear hcz21_0
                      try clear hcz21_1
                      try clear hcz21_2
                      try clear hcz21_3
                      try clear hcz21_4
                      try clear hcz21_5
                      try clear hcz21_6
                      try clear hcz21_7
                      try clear hcz21_8
                      try clear hcz22_0
                      try clear hcz22_1
                      try clear hcz22_2
                      try clear hcz22_3
                      try clear hcz22_4
                      try clear hcz22_5
                      try clear hcz22_6
                      try clear hcz22_7
                      try clear hcz22_8
                      try clear hcz23_0
                      try clear hcz23_1
                      try clear hcz23_2
                      try clear hcz23_3
                      try clear hcz23_4
                      try clear hcz23_5
                      try clear hcz23_6
                      try clear hcz23_7
                      try clear hcz23_8
                      try clear hcz26_0
                      try clear hcz26_1
                      try clear hcz26_2
                      try clear hcz26_3
                      try clear hcz26_4
                      try clear hcz26_5
                      try clear hcz26_6
                      try clear hcz26_7
                      try clear hcz26_8
                      try clear hcz35_0
                      try clear hcz35_1
                      try clear hcz35_2
                      try clear hcz35_3
                      try clear hcz35_4
                      try clear hcz35_5
                      try clear hcz35_6
                      try clear hcz35_7
                      try clear hcz35_8
                      try clear hcz37_0
                      try clear hcz37_1
                      try clear hcz37_2
                      try clear hcz37_3
                      try clear hcz37_4
                      try clear hcz37_5
                      try clear hcz37_6
                      try clear hcz37_7
                      try clear hcz37_8
                      try clear hcz40_0
                      try clear hcz40_1
                      try clear hcz40_2
                      try clear hcz40_3
                      try clear hcz40_4
                      try clear hcz40_5
                      try clear hcz40_6
                      try clear hcz40_7
                      try clear hcz40_8
                      try clear hcz43_0
                      try clear hcz43_1
                      try clear hcz43_2
                      try clear hcz43_3
                      try clear hcz43_4
                      try clear hcz43_5
                      try clear hcz43_6
                      try clear hcz43_7
                      try clear hcz43_8
                      try clear hcz46_0
                      try clear hcz46_1
                      try clear hcz46_2
                      try clear hcz46_3
                      try clear hcz46_4
                      try clear hcz46_5
                      try clear hcz46_6
                      try clear hcz46_7
                      try clear hcz46_8
                      try clear hcz51_0
                      try clear hcz51_1
                      try clear hcz51_2
                      try clear hcz51_3
                      try clear hcz51_4
                      try clear hcz51_5
                      try clear hcz51_6
                      try clear hcz51_7
                      try clear hcz51_8
                      try clear hcz58_0
                      try clear hcz58_1
                      try clear hcz58_2
                      try clear hcz58_3
                      try clear hcz58_4
                      try clear hcz58_5
                      try clear hcz58_6
                      try clear hcz58_7
                      try clear hcz58_8
                      try clear hcz64_0
                      try clear hcz64_1
                      try clear hcz64_2
                      try clear hcz64_3
                      try clear hcz64_4
                      try clear hcz64_5
                      try clear hcz64_6
                      try clear hcz64_7
                      try clear hcz64_8
                      try clear hcz66_0
                      try clear hcz66_1
                      try clear hcz66_2
                      try clear hcz66_3
                      try clear hcz66_4
                      try clear hcz66_5
                      try clear hcz66_6
                      try clear hcz66_7
                      try clear hcz66_8
                      try clear hfz17_0
                      try clear hfz17_1
                      try clear hfz17_2
                      try clear hfz17_3
                      try clear hfz17_4
                      try clear hfz17_5
                      try clear hfz17_6
                      try clear hfz17_7
                      try clear hfz17_8
                      try clear hfz18_0
                      try clear hfz18_1
                      try clear hfz18_2
                      try clear hfz18_3
                      try clear hfz18_4
                      try clear hfz18_5
                      try clear hfz18_6
                      try clear hfz18_7
                      try clear hfz18_8
                      try clear hfz19_0
                      try clear hfz19_1
                      try clear hfz19_2
                      try clear hfz19_3
                      try clear hfz19_4
                      try clear hfz19_5
                      try clear hfz19_6
                      try clear hfz19_7
                      try clear hfz19_8
                      try clear hfz20_0
                      try clear hfz20_1
                      try clear hfz20_2
                      try clear hfz20_3
                      try clear hfz20_4
                      try clear hfz20_5
                      try clear hfz20_6
                      try clear hfz20_7
                      try clear hfz20_8
                      try clear hfz21_0
                      try clear hfz21_1
                      try clear hfz21_2
                      try clear hfz21_3
                      try clear hfz21_4
                      try clear hfz21_5
                      try clear hfz21_6
                      try clear hfz21_7
                      try clear hfz21_8
                      try clear hfz22_0
                      try clear hfz22_1
                      try clear hfz22_2
                      try clear hfz22_3
                      try clear hfz22_4
                      try clear hfz22_5
                      try clear hfz22_6
                      try clear hfz22_7
                      try clear hfz22_8
                      try clear hfz23_0
                      try clear hfz23_1
                      try clear hfz23_2
                      try clear hfz23_3
                      try clear hfz23_4
                      try clear hfz23_5
                      try clear hfz23_6
                      try clear hfz23_7
                      try clear hfz23_8
                      try clear hfz26_0
                      try clear hfz26_1
                      try clear hfz26_2
                      try clear hfz26_3
                      try clear hfz26_4
                      try clear hfz26_5
                      try clear hfz26_6
                      try clear hfz26_7
                      try clear hfz26_8
                      try clear hfz35_0
                      try clear hfz35_1
                      try clear hfz35_2
                      try clear hfz35_3
                      try clear hfz35_4
                      try clear hfz35_5
                      try clear hfz35_6
                      try clear hfz35_7
                      try clear hfz35_8
                      try clear hfz37_0
                      try clear hfz37_1
                      try clear hfz37_2
                      try clear hfz37_3
                      try clear hfz37_4
                      try clear hfz37_5
                      try clear hfz37_6
                      try clear hfz37_7
                      try clear hfz37_8
                      try clear hfz40_0
                      try clear hfz40_1
                      try clear hfz40_2
                      try clear hfz40_3
                      try clear hfz40_4
                      try clear hfz40_5
                      try clear hfz40_6
                      try clear hfz40_7
                      try clear hfz40_8
                      try clear hfz43_0
                      try clear hfz43_1
                      try clear hfz43_2
                      try clear hfz43_3
                      try clear hfz43_4
                      try clear hfz43_5
                      try clear hfz43_6
                      try clear hfz43_7
                      try clear hfz43_8
                      try clear hfz46_0
                      try clear hfz46_1
                      try clear hfz46_2
                      try clear hfz46_3
                      try clear hfz46_4
                      try clear hfz46_5
                      try clear hfz46_6
                      try clear hfz46_7
                      try clear hfz46_8
                      try clear hfz51_0
                      try clear hfz51_1
                      try clear hfz51_2
                      try clear hfz51_3
                      try clear hfz51_4
                      try clear hfz51_5
                      try clear hfz51_6
                      try clear hfz51_7
                      try clear hfz51_8
                      try clear hfz58_0
                      try clear hfz58_1
                      try clear hfz58_2
                      try clear hfz58_3
                      try clear hfz58_4
                      try clear hfz58_5
                      try clear hfz58_6
                      try clear hfz58_7
                      try clear hfz58_8
                      try clear hfz64_0
                      try clear hfz64_1
                      try clear hfz64_2
                      try clear hfz64_3
                      try clear hfz64_4
                      try clear hfz64_5
                      try clear hfz64_6
                      try clear hfz64_7
                      try clear hfz64_8
                      try clear hfz66_0
                      try clear hfz66_1
                      try clear hfz66_2
                      try clear hfz66_3
                      try clear hfz66_4
                      try clear hfz66_5
                      try clear hfz66_6
                      try clear hfz66_7
                      try clear hfz66_8
                      try clear hx293_0
                      try clear p2
                      try clear p293
                      try clear p6
                      try clear q293
                      obtain ⟨x9_3, x11_3, rfl, HA, HK3, HO_9, BK257, HB⟩ := hrel
                      cases gk with
                      | zero => exact absurd HA.out (by simp [bailiwickref3_BuildPiece.l1])
                      | succ k3 =>
                        have H := HA.out
                        clear HA
                        simp only [bailiwickref3_BuildPiece.l1] at H
                        by_cases c67 : x11_3 < (l2_8.length : Int)
                        · rw [if_pos c67] at H
                          have c67b0 : decide (x11_3 < (l2_8.length : Int)) = true := decide_eq_true c67
                          clear c67
                          by_cases c68 : 0 ≤ x11_3
                          · rw [if_pos c68] at H
                            have c68b0 : decide (0 ≤ x11_3) = true := decide_eq_true c68
                            clear c68
                            by_cases c69 : x9_3.length < 140737488355328
                            · rw [if_pos c69] at H
                              have LMc69 := Aside0.mk c69
                              clear c69
                              obtain ⟨y298, hy298⟩ : ∃ y_ : List Int, y_ = (x9_3 ++ [rd l2_8 x11_3]) := ⟨_, rfl⟩
                              replace H : (bailiwickref3_BuildPiece.l1 k3 a0 a1 y298 (wrap64 (x11_3 + 1)) a2_0 a2_1 a2_2 a2_3 a2_4 a2_5 a2_6 l2_7 l2_8) = some (r1, r2) := by first | (rw [hy298]; with_reducible exact H) | (have H2_ := (Option.bind_some _ _).symm.trans H; rw [hy298]; with_reducible exact H2_) | (have H2_ := (Option.bind_some _ _).symm.trans H; with_reducible exact H2_) | with_reducible exact H | (rw [hy298]; exact H) | exact H
                              have Ny298 := Aside0.mk hy298
                              clear hy298
                              have H' := Aside0.mk H
                              clear H
                              have hcz70_0 : wr.cell? ⟨gb257, 0, none⟩ = some (.int .i64 a2_0) := (blk_cell BK257.out 0).trans rfl
                              have hcz70_1 : wr.cell? ⟨gb257, 1, none⟩ = some (.int .i64 a2_1) := (blk_cell BK257.out 1).trans rfl
                              have hcz70_2 : wr.cell? ⟨gb257, 2, none⟩ = some (.int .u32 a2_2) := (blk_cell BK257.out 2).trans rfl
                              have hcz70_3 : wr.cell? ⟨gb257, 3, none⟩ = some (.int .u32 a2_3) := (blk_cell BK257.out 3).trans rfl
                              have hcz70_4 : wr.cell? ⟨gb257, 4, none⟩ = some (.int .i64 a2_4) := (blk_cell BK257.out 4).trans rfl
                              have hcz70_5 : wr.cell? ⟨gb257, 5, none⟩ = some (.int .i64 a2_5) := (blk_cell BK257.out 5).trans rfl
                              have hcz70_6 : wr.cell? ⟨gb257, 6, none⟩ = some (.int .i64 a2_6) := (blk_cell BK257.out 6).trans rfl
                              have hcz70_7 : wr.cell? ⟨gb257, 7, none⟩ = some (.slice A2_7 l2_7.length c2_7) := (blk_cell BK257.out 7).trans rfl
                              have hcz70_8 : wr.cell? ⟨gb257, 8, none⟩ = some (.slice A2_8 l2_8.length c2_8) := (blk_cell BK257.out 8).trans rfl
                              have hfz70_0 := blk_frozen BK257.out 0
                              have hfz70_1 := blk_frozen BK257.out 1
                              have hfz70_2 := blk_frozen BK257.out 2
                              have hfz70_3 := blk_frozen BK257.out 3
                              have hfz70_4 := blk_frozen BK257.out 4
                              have hfz70_5 := blk_frozen BK257.out 5
                              have hfz70_6 := blk_frozen BK257.out 6
                              have hfz70_7 := blk_frozen BK257.out 7
                              have hfz70_8 := blk_frozen BK257.out 8
                              have p297 : 0 ≤ (x11_3 : Int) := of_decide_eq_true (by first | (with_reducible assumption) | assumption)
                              have q297 : x11_3 < (l2_8.length : Int) := of_decide_eq_true (by first | (with_reducible assumption) | assumption)
                              obtain ⟨ad297, e297, hx297_0⟩ := Kd.at_int HR2_8.out x11_3 p297 q297
                              cases e297
                              replace hx297_0 := (HB.out.cell (World.block_lt_of_cell? w _ hx297_0)).trans hx297_0
                              replace p297 := eq_true p297
                              replace q297 := eq_true q297
                              go_wp2_with (first | ((with_reducible refine gate_builtin (b := .append) (xs := #[.tmp 129, .tmp 135]) rfl ?_); (try (refine gate_guard (by rfl) ?_; dsimp only)); at_builtin; refine Kd.R_append (Kd.int .u8) (w0 := w) w.heap.size rfl (.tmp 129) (.tmp 135) 23 5 (.int .u8 0) 1 rfl Try.underlying23 info5 rfl (by decide) (by omega) u9 x9_3 (rd l2_8 x11_3) [.int .u8 (rd l2_8 x11_3)] (fun _ => True) (fun _ => False) rfl rfl ?aP (fun _ hk => hk.elim) ?aF ?aO ?aB ?aS ?aL ?_; (case aP => exact rfl); (case aB => exact (by repeat (first | (with_reducible first | exact HB.out | apply below_alloc | apply pw_below_drewN | apply below_drew1 | refine below_set ?_ GE257.out) | exact HB.out))); (case aF => exact (fun _ _ => trivial)); (case aO => exact (by (with_reducible repeat (first | apply Kd.R_alloc | apply Kd.R_drewN | apply Kd.R_drew)); exact HO_9.out)); (case aS => exact (below_size (by repeat (first | (with_reducible first | exact HB.out | apply below_alloc | apply pw_below_drewN | apply below_drew1 | refine below_set ?_ GE257.out) | exact HB.out)))); (case aL => have := LMc69.out; omega); intro v299 w71 ho hb hg hat; rw [← Ny298.out] at ho; have n0_ := Aside0.mk (blk_grown (g := gb257) (o := .cells #[.int .i64 a2_0, .int .i64 a2_1, .int .u32 a2_2, .int .u32 a2_3, .int .i64 a2_4, .int .i64 a2_5, .int .i64 a2_6, .slice A2_7 l2_7.length c2_7, .slice (some ad297) l2_8.length c2_8] 46 (0, 0)) (by (with_reducible repeat (first | refine blk_drewN ?_ _ | refine blk_drew ?_ | refine blk_alloc ?_ _)); exact BK257.out) hg (Kd.R_ne HO_9.out BK257.out (by decide))); have n1_ := Aside0.mk (hb); have n2_ := Aside0.mk (ho); clear BK257; clear HB; clear HO_9; have BK257 := n0_; have HB := n1_; have HO300 := n2_; clear n0_ n1_ n2_; clear ho hb hg hat))
                              go_roundg k3
                              case measure => have := HJ3.out; have := HK2.out; have := HK3.out; omega
                              case rel => exact ⟨(y298), (wrap64 (x11_3 + 1)), (by first | rfl | (simp; done) | (simp [*]; done)), H', ⟨by have := HJ3.out; have := HK2.out; have := HK3.out; omega⟩, ⟨by (with_reducible repeat (first | apply Kd.R_alloc | apply Kd.R_drewN | apply Kd.R_drew)); exact HO300.out⟩, ⟨by (with_reducible repeat (first | refine blk_drewN ?_ _ | refine blk_drew ?_ | refine blk_alloc ?_ _)); exact BK257.out⟩, ⟨by repeat (first | (with_reducible first | exact HB.out | apply below_alloc | apply pw_below_drewN | apply below_drew1 | refine below_set ?_ GE257.out) | exact HB.out)⟩⟩
                            · rw [if_neg c69] at H
                              exact absurd H (by simp)
                          · rw [if_neg c68] at H
                            exact absurd H (by simp)
                        · rw [if_neg c67] at H
                          have c67b0 : decide (x11_3 < (l2_8.length : Int)) = false := decide_eq_false c67
                          clear c67
                          replace H := Option.bind_eq_some_iff.mp H
                          obtain ⟨t301, A720, H⟩ := H
                          replace H : ((bailiwickref1_Sum.f k3 (([t301, x9_3] : List (List Int)))).bind fun t308 => (if 16 < (x9_3.length : Int) then (if 17 < (x9_3.length : Int) then (some (((x9_3.set (16 : Int).toNat (((wrap64 (65535 - t308)) / 256) % 256)).set (17 : Int).toNat ((wrap64 (65535 - t308)) % 256)), 0)) else (none)) else (none))) = some (r1, r2) := H
                          have A72 := Aside0.mk A720
                          clear A720
                          obtain ⟨y304, hy304⟩ : ∃ y_ : List (List Int), y_ = (([t301, x9_3] : List (List Int))) := ⟨_, rfl⟩
                          replace H : ((bailiwickref1_Sum.f k3 y304).bind fun t308 => (if 16 < (x9_3.length : Int) then (if 17 < (x9_3.length : Int) then (some (((x9_3.set (16 : Int).toNat (((wrap64 (65535 - t308)) / 256) % 256)).set (17 : Int).toNat ((wrap64 (65535 - t308)) % 256)), 0)) else (none)) else (none))) = some (r1, r2) := by first | (rw [hy304]; with_reducible exact H) | (have H2_ := (Option.bind_some _ _).symm.trans H; rw [hy304]; with_reducible exact H2_) | (have H2_ := (Option.bind_some _ _).symm.trans H; with_reducible exact H2_) | with_reducible exact H | (rw [hy304]; exact H) | exact H
                          have Ny304 := Aside0.mk hy304
                          clear hy304
                          replace H := Option.bind_eq_some_iff.mp H
                          obtain ⟨t308, A730, H⟩ := H
                          replace H : (if 16 < (x9_3.length : Int) then (if 17 < (x9_3.length : Int) then (some (((x9_3.set (16 : Int).toNat (((wrap64 (65535 - t308)) / 256) % 256)).set (17 : Int).toNat ((wrap64 (65535 - t308)) % 256)), 0)) else (none)) else (none)) = some (r1, r2) := H
                          have A73 := Aside0.mk A730
                          clear A730
                          by_cases c74 : 16 < (x9_3.length : Int)
                          · rw [if_pos c74] at H
                            have c74b0 : decide (16 < (x9_3.length : Int)) = true := decide_eq_true c74
                            have c74b1 : decide (16 < x9_3.length) = true := decide_eq_true (by omega)
                            clear c74
                            obtain ⟨y309, hy309⟩ : ∃ y_ : List Int, y_ = (x9_3.set (16 : Int).toNat (((wrap64 (65535 - t308)) / 256) % 256)) := ⟨_, rfl⟩
                            replace H : (if 17 < (x9_3.length : Int) then (some ((y309.set (17 : Int).toNat ((wrap64 (65535 - t308)) % 256)), 0)) else (none)) = some (r1, r2) := by first | (rw [hy309]; with_reducible exact H) | (have H2_ := (Option.bind_some _ _).symm.trans H; rw [hy309]; with_reducible exact H2_) | (have H2_ := (Option.bind_some _ _).symm.trans H; with_reducible exact H2_) | with_reducible exact H | (rw [hy309]; exact H) | exact H
                            have Ny309 := Aside0.mk hy309
                            clear hy309
                            by_cases c76 : 17 < (x9_3.length : Int)
                            · rw [if_pos c76] at H
                              have c76b0 : decide (17 < (x9_3.length : Int)) = true := decide_eq_true c76
                              have c76b1 : decide (17 < x9_3.length) = true := decide_eq_true (by omega)
                              clear c76
                              obtain ⟨y310, hy310⟩ : ∃ y_ : List Int, y_ = (y309.set (17 : Int).toNat ((wrap64 (65535 - t308)) % 256)) := ⟨_, rfl⟩
                              replace H : (some (y310, 0)) = some (r1, r2) := by first | (rw [hy310]; with_reducible exact H) | (have H2_ := (Option.bind_some _ _).symm.trans H; rw [hy310]; with_reducible exact H2_) | (have H2_ := (Option.bind_some _ _).symm.trans H; with_reducible exact H2_) | with_reducible exact H | (rw [hy310]; exact H) | exact H
                              have Ny310 := Aside0.mk hy310
                              clear hy310
                              simp only [Option.some.injEq, Prod.mk.injEq] at H
                              obtain ⟨rfl, rfl⟩ := H
                              have hcz78_0 : wr.cell? ⟨gb257, 0, none⟩ = some (.int .i64 a2_0) := (blk_cell BK257.out 0).trans rfl
                              have hcz78_1 : wr.cell? ⟨gb257, 1, none⟩ = some (.int .i64 a2_1) := (blk_cell BK257.out 1).trans rfl
                              have hcz78_2 : wr.cell? ⟨gb257, 2, none⟩ = some (.int .u32 a2_2) := (blk_cell BK257.out 2).trans rfl
                              have hcz78_3 : wr.cell? ⟨gb257, 3, none⟩ = some (.int .u32 a2_3) := (blk_cell BK257.out 3).trans rfl
                              have hcz78_4 : wr.cell? ⟨gb257, 4, none⟩ = some (.int .i64 a2_4) := (blk_cell BK257.out 4).trans rfl
                              have hcz78_5 : wr.cell? ⟨gb257, 5, none⟩ = some (.int .i64 a2_5) := (blk_cell BK257.out 5).trans rfl
                              have hcz78_6 : wr.cell? ⟨gb257, 6, none⟩ = some (.int .i64 a2_6) := (blk_cell BK257.out 6).trans rfl
                              have hcz78_7 : wr.cell? ⟨gb257, 7, none⟩ = some (.slice A2_7 l2_7.length c2_7) := (blk_cell BK257.out 7).trans rfl
                              have hcz78_8 : wr.cell? ⟨gb257, 8, none⟩ = some (.slice A2_8 l2_8.length c2_8) := (blk_cell BK257.out 8).trans rfl
                              have hfz78_0 := blk_frozen BK257.out 0
                              have hfz78_1 := blk_frozen BK257.out 1
                              have hfz78_2 := blk_frozen BK257.out 2
                              have hfz78_3 := blk_frozen BK257.out 3
                              have hfz78_4 := blk_frozen BK257.out 4
                              have hfz78_5 := blk_frozen BK257.out 5
                              have hfz78_6 := blk_frozen BK257.out 6
                              have hfz78_7 := blk_frozen BK257.out 7
                              have hfz78_8 := blk_frozen BK257.out 8
                              obtain ⟨Ao79, co79, eo79⟩ := Kd.R_slice HO_9.out
                              subst eo79
                              go_wp2_with (first | ((with_reducible refine gate_callee (f := 50) rfl ?_); refine goesL_ (some 141) rfl rfl Try.func50 (by kernel_rfl) rfl #[.int .u32 a0, .int .u32 a1, .int .i64 6, .int .i64 (x9_3.length : Int)] rfl (by (try simp only [List.map_toArray, List.map_cons, List.map_nil]); first | done | rfl | (simp only [List.length_drop, List.length_take]; rfl)) ?_; (with_reducible refine (bailiwickref3_Pseudo.calls k3 a0 a1 6 (x9_3.length : Int) t301 _ A72.out).mono ?_); rintro e w80 ⟨v302, rfl, ho0, hb⟩; refine ⟨_, rfl, ?_⟩; have n0_ := Aside0.mk (Kd.R_elder' (by (with_reducible repeat (first | apply Kd.R_alloc | apply Kd.R_drewN | apply Kd.R_drew)); exact HO_9.out) (Kd.R_base ho0) hb); have n1_ := Aside0.mk (Kd.R_lower (Kd.R_new' ho0 (Kd.R_lt (by (with_reducible repeat (first | apply Kd.R_alloc | apply Kd.R_drewN | apply Kd.R_drew)); exact HO_9.out))) (below_size (by repeat (first | (with_reducible first | exact HB.out | apply below_alloc | apply pw_below_drewN | apply below_drew1 | refine below_set ?_ GE257.out) | exact HB.out)))); have n2_ := Aside0.mk (blk_below (g := gb257) (o := .cells #[.int .i64 a2_0, .int .i64 a2_1, .int .u32 a2_2, .int .u32 a2_3, .int .i64 a2_4, .int .i64 a2_5, .int .i64 a2_6, .slice A2_7 l2_7.length c2_7, .slice A2_8 l2_8.length c2_8] 46 (0, 0)) (by (with_reducible repeat (first | refine blk_drewN ?_ _ | refine blk_drew ?_ | refine blk_alloc ?_ _)); exact BK257.out) hb); have n3_ := Aside0.mk (below_step (by repeat (first | (with_reducible first | exact HB.out | apply below_alloc | apply pw_below_drewN | apply below_drew1 | refine below_set ?_ GE257.out) | exact HB.out)) hb); clear HO_9; clear BK257; clear HB; have HO_9 := n0_; have HO303 := n1_; have BK257 := n2_; have HB := n3_; clear n0_ n1_ n2_ n3_; (try clear hb); (try clear hb2); (try clear hk); (try clear hi); (try clear ho0); obtain ⟨Ao81, co81, eo81⟩ := Kd.R_slice HO303.out; subst eo81) | ((with_reducible refine gate_dst (N := 143) rfl ?_); (try (refine gate_guard (by rfl) ?_; dsimp only)); refine Kd.N_lit (Kd.slice 5 (Kd.int .u8)) _ 23 ?hg (N' := 143) ?hd (xs := ([t301, x9_3] : List (List Int))) (inner := [.slice Ao81 t301.length co81, .slice Ao79 x9_3.length co79]) (ok := fun _ => True) (okp := fun _ => True) ?hr ?hp (fun _ _ => trivial) trivial (Below.refl _ _) (Nat.le_refl _) (by simp) ?_; (case hd => rfl); (case hg => rfl); (case hr => first | (go_simp; done) | (go_simp; rfl)); (case hp => exact (Reps.one (show Kd.FK (Kd.slice 5 (Kd.int .u8)) _ _ t301 [.slice Ao81 t301.length co81] from Kd.FK_slice_mk (by exact (Kd.R_reads' HO303.out).2.1) (Kd.F_mono (Kd.C_F (Kd.heap_int .u8) (by repeat (first | exact (Kd.R_reads' HO303.out).2.2 | (with_reducible refine Kd.C_alloc ?_ _) | (with_reducible refine Kd.C_drewN ?_ _) | (with_reducible refine Kd.C_drew ?_)))) (fun _ _ => trivial))) (Reps.one (show Kd.FK (Kd.slice 5 (Kd.int .u8)) _ _ x9_3 [.slice Ao79 x9_3.length co79] from Kd.FK_slice_mk (by exact (Kd.R_reads' HO_9.out).2.1) (Kd.F_mono (Kd.C_F (Kd.heap_int .u8) (by repeat (first | exact (Kd.R_reads' HO_9.out).2.2 | (with_reducible refine Kd.C_alloc ?_ _) | (with_reducible refine Kd.C_drewN ?_ _) | (with_reducible refine Kd.C_drew ?_)))) (fun _ _ => trivial))) (Reps.none _ _)))); intro vl307 w82 ho hb hg_ hnew_; clear hg_ hnew_; (first | rw [← Ny304.out] at ho | (simp only [Int.reduceToNat] at ho; rw [← Ny304.out] at ho)); obtain ⟨Al307, cl307, el307⟩ := Kd.N_slice ho; subst el307; have hr := (Kd.N_reads' ho).2.2; have hl := (Kd.N_reads' ho).2.1; clear ho; have n0_ := Aside0.mk (Kd.R_below (by (with_reducible repeat (first | apply Kd.R_alloc | apply Kd.R_drewN | apply Kd.R_drew)); exact HO_9.out) hb); have n1_ := Aside0.mk (Kd.R_below (by (with_reducible repeat (first | apply Kd.R_alloc | apply Kd.R_drewN | apply Kd.R_drew)); exact HO303.out) hb); have n2_ := Aside0.mk (blk_below (g := gb257) (o := .cells #[.int .i64 a2_0, .int .i64 a2_1, .int .u32 a2_2, .int .u32 a2_3, .int .i64 a2_4, .int .i64 a2_5, .int .i64 a2_6, .slice A2_7 l2_7.length c2_7, .slice A2_8 l2_8.length c2_8] 46 (0, 0)) (by (with_reducible repeat (first | refine blk_drewN ?_ _ | refine blk_drew ?_ | refine blk_alloc ?_ _)); exact BK257.out) hb); have n3_ := Aside0.mk (below_step (by repeat (first | (with_reducible first | exact HB.out | apply below_alloc | apply pw_below_drewN | apply below_drew1 | refine below_set ?_ GE257.out) | exact HB.out)) hb); have n4_ := Aside0.mk (hr); have n5_ := Aside0.mk (hl); clear HO_9; clear HO303; clear BK257; clear HB; have HO_9 := n0_; have HO303 := n1_; have BK257 := n2_; have HB := n3_; have HRl307 := n4_; have HCl307 := n5_; clear n0_ n1_ n2_ n3_ n4_ n5_; clear hb hr hl; have n_ := Aside0.mk (Kd.R_mono (ok' := (fun k_ => some k_ ≠ (.slice Ao81 t301.length co81 : Value).ownBlock)) HO_9.out (fun k_ hk => hk.2)); clear HO_9; have HO_9 := n_; clear n_; have n_ := Aside0.mk (Kd.R_mono (ok' := (fun k_ => some k_ ≠ (.slice Ao79 x9_3.length co79 : Value).ownBlock)) HO303.out (fun k_ hk => hk.2)); clear HO303; have HO303 := n_; clear n_) | ((with_reducible refine gate_callee (f := 49) rfl ?_); refine goesL_ (some 144) rfl rfl Try.func49 (by kernel_rfl) rfl #[.slice Al307 y304.length cl307] rfl (by (try simp only [List.map_toArray, List.map_cons, List.map_nil]); first | done | rfl | (simp only [List.length_drop, List.length_take]; rfl)) ?_; (with_reducible refine (bailiwickref1_Sum.calls k3 _ _ y304 t308 _ ?side1 ?side2 A73.out).mono ?_); (case side1 => repeat (first | exact (by repeat (first | (with_reducible exact HRl307.out) | (with_reducible refine Kd.C_alloc ?_ _) | (with_reducible refine Kd.C_drewN ?_ _) | (with_reducible refine Kd.C_drew ?_) | exact HRl307.out)) | (with_reducible refine Kd.C_alloc ?_ _) | (with_reducible refine Kd.C_drewN ?_ _) | (with_reducible refine Kd.C_drew ?_))); (case side2 => exact HCl307.out); rintro e w' ⟨rfl, ⟨nd, rfl⟩⟩; refine ⟨_, rfl, ?_⟩; (try (rw [drewN_self w82]; generalize hq_ : World.drewN w82 _ = w82; have n0_ : Aside0 (Kd.R (Kd.int .u8) 5 w82 w.heap.size (fun k_ => some k_ ≠ (.slice Ao79 x9_3.length co79 : Value).ownBlock) (.slice Ao81 t301.length co81) t301) := ⟨by rw [← hq_]; exact (by (with_reducible repeat (first | apply Kd.R_alloc | apply Kd.R_drewN | apply Kd.R_drew)); exact HO303.out)⟩; have n1_ : Aside0 (Kd.R (Kd.int .u8) 5 w82 w.heap.size (fun k_ => some k_ ≠ (.slice Ao81 t301.length co81 : Value).ownBlock) (.slice Ao79 x9_3.length co79) x9_3) := ⟨by rw [← hq_]; exact (by (with_reducible repeat (first | apply Kd.R_alloc | apply Kd.R_drewN | apply Kd.R_drew)); exact HO_9.out)⟩; have n2_ : Aside0 (w82.heap[gb257]? = some (.cells #[.int .i64 a2_0, .int .i64 a2_1, .int .u32 a2_2, .int .u32 a2_3, .int .i64 a2_4, .int .i64 a2_5, .int .i64 a2_6, .slice A2_7 l2_7.length c2_7, .slice A2_8 l2_8.length c2_8] 46 (0, 0))) := ⟨by rw [← hq_]; exact (by (with_reducible repeat (first | refine blk_drewN ?_ _ | refine blk_drew ?_ | refine blk_alloc ?_ _)); exact BK257.out)⟩; have n3_ : Aside0 (Below w.heap.size w w82) := ⟨by rw [← hq_]; exact (by repeat (first | (with_reducible first | exact HB.out | apply below_alloc | apply pw_below_drewN | apply below_drew1 | refine below_set ?_ GE257.out) | exact HB.out))⟩; have n4_ : Aside0 (Kd.C (Kd.slice 5 (Kd.int .u8)) w82 Al307 y304.length y304) := ⟨by rw [← hq_]; exact (by repeat (first | (with_reducible exact HRl307.out) | (with_reducible refine Kd.C_alloc ?_ _) | (with_reducible refine Kd.C_drewN ?_ _) | (with_reducible refine Kd.C_drew ?_) | exact HRl307.out))⟩; clear HO303 HO_9 BK257 HB HRl307 hq_; have HO303 := n0_; have HO_9 := n1_; have BK257 := n2_; have HB := n3_; have HRl307 := n4_; clear n0_ n1_ n2_ n3_ n4_)); have p75 : 0 ≤ (16 : Int) := (by omega); have q75 : (16 : Int) < ((x9_3.length : Int) : Int) := of_decide_eq_true (by first | (with_reducible assumption) | assumption); have qi75 : (16 < x9_3.length) = True := eq_true (by omega); obtain ⟨go75, co75, eo75, gb75, gl75, cl75, HG75⟩ := Kd.R_form HO_9.out (by omega); (first | cases eo75 | (injection eo75 with ea_ en_ ec_; (first | subst ea_ | (injection ea_ with ea_; subst ea_)); subst ec_; clear en_)); have GB75 := Aside0.mk gb75; have GG75 := Aside0.mk HG75; clear gb75 gl75 HG75; obtain ⟨hx75_0, hf75_0⟩ := Kd.R_celln 0 HO_9.out (16 : Int) p75 q75; (try rw [show ((16 : Int)).toNat = 16 from rfl] at hx75_0); (try simp only [Nat.reduceMul, Nat.zero_mul, Nat.zero_add, Nat.reduceAdd] at hx75_0); (try rw [show ((16 : Int)).toNat = 16 from rfl] at hf75_0); (try simp only [Nat.reduceMul, Nat.zero_mul, Nat.zero_add, Nat.reduceAdd] at hf75_0); replace p75 := eq_true p75; replace q75 := eq_true q75; obtain ⟨hy83_, hz83_⟩ := Kd.R_celln 0 HO_9.out (16 : Int) (by omega) (of_decide_eq_true (by first | (with_reducible assumption) | assumption)); (try simp only [Int.reduceToNat, Int.toNat_zero, Int.toNat_ofNat, Nat.reduceMul, Nat.zero_mul, Nat.zero_add] at hy83_ hz83_); (try rw [show ((16 : Int)).toNat = 16 from rfl] at hy83_); (try rw [show ((16 : Int)).toNat = 16 from rfl] at hz83_); have HP83 := Kd.R_putg HO_9.out (16 : Int) (((wrap64 (65535 - t308)) / 256) % 256)) | ((with_reducible refine gate_store (t := 5) (p := 150) rfl ?_); refine store_event (t := 5) (p := 150) (v := ?vo_w84) (w1 := (w82.setCell ⟨go75, (16 : Int).toNat, none⟩ (.int .u8 (((wrap64 (65535 - t308)) / 256) % 256)))) ?hg ?ho ?hn ?hr ?_; (case ho => rfl); (case hg => rfl); (case hn => rfl); (case hr => first | (go_simp; done) | (go_simp; rfl)); intro w84 hw; have hg : w82.grownBy w84 (some go75) := (by rw [hw]; exact HP83.2); have hp_ : Kd.R (Kd.int .u8) 5 w84 w.heap.size (fun k_ => some k_ ≠ (.slice Ao81 t301.length co81 : Value).ownBlock) (.slice (some ⟨go75, 0, none⟩) x9_3.length co79) y309 := (by rw [hw, Ny309.out]; exact HP83.1); clear HP83; have n0_ := Aside0.mk (hp_); have n1_ := Aside0.mk (blk_grown (g := gb257) (o := .cells #[.int .i64 a2_0, .int .i64 a2_1, .int .u32 a2_2, .int .u32 a2_3, .int .i64 a2_4, .int .i64 a2_5, .int .i64 a2_6, .slice A2_7 l2_7.length c2_7, .slice A2_8 l2_8.length c2_8] 46 (0, 0)) (by (with_reducible repeat (first | refine blk_drewN ?_ _ | refine blk_drew ?_ | refine blk_alloc ?_ _)); exact BK257.out) hg (Kd.R_ne HO_9.out BK257.out (by decide))); have n2_ := Aside0.mk (Kd.R_after (v := (.slice (some ⟨go75, 0, none⟩) x9_3.length co79)) (v1 := (.slice (some ⟨go75, 0, none⟩) x9_3.length co79)) (ok := (fun _ => True)) (by (with_reducible repeat (first | apply Kd.R_alloc | apply Kd.R_drewN | apply Kd.R_drew)); exact Kd.R_mono HO303.out (fun _ hk => ⟨trivial, hk⟩)) hg (.inl rfl)); have n3_ := Aside0.mk ((by rw [hw]; exact below_set (HB.out) GB75.out : Below w.heap.size w w84)); clear HO_9; clear BK257; clear HO303; clear HB; have HO_9 := n0_; have BK257 := n1_; have HO303 := n2_; have HB := n3_; clear n0_ n1_ n2_ n3_; clear hg hw hp_; have p77 : 0 ≤ (17 : Int) := (by omega); have q77 : (17 : Int) < ((x9_3.length : Int) : Int) := of_decide_eq_true (by first | (with_reducible assumption) | assumption); have qi77 : (17 < x9_3.length) = True := eq_true (by omega); obtain ⟨hx77_0, hf77_0⟩ := Kd.R_celln 0 HO_9.out (17 : Int) p77 q77; (try rw [show ((17 : Int)).toNat = 17 from rfl] at hx77_0); (try simp only [Nat.reduceMul, Nat.zero_mul, Nat.zero_add, Nat.reduceAdd] at hx77_0); (try rw [show ((17 : Int)).toNat = 17 from rfl] at hf77_0); (try simp only [Nat.reduceMul, Nat.zero_mul, Nat.zero_add, Nat.reduceAdd] at hf77_0); replace p77 := eq_true p77; replace q77 := eq_true q77; obtain ⟨hy85_, hz85_⟩ := Kd.R_celln 0 HO_9.out (17 : Int) (by omega) (of_decide_eq_true (by first | (with_reducible assumption) | assumption)); (try simp only [Int.reduceToNat, Int.toNat_zero, Int.toNat_ofNat, Nat.reduceMul, Nat.zero_mul, Nat.zero_add] at hy85_ hz85_); (try rw [show ((17 : Int)).toNat = 17 from rfl] at hy85_); (try rw [show ((17 : Int)).toNat = 17 from rfl] at hz85_); have HP85 := Kd.R_putg HO_9.out (17 : Int) ((wrap64 (65535 - t308)) % 256)) | ((with_reducible refine gate_store (t := 5) (p := 154) rfl ?_); refine store_event (t := 5) (p := 154) (v := ?vo_w86) (w1 := (w84.setCell ⟨go75, (17 : Int).toNat, none⟩ (.int .u8 ((wrap64 (65535 - t308)) % 256)))) ?hg ?ho ?hn ?hr ?_; (case ho => rfl); (case hg => rfl); (case hn => rfl); (case hr => first | (go_simp; done) | (go_simp; rfl)); intro w86 hw; have hg : w84.grownBy w86 (some go75) := (by rw [hw]; exact HP85.2); have hp_ : Kd.R (Kd.int .u8) 5 w86 w.heap.size (fun k_ => some k_ ≠ (.slice Ao81 t301.length co81 : Value).ownBlock) (.slice (some ⟨go75, 0, none⟩) x9_3.length co79) y310 := (by rw [hw, Ny310.out]; exact HP85.1); clear HP85; have n0_ := Aside0.mk (hp_); have n1_ := Aside0.mk (blk_grown (g := gb257) (o := .cells #[.int .i64 a2_0, .int .i64 a2_1, .int .u32 a2_2, .int .u32 a2_3, .int .i64 a2_4, .int .i64 a2_5, .int .i64 a2_6, .slice A2_7 l2_7.length c2_7, .slice A2_8 l2_8.length c2_8] 46 (0, 0)) (by (with_reducible repeat (first | refine blk_drewN ?_ _ | refine blk_drew ?_ | refine blk_alloc ?_ _)); exact BK257.out) hg (Kd.R_ne HO_9.out BK257.out (by decide))); have n2_ := Aside0.mk (Kd.R_after (v := (.slice (some ⟨go75, 0, none⟩) x9_3.length co79)) (v1 := (.slice (some ⟨go75, 0, none⟩) x9_3.length co79)) (ok := (fun _ => True)) (by (with_reducible repeat (first | apply Kd.R_alloc | apply Kd.R_drewN | apply Kd.R_drew)); exact HO303.out) hg (.inl rfl)); have n3_ := Aside0.mk ((by rw [hw]; exact below_set (HB.out) GB75.out : Below w.heap.size w w86)); clear HO_9; clear BK257; clear HO303; clear HB; have HO_9 := n0_; have BK257 := n1_; have HO303 := n2_; have HB := n3_; clear n0_ n1_ n2_ n3_; clear hg hw hp_))
                              go_ret2
                              exact ⟨_, by first | rfl | (simp [errW_none, errW_some] <;> rfl) | (simp [*, errW_none, errW_some] <;> rfl), by (with_reducible repeat (first | apply Kd.R_alloc | apply Kd.R_drewN | apply Kd.R_drew)); exact Kd.R_mono HO_9.out (fun _ hk => trivial), by repeat (first | (with_reducible first | exact HB.out | apply below_alloc | apply pw_below_drewN | apply below_drew1 | refine below_set ?_ GE257.out) | exact HB.out)⟩
                            · rw [if_neg c76] at H
                              exact absurd H (by simp)
                          · rw [if_neg c74] at H
                            exact absurd H (by simp)
            · rw [if_neg c33] at H
              exact absurd H (by simp)
          · rw [if_neg c31] at H
            exact absurd H (by simp)

/-! ### bailiwickref3_word: function 53 -/
def bailiwickref3_word.f (l0 : List Int) (a1 : Int) : Option (Int) := if 0 ≤ a1 then (if a1 < (l0.length : Int) then (if 0 ≤ (wrap64 (a1 + 1)) then (if (wrap64 (a1 + 1)) < (l0.length : Int) then (some (Go.bits .or .i64 (wrap64 ((wrap64 (rd l0 a1)) * 256)) (wrap64 (rd l0 (wrap64 (a1 + 1)))))) else (none)) else (none)) else (none)) else (none)
set_option maxHeartbeats 8000000 in
set_option maxRecDepth 100000 in
theorem bailiwickref3_word.calls (A0 : Option Addr) (c0 : Nat) (l0 : List Int) (a1 : Int) (r : Int) (w : World) (hr0 : Kd.C (Kd.int .u8) w A0 l0.length l0) (hc0 : l0.length ≤ c0) (h : bailiwickref3_word.f l0 a1 = some r) :
    Calls Try.prog 53 #[.slice A0 l0.length c0, .int .i64 a1] w fun e w' => e = .returned (.int .i64 r) ∧ Drawn0 w w' := by
  have HR0 := Aside0.mk hr0
  have HC0 := Aside0.mk hc0
  clear hr0 hc0
  have H : (if 0 ≤ a1 then (if a1 < (l0.length : Int) then (if 0 ≤ (wrap64 (a1 + 1)) then (if (wrap64 (a1 + 1)) < (l0.length : Int) then (some (Go.bits .or .i64 (wrap64 ((wrap64 (rd l0 a1)) * 256)) (wrap64 (rd l0 (wrap64 (a1 + 1)))))) else (none)) else (none)) else (none)) else (none)) = some r := h
  clear h
  by_cases c3 : 0 ≤ a1
  · rw [if_pos c3] at H
    have c3b0 : decide (0 ≤ a1) = true := decide_eq_true c3
    clear c3
    by_cases c4 : a1 < (l0.length : Int)
    · rw [if_pos c4] at H
      have c4b0 : decide (a1 < (l0.length : Int)) = true := decide_eq_true c4
      clear c4
      obtain ⟨ji5, hji5⟩ : ∃ j_ : Int, (wrap64 (a1 + 1)) = j_ := ⟨_, rfl⟩
      replace H : (if 0 ≤ (ji5) then (if (ji5) < (l0.length : Int) then (some (Go.bits .or .i64 (wrap64 ((wrap64 (rd l0 a1)) * 256)) (wrap64 (rd l0 (ji5))))) else (none)) else (none)) = some r := by first | (rw [hji5] at H; exact H) | (simp only [hji5] at H ⊢; exact H)
      have hji5w : (IntKind.i64.wrap (a1 + 1)) = ji5 := (i64_w _).trans hji5
      by_cases c6 : 0 ≤ (ji5)
      · rw [if_pos c6] at H
        have c6b0 : decide (0 ≤ (ji5)) = true := decide_eq_true c6
        clear c6
        by_cases c7 : (ji5) < (l0.length : Int)
        · rw [if_pos c7] at H
          have c7b0 : decide ((ji5) < (l0.length : Int)) = true := decide_eq_true c7
          clear c7
          obtain rfl := Option.some.inj H
          have p380 : 0 ≤ (a1 : Int) := of_decide_eq_true (by first | (with_reducible assumption) | assumption)
          have q380 : a1 < (l0.length : Int) := of_decide_eq_true (by first | (with_reducible assumption) | assumption)
          obtain ⟨ad380, e380, hx380_0⟩ := Kd.at_int HR0.out a1 p380 q380
          cases e380
          replace p380 := eq_true p380
          replace q380 := eq_true q380
          have p381 : 0 ≤ ((ji5) : Int) := of_decide_eq_true (by first | (with_reducible assumption) | assumption)
          have q381 : (ji5) < (l0.length : Int) := of_decide_eq_true (by first | (with_reducible assumption) | assumption)
          obtain ⟨ad381, e381, hx381_0⟩ := Kd.at_int HR0.out (ji5) p381 q381
          obtain rfl : ad380 = ad381 := (by injection e381)
          replace p381 := eq_true p381
          replace q381 := eq_true q381
          go_enter Try.func53, Try.ntmps53
          go_wp2
          repeat (go_quiet (fail); try go_wp2)
          go_ret
          exact ⟨by first | rfl | (simp; done) | (simp only [← hji5] <;> (first | rfl | simp)) | (simp [*]; done), by repeat (first | exact Drawn0.refl _ | apply Drawn0.step)⟩
        · rw [if_neg c7] at H
          exact absurd H (by simp)
      · rw [if_neg c6] at H
        exact absurd H (by simp)
    · rw [if_neg c4] at H
      exact absurd H (by simp)
  · rw [if_neg c3] at H
    exact absurd H (by simp)

/-! ### bailiwickref3_long: function 54 -/
def bailiwickref3_long.f (l0 : List Int) (a1 : Int) : Option (Int) := if 0 ≤ a1 then (if a1 < (l0.length : Int) then (if 0 ≤ (wrap64 (a1 + 1)) then (if (wrap64 (a1 + 1)) < (l0.length : Int) then (if 0 ≤ (wrap64 (a1 + 2)) then (if (wrap64 (a1 + 2)) < (l0.length : Int) then (if 0 ≤ (wrap64 (a1 + 3)) then (if (wrap64 (a1 + 3)) < (l0.length : Int) then (some (Go.bits .or .u32 (Go.bits .or .u32 (Go.bits .or .u32 ((((rd l0 a1) % 4294967296) * 16777216) % 4294967296) ((((rd l0 (wrap64 (a1 + 1))) % 4294967296) * 65536) % 4294967296)) ((((rd l0 (wrap64 (a1 + 2))) % 4294967296) * 256) % 4294967296)) ((rd l0 (wrap64 (a1 + 3))) % 4294967296))) else (none)) else (none)) else (none)) else (none)) else (none)) else (none)) else (none)) else (none)
set_option maxHeartbeats 8000000 in
set_option maxRecDepth 100000 in
theorem bailiwickref3_long.calls (A0 : Option Addr) (c0 : Nat) (l0 : List Int) (a1 : Int) (r : Int) (w : World) (hr0 : Kd.C (Kd.int .u8) w A0 l0.length l0) (hc0 : l0.length ≤ c0) (h : bailiwickref3_long.f l0 a1 = some r) :
    Calls Try.prog 54 #[.slice A0 l0.length c0, .int .i64 a1] w fun e w' => e = .returned (.int .u32 r) ∧ Drawn0 w w' := by
  have HR0 := Aside0.mk hr0
  have HC0 := Aside0.mk hc0
  clear hr0 hc0
  have H : (if 0 ≤ a1 then (if a1 < (l0.length : Int) then (if 0 ≤ (wrap64 (a1 + 1)) then (if (wrap64 (a1 + 1)) < (l0.length : Int) then (if 0 ≤ (wrap64 (a1 + 2)) then (if (wrap64 (a1 + 2)) < (l0.length : Int) then (if 0 ≤ (wrap64 (a1 + 3)) then (if (wrap64 (a1 + 3)) < (l0.length : Int) then (some (Go.bits .or .u32 (Go.bits .or .u32 (Go.bits .or .u32 ((((rd l0 a1) % 4294967296) * 16777216) % 4294967296) ((((rd l0 (wrap64 (a1 + 1))) % 4294967296) * 65536) % 4294967296)) ((((rd l0 (wrap64 (a1 + 2))) % 4294967296) * 256) % 4294967296)) ((rd l0 (wrap64 (a1 + 3))) % 4294967296))) else (none)) else (none)) else (none)) else (none)) else (none)) else (none)) else (none)) else (none)) = some r := h
  clear h
  by_cases c3 : 0 ≤ a1
  · rw [if_pos c3] at H
    have c3b0 : decide (0 ≤ a1) = true := decide_eq_true c3
    clear c3
    by_cases c4 : a1 < (l0.length : Int)
    · rw [if_pos c4] at H
      have c4b0 : decide (a1 < (l0.length : Int)) = true := decide_eq_true c4
      clear c4
      obtain ⟨ji5, hji5⟩ : ∃ j_ : Int, (wrap64 (a1 + 1)) = j_ := ⟨_, rfl⟩
      replace H : (if 0 ≤ (ji5) then (if (ji5) < (l0.length : Int) then (if 0 ≤ (wrap64 (a1 + 2)) then (if (wrap64 (a1 + 2)) < (l0.length : Int) then (if 0 ≤ (wrap64 (a1 + 3)) then (if (wrap64 (a1 + 3)) < (l0.length : Int) then (some (Go.bits .or .u32 (Go.bits .or .u32 (Go.bits .or .u32 ((((rd l0 a1) % 4294967296) * 16777216) % 4294967296) ((((rd l0 (ji5)) % 4294967296) * 65536) % 4294967296)) ((((rd l0 (wrap64 (a1 + 2))) % 4294967296) * 256) % 4294967296)) ((rd l0 (wrap64 (a1 + 3))) % 4294967296))) else (none)) else (none)) else (none)) else (none)) else (none)) else (none)) = some r := by first | (rw [hji5] at H; exact H) | (simp only [hji5] at H ⊢; exact H)
      have hji5w : (IntKind.i64.wrap (a1 + 1)) = ji5 := (i64_w _).trans hji5
      by_cases c6 : 0 ≤ (ji5)
      · rw [if_pos c6] at H
        have c6b0 : decide (0 ≤ (ji5)) = true := decide_eq_true c6
        clear c6
        by_cases c7 : (ji5) < (l0.length : Int)
        · rw [if_pos c7] at H
          have c7b0 : decide ((ji5) < (l0.length : Int)) = true := decide_eq_true c7
          clear c7
          obtain ⟨ji8, hji8⟩ : ∃ j_ : Int, (wrap64 (a1 + 2)) = j_ := ⟨_, rfl⟩
          replace H : (if 0 ≤ (ji8) then (if (ji8) < (l0.length : Int) then (if 0 ≤ (wrap64 (a1 + 3)) then (if (wrap64 (a1 + 3)) < (l0.length : Int) then (some (Go.bits .or .u32 (Go.bits .or .u32 (Go.bits .or .u32 ((((rd l0 a1) % 4294967296) * 16777216) % 4294967296) ((((rd l0 (ji5)) % 4294967296) * 65536) % 4294967296)) ((((rd l0 (ji8)) % 4294967296) * 256) % 4294967296)) ((rd l0 (wrap64 (a1 + 3))) % 4294967296))) else (none)) else (none)) else (none)) else (none)) = some r := by first | (rw [hji8] at H; exact H) | (simp only [hji8] at H ⊢; exact H)
          have hji8w : (IntKind.i64.wrap (a1 + 2)) = ji8 := (i64_w _).trans hji8
          by_cases c9 : 0 ≤ (ji8)
          · rw [if_pos c9] at H
            have c9b0 : decide (0 ≤ (ji8)) = true := decide_eq_true c9
            clear c9
            by_cases c10 : (ji8) < (l0.length : Int)
            · rw [if_pos c10] at H
              have c10b0 : decide ((ji8) < (l0.length : Int)) = true := decide_eq_true c10
              clear c10
              obtain ⟨ji11, hji11⟩ : ∃ j_ : Int, (wrap64 (a1 + 3)) = j_ := ⟨_, rfl⟩
              replace H : (if 0 ≤ (ji11) then (if (ji11) < (l0.length : Int) then (some (Go.bits .or .u32 (Go.bits .or .u32 (Go.bits .or .u32 ((((rd l0 a1) % 4294967296) * 16777216) % 4294967296) ((((rd l0 (ji5)) % 4294967296) * 65536) % 4294967296)) ((((rd l0 (ji8)) % 4294967296) * 256) % 4294967296)) ((rd l0 (ji11)) % 4294967296))) else (none)) else (none)) = some r := by first | (rw [hji11] at H; exact H) | (simp only [hji11] at H ⊢; exact H)
              have hji11w : (IntKind.i64.wrap (a1 + 3)) = ji11 := (i64_w _).trans hji11
              by_cases c12 : 0 ≤ (ji11)
              · rw [if_pos c12] at H
                have c12b0 : decide (0 ≤ (ji11)) = true := decide_eq_true c12
                clear c12
                by_cases c13 : (ji11) < (l0.length : Int)
                · rw [if_pos c13] at H
                  have c13b0 : decide ((ji11) < (l0.length : Int)) = true := decide_eq_true c13
                  clear c13
                  obtain rfl := Option.some.inj H
                  have p382 : 0 ≤ (a1 : Int) := of_decide_eq_true (by first | (with_reducible assumption) | assumption)
                  have q382 : a1 < (l0.length : Int) := of_decide_eq_true (by first | (with_reducible assumption) | assumption)
                  obtain ⟨ad382, e382, hx382_0⟩ := Kd.at_int HR0.out a1 p382 q382
                  cases e382
                  replace p382 := eq_true p382
                  replace q382 := eq_true q382
                  have p383 : 0 ≤ ((ji5) : Int) := of_decide_eq_true (by first | (with_reducible assumption) | assumption)
                  have q383 : (ji5) < (l0.length : Int) := of_decide_eq_true (by first | (with_reducible assumption) | assumption)
                  obtain ⟨ad383, e383, hx383_0⟩ := Kd.at_int HR0.out (ji5) p383 q383
                  obtain rfl : ad382 = ad383 := (by injection e383)
                  replace p383 := eq_true p383
                  replace q383 := eq_true q383
                  have p384 : 0 ≤ ((ji8) : Int) := of_decide_eq_true (by first | (with_reducible assumption) | assumption)
                  have q384 : (ji8) < (l0.length : Int) := of_decide_eq_true (by first | (with_reducible assumption) | assumption)
                  obtain ⟨ad384, e384, hx384_0⟩ := Kd.at_int HR0.out (ji8) p384 q384
                  obtain rfl : ad382 = ad384 := (by injection e384)
                  replace p384 := eq_true p384
                  replace q384 := eq_true q384
                  have p385 : 0 ≤ ((ji11) : Int) := of_decide_eq_true (by first | (with_reducible assumption) | assumption)
                  have q385 : (ji11) < (l0.length : Int) := of_decide_eq_true (by first | (with_reducible assumption) | assumption)
                  obtain ⟨ad385, e385, hx385_0⟩ := Kd.at_int HR0.out (ji11) p385 q385
                  obtain rfl : ad382 = ad385 := (by injection e385)
                  replace p385 := eq_true p385
                  replace q385 := eq_true q385
                  go_enter Try.func54, Try.ntmps54
                  go_wp2
                  repeat (go_quiet (fail); try go_wp2)
                  go_ret
                  exact ⟨by first | rfl | (simp; done) | (simp only [← hji5, ← hji8, ← hji11] <;> (first | rfl | simp)) | (simp [*]; done), by repeat (first | exact Drawn0.refl _ | apply Drawn0.step)⟩
                · rw [if_neg c13] at H
                  exact absurd H (by simp)
              · rw [if_neg c12] at H
                exact absurd H (by simp)
            · rw [if_neg c10] at H
              exact absurd H (by simp)
          · rw [if_neg c9] at H
            exact absurd H (by simp)
        · rw [if_neg c7] at H
          exact absurd H (by simp)
      · rw [if_neg c6] at H
        exact absurd H (by simp)
    · rw [if_neg c4] at H
      exact absurd H (by simp)
  · rw [if_neg c3] at H
    exact absurd H (by simp)

end Go.Proofs.Ythnhpbplglmmmaa.P
