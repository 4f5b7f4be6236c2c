-- Laid by a program (wip/tools/myprint.py) out of the translation. Not trusted: Lean checks it.
import Derived.Test.YtdppnkgblklmmaaP0
import Derived.Test.YtdppnkgblklmmaaPbailiwickref1
namespace Go.Proofs.Ytdppnkgblklmmaa.P
open Go.RowKit Go.Proofs.YtdppnkgblklmmaaW.PrintWords Go.Proofs.YtdppnkgblklmmaaW.PrintLast Go.Proofs.YtdppnkgblklmmaaW.PrintMore
attribute [local go_sem] max2_int min2_int max_two min_two max_three min_three max_four min_four   -- for this text's walks alone
set_option linter.unusedVariables false
set_option linter.unusedSimpArgs false

/-! ### bailiwickref3_Pseudo: function 42 -/
def bailiwickref3_Pseudo.f (k : Nat) (a0 : Int) (a1 : Int) (a2 : Int) (a3 : Int) : Option (List Int) := (bailiwickref1_Lay.f k ([] : List Int) 4 (IntKind.u64.wrap (a0))).bind fun t343 => ((bailiwickref1_Lay.f k t343 4 (IntKind.u64.wrap (a1))).bind fun t346 => ((some (([0, (a2) % 256] : List Int) : List Int)).bind fun y349 => (if t346.length + y349.length < 140737488355328 then ((bailiwickref1_Lay.f k (t346 ++ y349) 2 (IntKind.u64.wrap (a3))).bind fun t355 => (some t355)) else (none))))
theorem bailiwickref3_Pseudo.mono : ∀ a0 a1 a2 a3 k, LeO (bailiwickref3_Pseudo.f k a0 a1 a2 a3) (bailiwickref3_Pseudo.f (k + 1) a0 a1 a2 a3) := by
  intro a0 a1 a2 a3 k
  unfold bailiwickref3_Pseudo.f
  repeat' first
      | (with_reducible exact bailiwickref1_Lay.mono _ _ _ _)
      | (with_reducible exact LeO.refl _)
      | (with_reducible exact LeO.none _)
      | (with_reducible refine LeO.ite ?_ ?_)
      | (with_reducible refine LeO.bind ?_ (fun _ => ?_))
      | exact bailiwickref1_Lay.mono _ _ _ _
      | exact LeO.none _
      | refine LeO.ite ?_ ?_
      | refine LeO.bind ?_ (fun _ => ?_)
set_option maxHeartbeats 8000000 in
set_option maxRecDepth 100000 in
theorem bailiwickref3_Pseudo.calls (k : Nat) (a0 : Int) (a1 : Int) (a2 : Int) (a3 : Int) (r : List Int) (w : World) (h : bailiwickref3_Pseudo.f k a0 a1 a2 a3 = some r) :
    Calls Try.prog 42 #[.int .u32 a0, .int .u32 a1, .int .i64 a2, .int .i64 a3] w fun e w' => ∃ v0_ : Value, e = .returned (v0_) ∧ Kd.R (Kd.int .u8) 5 w' w.heap.size (fun _ => True) v0_ r ∧ Below w.heap.size w w' := by
  have HB := Aside0.mk (Below.refl w.heap.size w)
  have H : ((bailiwickref1_Lay.f k ([] : List Int) 4 (IntKind.u64.wrap (a0))).bind fun t343 => ((bailiwickref1_Lay.f k t343 4 (IntKind.u64.wrap (a1))).bind fun t346 => ((some (([0, (a2) % 256] : List Int) : List Int)).bind fun y349 => (if t346.length + y349.length < 140737488355328 then ((bailiwickref1_Lay.f k (t346 ++ y349) 2 (IntKind.u64.wrap (a3))).bind fun t355 => (some t355)) else (none))))) = some r := h
  clear h
  replace H := Option.bind_eq_some_iff.mp H
  obtain ⟨t343, A50, H⟩ := H
  replace H : ((bailiwickref1_Lay.f k t343 4 (IntKind.u64.wrap (a1))).bind fun t346 => ((some (([0, (a2) % 256] : List Int) : List Int)).bind fun y349 => (if t346.length + y349.length < 140737488355328 then ((bailiwickref1_Lay.f k (t346 ++ y349) 2 (IntKind.u64.wrap (a3))).bind fun t355 => (some t355)) else (none)))) = some r := H
  have A5 := Aside0.mk A50
  clear A50
  replace H := Option.bind_eq_some_iff.mp H
  obtain ⟨t346, A60, H⟩ := H
  replace H : ((some (([0, (a2) % 256] : List Int) : List Int)).bind fun y349 => (if t346.length + y349.length < 140737488355328 then ((bailiwickref1_Lay.f k (t346 ++ y349) 2 (IntKind.u64.wrap (a3))).bind fun t355 => (some t355)) else (none))) = some r := H
  have A6 := Aside0.mk A60
  clear A60
  obtain ⟨y349, hy349⟩ : ∃ y_ : List Int, y_ = (([0, (a2) % 256] : List Int)) := ⟨_, rfl⟩
  replace H : (if t346.length + y349.length < 140737488355328 then ((bailiwickref1_Lay.f k (t346 ++ y349) 2 (IntKind.u64.wrap (a3))).bind fun t355 => (some t355)) else (none)) = some r := by first | (rw [hy349]; with_reducible exact H) | (have H2_ := (Option.bind_some _ _).symm.trans H; rw [hy349]; with_reducible exact H2_) | (have H2_ := (Option.bind_some _ _).symm.trans H; with_reducible exact H2_) | with_reducible exact H | (rw [hy349]; exact H) | exact H
  have Ny349 := Aside0.mk hy349
  clear hy349
  by_cases c7 : t346.length + y349.length < 140737488355328
  · rw [if_pos c7] at H
    have LMc7 := Aside0.mk c7
    clear c7
    obtain ⟨y352, hy352⟩ : ∃ y_ : List Int, y_ = (t346 ++ y349) := ⟨_, rfl⟩
    replace H : ((bailiwickref1_Lay.f k y352 2 (IntKind.u64.wrap (a3))).bind fun t355 => (some t355)) = some r := by first | (rw [hy352]; with_reducible exact H) | (have H2_ := (Option.bind_some _ _).symm.trans H; rw [hy352]; with_reducible exact H2_) | (have H2_ := (Option.bind_some _ _).symm.trans H; with_reducible exact H2_) | with_reducible exact H | (rw [hy352]; exact H) | exact H
    have Ny352 := Aside0.mk hy352
    clear hy352
    replace H := Option.bind_eq_some_iff.mp H
    obtain ⟨t355, A80, H⟩ := H
    replace H : (some t355) = some r := H
    have A8 := Aside0.mk A80
    clear A80
    obtain rfl := Option.some.inj H
    go_enter Try.func42, Try.ntmps42
    go_wp2_with (first | ((with_reducible refine gate_callee (f := 63) rfl ?_); refine goesL_ (some 13) rfl rfl Try.func63 (by kernel_rfl) rfl #[.slice none 0 0, .int .i64 4, .int .u64 (IntKind.u64.wrap (a0))] rfl (by (try simp only [List.map_toArray, List.map_cons, List.map_nil]); first | done | rfl | (simp only [List.length_drop, List.length_take]; rfl)) ?_; (refine (bailiwickref1_Lay.calls k (fun k_ => some k_ = (.slice none 0 0 : Value).ownBlock) (.slice none 0 0) ([] : List Int) 4 (IntKind.u64.wrap (a0)) t343 w _ ?side1 ?side2 A5.out).mono ?_); (case side1 => repeat (first | (with_reducible first | exact HB.out | apply below_alloc | apply pw_below_drewN | apply below_drew1) | exact HB.out)); (case side2 => exact Kd.R_nil _ _ _ _ _); rintro e w9 ⟨v344, rfl, ho0, hb, hkp⟩; refine ⟨_, rfl, ?_⟩; have n0_ := Aside0.mk (Kd.R_mono (ok' := fun k_ => True) ho0 (fun k_ hk_ => trivial)); have n1_ := Aside0.mk (hb); clear HB; have HO345 := n0_; have HB := n1_; clear n0_ n1_; (try clear hb); (try clear hkp); (try clear ho0); obtain ⟨Ao10, co10, eo10⟩ := Kd.R_slice HO345.out; subst eo10) | ((with_reducible refine gate_callee (f := 63) rfl ?_); refine goesL_ (some 17) rfl rfl Try.func63 (by kernel_rfl) rfl #[.slice Ao10 t343.length co10, .int .i64 4, .int .u64 (IntKind.u64.wrap (a1))] rfl (by (try simp only [List.map_toArray, List.map_cons, List.map_nil]); first | done | rfl | (simp only [List.length_drop, List.length_take]; rfl)) ?_; (with_reducible refine (bailiwickref1_Lay.calls k (fun k_ => some k_ = (.slice Ao10 t343.length co10 : Value).ownBlock) (.slice Ao10 t343.length co10) t343 4 (IntKind.u64.wrap (a1)) t346 w _ ?side1 ?side2 A6.out).mono ?_); (case side1 => repeat (first | (with_reducible first | exact HB.out | apply below_alloc | apply pw_below_drewN | apply below_drew1) | exact HB.out)); (case side2 => exact Kd.R_tight rfl HO345.out); rintro e w11 ⟨v347, rfl, ho0, hb, hkp⟩; refine ⟨_, rfl, ?_⟩; have n0_ := Aside0.mk (Kd.R_mono (ok' := fun k_ => True) ho0 (fun k_ hk_ => trivial)); have n1_ := Aside0.mk (hb); clear HB; clear HO345; have HO348 := n0_; have HB := n1_; clear n0_ n1_; (try clear hb); (try clear hkp); (try clear ho0)) | ((with_reducible refine gate_dst (N := 21) rfl ?_); refine Kd.R_lit (Kd.int .u8) _ 5 ?hg (N := 21) ?hd (xs := ([0, (a2) % 256] : List Int)) (inner := [.int .u8 0, .int .u8 ((a2) % 256)]) (ok := fun _ => True) (okp := fun _ => True) ?hr ?hp (fun _ hk => hk) trivial (Below.refl _ _) (Nat.le_refl _) (by simp) ?_; (case hd => rfl); (case hg => rfl); (case hr => first | (go_simp; done) | (go_simp; rfl)); (case hp => exact (Reps.one (show Kd.M (Kd.int .u8) _ _ _ 0 [.int .u8 0] from rfl) (Reps.one (show Kd.M (Kd.int .u8) _ _ _ ((a2) % 256) [.int .u8 ((a2) % 256)] from rfl) (Reps.none _ _)))); intro v350 w12 ho13 hb hg_ hnew_; clear hg_ hnew_; (first | rw [← Ny349.out] at ho13 | (simp only [Int.reduceToNat] at ho13; rw [← Ny349.out] at ho13)); have n0_ := Aside0.mk (Kd.R_elder' (by (with_reducible repeat (first | apply Kd.R_alloc | apply Kd.R_drewN | apply Kd.R_drew)); exact HO348.out) (Kd.R_base ho13) hb); have n1_ := Aside0.mk (Kd.R_lower (Kd.R_new' ho13 (Kd.R_lt (by (with_reducible repeat (first | apply Kd.R_alloc | apply Kd.R_drewN | apply Kd.R_drew)); exact HO348.out))) (below_size (by repeat (first | (with_reducible first | exact HB.out | apply below_alloc | apply pw_below_drewN | apply below_drew1) | exact HB.out)))); have n2_ := Aside0.mk (below_step (by repeat (first | (with_reducible first | exact HB.out | apply below_alloc | apply pw_below_drewN | apply below_drew1) | exact HB.out)) hb); clear HO348; clear HB; have HO348 := n0_; have HO351 := n1_; have HB := n2_; clear n0_ n1_ n2_; clear hb ho13; obtain ⟨Ao15, co15, eo15⟩ := Kd.R_slice HO351.out; subst eo15) | ((with_reducible refine gate_builtin (b := .append) (xs := #[.tmp 18, .tmp 21]) rfl ?_); at_builtin; refine Kd.R_append_rows (Kd.int .u8) (w0 := w) w.heap.size rfl (.tmp 18) (.tmp 21) 22 5 (.int .u8 0) 1 rfl Try.underlying22 info5 rfl (by decide) (by omega) v347 t346 y349 _ _ _ (fun k_ => some k_ ≠ (.slice Ao15 y349.length co15 : Value).ownBlock) (fun _ => False) rfl rfl ?aO ?aR (fun _ _ h => h) (fun _ h => h.elim) ?aF ?aB ?aS ?aL ?_; (case aR => repeat (first | exact (Kd.R_reads' HO351.out).2.2 | (with_reducible refine Kd.C_alloc ?_ _) | (with_reducible refine Kd.C_drewN ?_ _) | (with_reducible refine Kd.C_drew ?_))); (case aB => exact (by repeat (first | (with_reducible first | exact HB.out | apply below_alloc | apply pw_below_drewN | apply below_drew1) | exact HB.out))); (case aF => exact (fun k_ hk => Kd.fresh' (Kd.R_lt (by (with_reducible repeat (first | apply Kd.R_alloc | apply Kd.R_drewN | apply Kd.R_drew)); exact HO351.out)) k_ hk)); (case aO => exact (by (with_reducible repeat (first | apply Kd.R_alloc | apply Kd.R_drewN | apply Kd.R_drew)); exact Kd.R_mono HO348.out (fun _ hk => hk.2))); (case aS => exact (below_size (by repeat (first | (with_reducible first | exact HB.out | apply below_alloc | apply pw_below_drewN | apply below_drew1) | exact HB.out)))); (case aL => have := LMc7.out; omega); intro v353 w14 ho hb hg hat; rw [← Ny352.out] at ho; have n0_ := Aside0.mk (Kd.R_after (ok := (fun _ => True)) (by (with_reducible repeat (first | apply Kd.R_alloc | apply Kd.R_drewN | apply Kd.R_drew)); exact HO351.out) hg hat); have n1_ := Aside0.mk (hb); have n2_ := Aside0.mk (ho); clear HO351; clear HB; clear HO348; have HO351 := n0_; have HB := n1_; have HO354 := n2_; clear n0_ n1_ n2_; clear ho hb hg hat; obtain ⟨Ao16, co16, eo16⟩ := Kd.R_slice HO354.out; subst eo16) | ((with_reducible refine gate_callee (f := 63) rfl ?_); refine goesL_ (some 26) rfl rfl Try.func63 (by kernel_rfl) rfl #[.slice Ao16 y352.length co16, .int .i64 2, .int .u64 (IntKind.u64.wrap (a3))] rfl (by (try simp only [List.map_toArray, List.map_cons, List.map_nil]); first | done | rfl | (simp only [List.length_drop, List.length_take]; rfl)) ?_; (with_reducible refine (bailiwickref1_Lay.calls k (fun k_ => some k_ = (.slice Ao16 y352.length co16 : Value).ownBlock) (.slice Ao16 y352.length co16) y352 2 (IntKind.u64.wrap (a3)) t355 w _ ?side1 ?side2 A8.out).mono ?_); (case side1 => repeat (first | (with_reducible first | exact HB.out | apply below_alloc | apply pw_below_drewN | apply below_drew1) | exact HB.out)); (case side2 => exact Kd.R_tight rfl HO354.out); rintro e w17 ⟨v356, rfl, ho0, hb, hkp⟩; refine ⟨_, rfl, ?_⟩; have n0_ := Aside0.mk (Kd.R_mono (ok' := fun k_ => some k_ ≠ (v356 : Value).ownBlock) (Kd.R_keptB (HO351.out) hkp (fun k_ hk_ hs_ => (hk_.2) hs_)) (fun k_ hk_ => fun e_ => Or.elim (ho0.1 k_ e_.symm) (fun hs_ => hk_.2.1 hs_) (fun hn_ => Nat.not_le.2 hk_.2.2 hn_))); have n1_ := Aside0.mk (Kd.R_mono (ok' := fun k_ => some k_ ≠ (.slice Ao15 y349.length co15 : Value).ownBlock) ho0 (fun k_ hk_ => Or.elim hk_ (fun hs_ => fun e_ => (((HO351.out).1 k_ e_.symm).2) hs_) (fun hn_ => (Kd.fresh' (Kd.R_lt (by (with_reducible repeat (first | apply Kd.R_alloc | apply Kd.R_drewN | apply Kd.R_drew)); exact HO351.out)) k_ hn_)))); have n2_ := Aside0.mk (hb); clear HO351; clear HB; clear HO354; have HO351 := n0_; have HO357 := n1_; have HB := n2_; clear n0_ n1_ n2_; (try clear hb); (try clear hkp); (try clear ho0)))
    go_ret
    exact ⟨_, by first | rfl | (simp [errW_none, errW_some] <;> rfl) | (simp [*, errW_none, errW_some] <;> rfl), by (with_reducible repeat (first | apply Kd.R_alloc | apply Kd.R_drewN | apply Kd.R_drew)); exact Kd.R_mono HO357.out (fun _ hk => trivial), by repeat (first | (with_reducible first | exact HB.out | apply below_alloc | apply pw_below_drewN | apply below_drew1) | exact HB.out)⟩
  · rw [if_neg c7] at H
    exact absurd H (by simp)

/-! ### bailiwickref3_in: function 62 -/
def bailiwickref3_in.f (a0 : Int) (a1 : Int) : Option (Bool) := if a0 ≥ 0 then (some (decide (a0 ≤ a1))) else (some false)
set_option maxHeartbeats 8000000 in
set_option maxRecDepth 100000 in
theorem bailiwickref3_in.calls (a0 : Int) (a1 : Int) (r : Bool) (w : World) (h : bailiwickref3_in.f a0 a1 = some r) :
    Calls Try.prog 62 #[.int .i64 a0, .int .i64 a1] w fun e w' => e = .returned (.bool r) ∧ Drawn0 w w' := by
  have H : (if a0 ≥ 0 then (some (decide (a0 ≤ a1))) else (some false)) = some r := h
  clear h
  by_cases c3 : a0 ≥ 0
  · rw [if_pos c3] at H
    have c3b0 : decide (0 ≤ a0) = true := decide_eq_true c3
    clear c3
    obtain rfl := Option.some.inj H
    go_enter Try.func62, Try.ntmps62
    go_wp2
    go_ret
    exact ⟨by first | rfl | (simp; done) | (simp [*]; done), by repeat (first | exact Drawn0.refl _ | apply Drawn0.step)⟩
  · rw [if_neg c3] at H
    have c3b0 : decide (0 ≤ a0) = false := decide_eq_false c3
    clear c3
    obtain rfl := Option.some.inj H
    go_enter Try.func62, Try.ntmps62
    go_wp2
    go_ret
    exact ⟨by first | rfl | (simp; done) | (simp [*]; done), by repeat (first | exact Drawn0.refl _ | apply Drawn0.step)⟩

/-! ### bailiwickref3_BuildDatagram: function 40 -/
mutual
def bailiwickref3_BuildDatagram.j0 : Nat → Int → Int → Bool → Int → Int → Bool → List Int → Option (List Int × Int)
  | 0, _, _, _, _, _, _, _ => none
  | k + 1, x0, x1, x21, x359000, x359001, x359002, x359003 => if x21 = true then (some (([] : List Int), 1)) else (if (x359003.length : Int) > 2020 then (some (([] : List Int), 3)) else ((bailiwickref1_Lay.f k ([] : List Int) 2 (IntKind.u64.wrap (x359000))).bind fun t361 => ((bailiwickref1_Lay.f k t361 2 (IntKind.u64.wrap (x359001))).bind fun t364 => ((bailiwickref1_Lay.f k t364 2 (IntKind.u64.wrap (wrap64 (8 + (x359003.length : Int))))).bind fun t367 => ((some (([0, 0] : List Int) : List Int)).bind fun y370 => (if t367.length + y370.length < 140737488355328 then (bailiwickref3_BuildDatagram.l0 k x0 x1 (wrap64 (8 + (x359003.length : Int))) (t367 ++ y370) 0 x359000 x359001 x359002 x359003) else (none)))))))
def bailiwickref3_BuildDatagram.l0 : Nat → Int → Int → Int → List Int → Int → Int → Int → Bool → List Int → Option (List Int × Int)
  | 0, _, _, _, _, _, _, _, _, _ => none
  | k + 1, x0, x1, x8, x9, x10, x359000, x359001, x359002, x359003 => if x10 < (x359003.length : Int) then (if 0 ≤ x10 then (if x9.length < 140737488355328 then (bailiwickref3_BuildDatagram.l0 k x0 x1 x8 (x9 ++ [rd x359003 x10]) (wrap64 (x10 + 1)) x359000 x359001 x359002 x359003) else (none)) else (none)) else (if x359002 = true then (some (x9, 0)) else ((bailiwickref3_Pseudo.f k x0 x1 17 x8).bind fun t380 => ((bailiwickref1_Sum.f k (([t380, x9] : List (List Int)))).bind fun t387 => (if (wrap64 (65535 - t387)) = 0 then (if 6 < (x9.length : Int) then (if 7 < (x9.length : Int) then (some (((x9.set (6 : Int).toNat (255)).set (7 : Int).toNat (255)), 0)) else (none)) else (none)) else (if 6 < (x9.length : Int) then (if 7 < (x9.length : Int) then (some (((x9.set (6 : Int).toNat (((wrap64 (65535 - t387)) / 256) % 256)).set (7 : Int).toNat ((wrap64 (65535 - t387)) % 256)), 0)) else (none)) else (none))))))
end
def bailiwickref3_BuildDatagram.f (k : Nat) (a0 : Int) (a1 : Int) (a2_0 : Int) (a2_1 : Int) (a2_2 : Bool) (l2_3 : List Int) : Option (List Int × Int) := (bailiwickref3_in.f a2_0 65535).bind fun t359 => (if t359 = true then ((bailiwickref3_in.f a2_1 65535).bind fun t360 => (bailiwickref3_BuildDatagram.j0 k a0 a1 (!t360) a2_0 a2_1 a2_2 l2_3)) else (bailiwickref3_BuildDatagram.j0 k a0 a1 true a2_0 a2_1 a2_2 l2_3))
theorem bailiwickref3_BuildDatagram.mono_l : ∀ k, (∀ y0 y1 y2 y3 y4 y5 y6, LeO (bailiwickref3_BuildDatagram.j0 k y0 y1 y2 y3 y4 y5 y6) (bailiwickref3_BuildDatagram.j0 (k + 1) y0 y1 y2 y3 y4 y5 y6)) ∧ (∀ y0 y1 y2 y3 y4 y5 y6 y7 y8, LeO (bailiwickref3_BuildDatagram.l0 k y0 y1 y2 y3 y4 y5 y6 y7 y8) (bailiwickref3_BuildDatagram.l0 (k + 1) y0 y1 y2 y3 y4 y5 y6 y7 y8))
  | 0 => ⟨fun _ _ _ _ _ _ _ r h => by simp [bailiwickref3_BuildDatagram.j0] at h, fun _ _ _ _ _ _ _ _ _ r h => by simp [bailiwickref3_BuildDatagram.l0] at h⟩
  | k + 1 => by
    obtain ⟨ih0, ih1⟩ := bailiwickref3_BuildDatagram.mono_l k
    refine ⟨?_, ?_⟩
    · intro y0 y1 y2 y3 y4 y5 y6
      unfold bailiwickref3_BuildDatagram.j0
      repeat' first
      | (with_reducible exact ih0 _ _ _ _ _ _ _)
      | (with_reducible exact ih1 _ _ _ _ _ _ _ _ _)
      | (with_reducible exact bailiwickref1_Lay.mono _ _ _ _)
      | (with_reducible exact bailiwickref1_Sum.mono _ _)
      | (with_reducible exact bailiwickref3_Pseudo.mono _ _ _ _ _)
      | (with_reducible exact LeO.refl _)
      | (with_reducible exact LeO.none _)
      | (with_reducible refine LeO.ite ?_ ?_)
      | (with_reducible refine LeO.bind ?_ (fun _ => ?_))
      | exact ih0 _ _ _ _ _ _ _
      | exact ih1 _ _ _ _ _ _ _ _ _
      | exact bailiwickref1_Lay.mono _ _ _ _
      | exact bailiwickref1_Sum.mono _ _
      | exact bailiwickref3_Pseudo.mono _ _ _ _ _
      | exact LeO.none _
      | refine LeO.ite ?_ ?_
      | refine LeO.bind ?_ (fun _ => ?_)
    · intro y0 y1 y2 y3 y4 y5 y6 y7 y8
      unfold bailiwickref3_BuildDatagram.l0
      repeat' first
      | (with_reducible exact ih0 _ _ _ _ _ _ _)
      | (with_reducible exact ih1 _ _ _ _ _ _ _ _ _)
      | (with_reducible exact bailiwickref1_Lay.mono _ _ _ _)
      | (with_reducible exact bailiwickref1_Sum.mono _ _)
      | (with_reducible exact bailiwickref3_Pseudo.mono _ _ _ _ _)
      | (with_reducible exact LeO.refl _)
      | (with_reducible exact LeO.none _)
      | (with_reducible refine LeO.ite ?_ ?_)
      | (with_reducible refine LeO.bind ?_ (fun _ => ?_))
      | exact ih0 _ _ _ _ _ _ _
      | exact ih1 _ _ _ _ _ _ _ _ _
      | exact bailiwickref1_Lay.mono _ _ _ _
      | exact bailiwickref1_Sum.mono _ _
      | exact bailiwickref3_Pseudo.mono _ _ _ _ _
      | exact LeO.none _
      | refine LeO.ite ?_ ?_
      | refine LeO.bind ?_ (fun _ => ?_)
theorem bailiwickref3_BuildDatagram.mono : ∀ a0 a1 a2 a3 a4 a5 k, LeO (bailiwickref3_BuildDatagram.f k a0 a1 a2 a3 a4 a5) (bailiwickref3_BuildDatagram.f (k + 1) a0 a1 a2 a3 a4 a5) := by
  intro a0 a1 a2 a3 a4 a5 k
  obtain ⟨ih0, ih1⟩ := bailiwickref3_BuildDatagram.mono_l k
  unfold bailiwickref3_BuildDatagram.f
  repeat' first
      | (with_reducible exact ih0 _ _ _ _ _ _ _)
      | (with_reducible exact ih1 _ _ _ _ _ _ _ _ _)
      | (with_reducible exact bailiwickref1_Lay.mono _ _ _ _)
      | (with_reducible exact bailiwickref1_Sum.mono _ _)
      | (with_reducible exact bailiwickref3_Pseudo.mono _ _ _ _ _)
      | (with_reducible exact LeO.refl _)
      | (with_reducible exact LeO.none _)
      | (with_reducible refine LeO.ite ?_ ?_)
      | (with_reducible refine LeO.bind ?_ (fun _ => ?_))
      | exact ih0 _ _ _ _ _ _ _
      | exact ih1 _ _ _ _ _ _ _ _ _
      | exact bailiwickref1_Lay.mono _ _ _ _
      | exact bailiwickref1_Sum.mono _ _
      | exact bailiwickref3_Pseudo.mono _ _ _ _ _
      | exact LeO.none _
      | refine LeO.ite ?_ ?_
      | refine LeO.bind ?_ (fun _ => ?_)
set_option maxHeartbeats 8000000 in
set_option maxRecDepth 100000 in
theorem bailiwickref3_BuildDatagram.calls (k : Nat) (a0 : Int) (a1 : Int) (a2_0 : Int) (a2_1 : Int) (a2_2 : Bool) (A2_3 : Option Addr) (c2_3 : Nat) (l2_3 : List Int) (r1 : List Int) (r2 : Int) (w : World) (hr2_3 : Kd.C (Kd.int .u8) w A2_3 l2_3.length l2_3) (hc2_3 : l2_3.length ≤ c2_3) (h : bailiwickref3_BuildDatagram.f k a0 a1 a2_0 a2_1 a2_2 l2_3 = some (r1, r2)) :
    Calls Try.prog 40 #[.int .u32 a0, .int .u32 a1, .agg #[.int .i64 a2_0, .int .i64 a2_1, .bool a2_2, .slice A2_3 l2_3.length c2_3]] w fun e w' => ∃ v0_ : Value, e = .returned (.tuple #[v0_, .int .i64 r2]) ∧ Kd.R (Kd.int .u8) 5 w' w.heap.size (fun _ => True) v0_ r1 ∧ Below w.heap.size w w' := by
  have hu47 := Try.underlying47
  have HR2_3 := Aside0.mk hr2_3
  have HC2_3 := Aside0.mk hc2_3
  clear hr2_3 hc2_3
  have HB := Aside0.mk (Below.refl w.heap.size w)
  have H : ((bailiwickref3_in.f a2_0 65535).bind fun t359 => (if t359 = true then ((bailiwickref3_in.f a2_1 65535).bind fun t360 => (bailiwickref3_BuildDatagram.j0 k a0 a1 (!t360) a2_0 a2_1 a2_2 l2_3)) else (bailiwickref3_BuildDatagram.j0 k a0 a1 true a2_0 a2_1 a2_2 l2_3))) = some (r1, r2) := h
  clear h
  have HC4 := Aside0.mk H
  clear H
  go_enter Try.func40, Try.ntmps40
  go_upto_region 1 with (first | ((with_reducible refine gate_dst (N := 5) rfl ?_); refine box_event ?hg (N := 5) ?hd (cs := #[.int .i64 a2_0, .int .i64 a2_1, .bool a2_2, .slice A2_3 l2_3.length c2_3]) (t := 47) ?hr ?_; (case hd => rfl); (case hg => rfl); (case hr => first | (go_simp; done) | (go_simp; rfl)); intro gb358 hg w5 hbox hb; have n0_ := Aside0.mk (below_step (by repeat (first | (with_reducible first | exact HB.out | apply below_alloc | apply pw_below_drewN | apply below_drew1) | exact HB.out)) hb); have n1_ := Aside0.mk (hbox); have n2_ := Aside0.mk ((by rw [hg]; exact (below_size (by repeat (first | (with_reducible first | exact HB.out | apply below_alloc | apply pw_below_drewN | apply below_drew1) | exact HB.out))) : w.heap.size ≤ gb358)); have n3_ := Aside0.mk ((by rw [hg]; exact (below_size (by repeat (first | (with_reducible first | exact HB.out | apply below_alloc | apply pw_below_drewN | apply below_drew1) | exact HB.out))) : w.heap.size ≤ gb358)); clear HB; have HB := n0_; have BK358 := n1_; have GW358 := n2_; have GE358 := n3_; clear n0_ n1_ n2_ n3_; clear hb hbox hg))
  (try simp only [Act.put, List.setIfInBounds_toArray, List.set_cons_zero, List.set_cons_succ])
  go_cut [21] (fun v21 wc => ∃ (kq : Nat) (x21_3 : Bool), v21 = .bool x21_3 ∧ Aside0 (bailiwickref3_BuildDatagram.j0 kq a0 a1 x21_3 a2_0 a2_1 a2_2 l2_3 = some (r1, r2)) ∧ Aside0 (kq ≤ k) ∧ Aside0 (wc.heap[gb358]? = some (.cells #[.int .i64 a2_0, .int .i64 a2_1, .bool a2_2, (.slice A2_3 l2_3.length c2_3)] 47 (0, 0))) ∧ Aside0 (Below w.heap.size w wc))
  case first =>
    have H := HC4.out
    clear HC4
    replace H := Option.bind_eq_some_iff.mp H
    obtain ⟨t359, A60, H⟩ := H
    replace H : (if t359 = true then ((bailiwickref3_in.f a2_1 65535).bind fun t360 => (bailiwickref3_BuildDatagram.j0 k a0 a1 (!t360) a2_0 a2_1 a2_2 l2_3)) else (bailiwickref3_BuildDatagram.j0 k a0 a1 true a2_0 a2_1 a2_2 l2_3)) = some (r1, r2) := H
    have A6 := Aside0.mk A60
    clear A60
    by_cases c7 : t359 = true
    · subst c7
      have H1 : ((bailiwickref3_in.f a2_1 65535).bind fun t360 => (bailiwickref3_BuildDatagram.j0 k a0 a1 (!t360) a2_0 a2_1 a2_2 l2_3)) = some (r1, r2) := by rw [if_pos rfl] at H; exact H
      clear H
      have H := H1
      clear H1
      replace H := Option.bind_eq_some_iff.mp H
      obtain ⟨t360, A80, H⟩ := H
      replace H : (bailiwickref3_BuildDatagram.j0 k a0 a1 (!t360) a2_0 a2_1 a2_2 l2_3) = some (r1, r2) := H
      have A8 := Aside0.mk A80
      clear A80
      have H' := Aside0.mk H
      clear H
      have hcz9_0 : w5.cell? ⟨gb358, 0, none⟩ = some (.int .i64 a2_0) := (blk_cell BK358.out 0).trans rfl
      have hcz9_1 : w5.cell? ⟨gb358, 1, none⟩ = some (.int .i64 a2_1) := (blk_cell BK358.out 1).trans rfl
      have hcz9_2 : w5.cell? ⟨gb358, 2, none⟩ = some (.bool a2_2) := (blk_cell BK358.out 2).trans rfl
      have hcz9_3 : w5.cell? ⟨gb358, 3, none⟩ = some (.slice A2_3 l2_3.length c2_3) := (blk_cell BK358.out 3).trans rfl
      have hfz9_0 := blk_frozen BK358.out 0
      have hfz9_1 := blk_frozen BK358.out 1
      have hfz9_2 := blk_frozen BK358.out 2
      have hfz9_3 := blk_frozen BK358.out 3
      go_wp2_with (first | ((with_reducible refine gate_callee (f := 62) rfl ?_); refine goesL_ (some 14) rfl rfl Try.func62 (by kernel_rfl) rfl #[.int .i64 a2_0, .int .i64 65535] rfl (by (try simp only [List.map_toArray, List.map_cons, List.map_nil]); first | done | rfl | (simp only [List.length_drop, List.length_take]; rfl)) ?_; (with_reducible refine (bailiwickref3_in.calls a2_0 65535 true _ A6.out).mono ?_); rintro e w' ⟨rfl, ⟨nd, rfl⟩⟩; refine ⟨_, rfl, ?_⟩) | (go_at_call 62; (with_reducible refine (bailiwickref3_in.calls a2_1 65535 t360 _ A8.out).mono ?_); rintro e w' ⟨rfl, ⟨nd, rfl⟩⟩))
      go_meet
      case rel => exact ⟨_, (!t360), (by first | rfl | (simp; done) | (simp [*]; done)), H', ⟨by first | omega | exact Nat.le_refl _⟩, ⟨by (with_reducible repeat (first | refine blk_drewN ?_ _ | refine blk_drew ?_ | refine blk_alloc ?_ _)); exact BK358.out⟩, ⟨by repeat (first | (with_reducible first | exact HB.out | apply below_alloc | apply pw_below_drewN | apply below_drew1 | refine below_set ?_ GE358.out) | exact HB.out)⟩⟩
    · replace c7 := Bool.eq_false_iff.mpr c7
      subst c7
      have H1 : (bailiwickref3_BuildDatagram.j0 k a0 a1 true a2_0 a2_1 a2_2 l2_3) = some (r1, r2) := by rw [if_neg (show ¬ (false = true) by decide)] at H; exact H
      clear H
      have H := H1
      clear H1
      have H' := Aside0.mk H
      clear H
      have hcz10_0 : w5.cell? ⟨gb358, 0, none⟩ = some (.int .i64 a2_0) := (blk_cell BK358.out 0).trans rfl
      have hcz10_1 : w5.cell? ⟨gb358, 1, none⟩ = some (.int .i64 a2_1) := (blk_cell BK358.out 1).trans rfl
      have hcz10_2 : w5.cell? ⟨gb358, 2, none⟩ = some (.bool a2_2) := (blk_cell BK358.out 2).trans rfl
      have hcz10_3 : w5.cell? ⟨gb358, 3, none⟩ = some (.slice A2_3 l2_3.length c2_3) := (blk_cell BK358.out 3).trans rfl
      have hfz10_0 := blk_frozen BK358.out 0
      have hfz10_1 := blk_frozen BK358.out 1
      have hfz10_2 := blk_frozen BK358.out 2
      have hfz10_3 := blk_frozen BK358.out 3
      go_wp2_with (first | ((with_reducible refine gate_callee (f := 62) rfl ?_); refine goesL_ (some 14) rfl rfl Try.func62 (by kernel_rfl) rfl #[.int .i64 a2_0, .int .i64 65535] rfl (by (try simp only [List.map_toArray, List.map_cons, List.map_nil]); first | done | rfl | (simp only [List.length_drop, List.length_take]; rfl)) ?_; (with_reducible refine (bailiwickref3_in.calls a2_0 65535 false _ A6.out).mono ?_); rintro e w' ⟨rfl, ⟨nd, rfl⟩⟩; refine ⟨_, rfl, ?_⟩))
      go_meet
      case rel => exact ⟨_, (true), (by first | rfl | (simp; done) | (simp [*]; done)), H', ⟨by first | omega | exact Nat.le_refl _⟩, ⟨by (with_reducible repeat (first | refine blk_drewN ?_ _ | refine blk_drew ?_ | refine blk_alloc ?_ _)); exact BK358.out⟩, ⟨by repeat (first | (with_reducible first | exact HB.out | apply below_alloc | apply pw_below_drewN | apply below_drew1 | refine below_set ?_ GE358.out) | exact HB.out)⟩⟩
  case rest =>
    clear HC4
    try clear c2
    try clear p2
    try clear c4
    try clear c6
    try clear c7
    try clear hcz10_0
    try clear hcz10_1
    try clear hcz10_2
    try clear hcz10_3
    try clear hcz9_0
    try clear hcz9_1
    try clear hcz9_2
    try clear hcz9_3
    try clear hfz10_0
    try clear hfz10_1
    try clear hfz10_2
    try clear hfz10_3
    try clear hfz9_0
    try clear hfz9_1
    try clear hfz9_2
    try clear hfz9_3
    obtain ⟨kq, x21_3, rfl, HA, HJ3, BK358, HB⟩ := hcut
    cases kq with
    | zero => exact absurd HA.out (by simp [bailiwickref3_BuildDatagram.j0])
    | succ kj3 =>
      have H := HA.out
      clear HA
      simp only [bailiwickref3_BuildDatagram.j0] at H
      by_cases c11 : x21_3 = true
      · subst c11
        have H1 : (some (([] : List Int), 1)) = some (r1, r2) := by rw [if_pos rfl] at H; exact H
        clear H
        have H := H1
        clear H1
        simp only [Option.some.injEq, Prod.mk.injEq] at H
        obtain ⟨rfl, rfl⟩ := H
        go_wp2
        go_ret2
        exact ⟨_, by first | rfl | (simp [errW_none, errW_some] <;> rfl) | (simp [*, errW_none, errW_some] <;> rfl), by first | exact Kd.R_nil _ _ _ _ _ | exact Kd.N_nil _ _ _ _ _ | exact Kd.V_nil _ _ _ _ _ | exact Kd.Q_nil _ _ _ _ _ | exact Kd.S_nil _ _ _ _ _, by repeat (first | (with_reducible first | exact HB.out | apply below_alloc | apply pw_below_drewN | apply below_drew1 | refine below_set ?_ GE358.out) | exact HB.out)⟩
      · replace c11 := Bool.eq_false_iff.mpr c11
        subst c11
        have H1 : (if (l2_3.length : Int) > 2020 then (some (([] : List Int), 3)) else ((bailiwickref1_Lay.f kj3 ([] : List Int) 2 (IntKind.u64.wrap (a2_0))).bind fun t361 => ((bailiwickref1_Lay.f kj3 t361 2 (IntKind.u64.wrap (a2_1))).bind fun t364 => ((bailiwickref1_Lay.f kj3 t364 2 (IntKind.u64.wrap (wrap64 (8 + (l2_3.length : Int))))).bind fun t367 => ((some (([0, 0] : List Int) : List Int)).bind fun y370 => (if t367.length + y370.length < 140737488355328 then (bailiwickref3_BuildDatagram.l0 kj3 a0 a1 (wrap64 (8 + (l2_3.length : Int))) (t367 ++ y370) 0 a2_0 a2_1 a2_2 l2_3) else (none))))))) = some (r1, r2) := by rw [if_neg (show ¬ (false = true) by decide)] at H; exact H
        clear H
        have H := H1
        clear H1
        by_cases c12 : (l2_3.length : Int) > 2020
        · rw [if_pos c12] at H
          have c12b0 : decide (2020 < (l2_3.length : Int)) = true := decide_eq_true c12
          have c12b1 : decide (2020 < l2_3.length) = true := decide_eq_true (by omega)
          clear c12
          simp only [Option.some.injEq, Prod.mk.injEq] at H
          obtain ⟨rfl, rfl⟩ := H
          have hcz13_0 : wc.cell? ⟨gb358, 0, none⟩ = some (.int .i64 a2_0) := (blk_cell BK358.out 0).trans rfl
          have hcz13_1 : wc.cell? ⟨gb358, 1, none⟩ = some (.int .i64 a2_1) := (blk_cell BK358.out 1).trans rfl
          have hcz13_2 : wc.cell? ⟨gb358, 2, none⟩ = some (.bool a2_2) := (blk_cell BK358.out 2).trans rfl
          have hcz13_3 : wc.cell? ⟨gb358, 3, none⟩ = some (.slice A2_3 l2_3.length c2_3) := (blk_cell BK358.out 3).trans rfl
          have hfz13_0 := blk_frozen BK358.out 0
          have hfz13_1 := blk_frozen BK358.out 1
          have hfz13_2 := blk_frozen BK358.out 2
          have hfz13_3 := blk_frozen BK358.out 3
          go_wp2
          go_ret2
          exact ⟨_, by first | rfl | (simp [errW_none, errW_some] <;> rfl) | (simp [*, errW_none, errW_some] <;> rfl), by first | exact Kd.R_nil _ _ _ _ _ | exact Kd.N_nil _ _ _ _ _ | exact Kd.V_nil _ _ _ _ _ | exact Kd.Q_nil _ _ _ _ _ | exact Kd.S_nil _ _ _ _ _, by repeat (first | (with_reducible first | exact HB.out | apply below_alloc | apply pw_below_drewN | apply below_drew1 | refine below_set ?_ GE358.out) | exact HB.out)⟩
        · rw [if_neg c12] at H
          have c12b0 : decide (2020 < (l2_3.length : Int)) = false := decide_eq_false c12
          have c12b1 : decide (2020 < l2_3.length) = false := decide_eq_false (by omega)
          clear c12
          replace H := Option.bind_eq_some_iff.mp H
          obtain ⟨t361, A140, H⟩ := H
          replace H : ((bailiwickref1_Lay.f kj3 t361 2 (IntKind.u64.wrap (a2_1))).bind fun t364 => ((bailiwickref1_Lay.f kj3 t364 2 (IntKind.u64.wrap (wrap64 (8 + (l2_3.length : Int))))).bind fun t367 => ((some (([0, 0] : List Int) : List Int)).bind fun y370 => (if t367.length + y370.length < 140737488355328 then (bailiwickref3_BuildDatagram.l0 kj3 a0 a1 (wrap64 (8 + (l2_3.length : Int))) (t367 ++ y370) 0 a2_0 a2_1 a2_2 l2_3) else (none))))) = some (r1, r2) := H
          have A14 := Aside0.mk A140
          clear A140
          replace H := Option.bind_eq_some_iff.mp H
          obtain ⟨t364, A150, H⟩ := H
          replace H : ((bailiwickref1_Lay.f kj3 t364 2 (IntKind.u64.wrap (wrap64 (8 + (l2_3.length : Int))))).bind fun t367 => ((some (([0, 0] : List Int) : List Int)).bind fun y370 => (if t367.length + y370.length < 140737488355328 then (bailiwickref3_BuildDatagram.l0 kj3 a0 a1 (wrap64 (8 + (l2_3.length : Int))) (t367 ++ y370) 0 a2_0 a2_1 a2_2 l2_3) else (none)))) = some (r1, r2) := H
          have A15 := Aside0.mk A150
          clear A150
          replace H := Option.bind_eq_some_iff.mp H
          obtain ⟨t367, A160, H⟩ := H
          replace H : ((some (([0, 0] : List Int) : List Int)).bind fun y370 => (if t367.length + y370.length < 140737488355328 then (bailiwickref3_BuildDatagram.l0 kj3 a0 a1 (wrap64 (8 + (l2_3.length : Int))) (t367 ++ y370) 0 a2_0 a2_1 a2_2 l2_3) else (none))) = some (r1, r2) := H
          have A16 := Aside0.mk A160
          clear A160
          obtain ⟨y370, hy370⟩ : ∃ y_ : List Int, y_ = (([0, 0] : List Int)) := ⟨_, rfl⟩
          replace H : (if t367.length + y370.length < 140737488355328 then (bailiwickref3_BuildDatagram.l0 kj3 a0 a1 (wrap64 (8 + (l2_3.length : Int))) (t367 ++ y370) 0 a2_0 a2_1 a2_2 l2_3) else (none)) = some (r1, r2) := by first | (rw [hy370]; with_reducible exact H) | (have H2_ := (Option.bind_some _ _).symm.trans H; rw [hy370]; with_reducible exact H2_) | (have H2_ := (Option.bind_some _ _).symm.trans H; with_reducible exact H2_) | with_reducible exact H | (rw [hy370]; exact H) | exact H
          have Ny370 := Aside0.mk hy370
          clear hy370
          by_cases c17 : t367.length + y370.length < 140737488355328
          · rw [if_pos c17] at H
            have LMc17 := Aside0.mk c17
            clear c17
            obtain ⟨y373, hy373⟩ : ∃ y_ : List Int, y_ = (t367 ++ y370) := ⟨_, rfl⟩
            replace H : (bailiwickref3_BuildDatagram.l0 kj3 a0 a1 (wrap64 (8 + (l2_3.length : Int))) y373 0 a2_0 a2_1 a2_2 l2_3) = some (r1, r2) := by first | (rw [hy373]; with_reducible exact H) | (have H2_ := (Option.bind_some _ _).symm.trans H; rw [hy373]; with_reducible exact H2_) | (have H2_ := (Option.bind_some _ _).symm.trans H; with_reducible exact H2_) | with_reducible exact H | (rw [hy373]; exact H) | exact H
            have Ny373 := Aside0.mk hy373
            clear hy373
            have H' := Aside0.mk H
            clear H
            have hcz18_0 : wc.cell? ⟨gb358, 0, none⟩ = some (.int .i64 a2_0) := (blk_cell BK358.out 0).trans rfl
            have hcz18_1 : wc.cell? ⟨gb358, 1, none⟩ = some (.int .i64 a2_1) := (blk_cell BK358.out 1).trans rfl
            have hcz18_2 : wc.cell? ⟨gb358, 2, none⟩ = some (.bool a2_2) := (blk_cell BK358.out 2).trans rfl
            have hcz18_3 : wc.cell? ⟨gb358, 3, none⟩ = some (.slice A2_3 l2_3.length c2_3) := (blk_cell BK358.out 3).trans rfl
            have hfz18_0 := blk_frozen BK358.out 0
            have hfz18_1 := blk_frozen BK358.out 1
            have hfz18_2 := blk_frozen BK358.out 2
            have hfz18_3 := blk_frozen BK358.out 3
            go_wp2_with (first | ((with_reducible refine gate_callee (f := 63) rfl ?_); refine goesL_ (some 34) rfl rfl Try.func63 (by kernel_rfl) rfl #[.slice none 0 0, .int .i64 2, .int .u64 (IntKind.u64.wrap (a2_0))] rfl (by (try simp only [List.map_toArray, List.map_cons, List.map_nil]); first | done | rfl | (simp only [List.length_drop, List.length_take]; rfl)) ?_; (refine (bailiwickref1_Lay.calls kj3 (fun k_ => some k_ = (.slice none 0 0 : Value).ownBlock) (.slice none 0 0) ([] : List Int) 2 (IntKind.u64.wrap (a2_0)) t361 w _ ?side1 ?side2 A14.out).mono ?_); (case side1 => repeat (first | (with_reducible first | exact HB.out | apply below_alloc | apply pw_below_drewN | apply below_drew1 | refine below_set ?_ GE358.out) | exact HB.out)); (case side2 => exact Kd.R_nil _ _ _ _ _); rintro e w19 ⟨v362, rfl, ho0, hb, hkp⟩; refine ⟨_, rfl, ?_⟩; have n0_ := Aside0.mk (blk_kept (by (with_reducible repeat (first | refine blk_drewN ?_ _ | refine blk_drew ?_ | refine blk_alloc ?_ _)); exact BK358.out) hkp (fun hs_ => (fun e_ => by simp [Value.ownBlock] at e_) hs_)); have n1_ := Aside0.mk (Kd.R_mono (ok' := fun k_ => True) ho0 (fun k_ hk_ => trivial)); have n2_ := Aside0.mk (hb); clear BK358; clear HB; have BK358 := n0_; have HO363 := n1_; have HB := n2_; clear n0_ n1_ n2_; (try clear hb); (try clear hkp); (try clear ho0); have hcz20_0 : w19.cell? ⟨gb358, 0, none⟩ = some (.int .i64 a2_0) := (blk_cell BK358.out 0).trans rfl; have hcz20_1 : w19.cell? ⟨gb358, 1, none⟩ = some (.int .i64 a2_1) := (blk_cell BK358.out 1).trans rfl; have hcz20_2 : w19.cell? ⟨gb358, 2, none⟩ = some (.bool a2_2) := (blk_cell BK358.out 2).trans rfl; have hcz20_3 : w19.cell? ⟨gb358, 3, none⟩ = some (.slice A2_3 l2_3.length c2_3) := (blk_cell BK358.out 3).trans rfl; have hfz20_0 := blk_frozen BK358.out 0; have hfz20_1 := blk_frozen BK358.out 1; have hfz20_2 := blk_frozen BK358.out 2; have hfz20_3 := blk_frozen BK358.out 3; obtain ⟨Ao21, co21, eo21⟩ := Kd.R_slice HO363.out; subst eo21) | ((with_reducible refine gate_callee (f := 63) rfl ?_); refine goesL_ (some 39) rfl rfl Try.func63 (by kernel_rfl) rfl #[.slice Ao21 t361.length co21, .int .i64 2, .int .u64 (IntKind.u64.wrap (a2_1))] rfl (by (try simp only [List.map_toArray, List.map_cons, List.map_nil]); first | done | rfl | (simp only [List.length_drop, List.length_take]; rfl)) ?_; (with_reducible refine (bailiwickref1_Lay.calls kj3 (fun k_ => some k_ = (.slice Ao21 t361.length co21 : Value).ownBlock) (.slice Ao21 t361.length co21) t361 2 (IntKind.u64.wrap (a2_1)) t364 w _ ?side1 ?side2 A15.out).mono ?_); (case side1 => repeat (first | (with_reducible first | exact HB.out | apply below_alloc | apply pw_below_drewN | apply below_drew1 | refine below_set ?_ GE358.out) | exact HB.out)); (case side2 => exact Kd.R_tight rfl HO363.out); rintro e w22 ⟨v365, rfl, ho0, hb, hkp⟩; refine ⟨_, rfl, ?_⟩; have n0_ := Aside0.mk (blk_kept (by (with_reducible repeat (first | refine blk_drewN ?_ _ | refine blk_drew ?_ | refine blk_alloc ?_ _)); exact BK358.out) hkp (fun hs_ => (fun e_ => (Kd.R_ne HO363.out BK358.out (by decide)) e_) hs_)); have n1_ := Aside0.mk (Kd.R_mono (ok' := fun k_ => True) ho0 (fun k_ hk_ => trivial)); have n2_ := Aside0.mk (hb); clear BK358; clear HB; clear HO363; have BK358 := n0_; have HO366 := n1_; have HB := n2_; clear n0_ n1_ n2_; (try clear hb); (try clear hkp); (try clear ho0); obtain ⟨Ao23, co23, eo23⟩ := Kd.R_slice HO366.out; subst eo23) | ((with_reducible refine gate_callee (f := 63) rfl ?_); refine goesL_ (some 43) rfl rfl Try.func63 (by kernel_rfl) rfl #[.slice Ao23 t364.length co23, .int .i64 2, .int .u64 (IntKind.u64.wrap (wrap64 (8 + (l2_3.length : Int))))] rfl (by (try simp only [List.map_toArray, List.map_cons, List.map_nil]); first | done | rfl | (simp only [List.length_drop, List.length_take]; rfl)) ?_; (with_reducible refine (bailiwickref1_Lay.calls kj3 (fun k_ => some k_ = (.slice Ao23 t364.length co23 : Value).ownBlock) (.slice Ao23 t364.length co23) t364 2 (IntKind.u64.wrap (wrap64 (8 + (l2_3.length : Int)))) t367 w _ ?side1 ?side2 A16.out).mono ?_); (case side1 => repeat (first | (with_reducible first | exact HB.out | apply below_alloc | apply pw_below_drewN | apply below_drew1 | refine below_set ?_ GE358.out) | exact HB.out)); (case side2 => exact Kd.R_tight rfl HO366.out); rintro e w24 ⟨v368, rfl, ho0, hb, hkp⟩; refine ⟨_, rfl, ?_⟩; have n0_ := Aside0.mk (blk_kept (by (with_reducible repeat (first | refine blk_drewN ?_ _ | refine blk_drew ?_ | refine blk_alloc ?_ _)); exact BK358.out) hkp (fun hs_ => (fun e_ => (Kd.R_ne HO366.out BK358.out (by decide)) e_) hs_)); have n1_ := Aside0.mk (Kd.R_mono (ok' := fun k_ => True) ho0 (fun k_ hk_ => trivial)); have n2_ := Aside0.mk (hb); clear BK358; clear HB; clear HO366; have BK358 := n0_; have HO369 := n1_; have HB := n2_; clear n0_ n1_ n2_; (try clear hb); (try clear hkp); (try clear ho0)) | ((with_reducible refine gate_dst (N := 45) rfl ?_); refine Kd.R_lit (Kd.int .u8) _ 5 ?hg (N := 45) ?hd (xs := ([0, 0] : List Int)) (inner := [.int .u8 0, .int .u8 0]) (ok := fun _ => True) (okp := fun _ => True) ?hr ?hp (fun _ hk => hk) trivial (Below.refl _ _) (Nat.le_refl _) (by simp) ?_; (case hd => rfl); (case hg => rfl); (case hr => first | (go_simp; done) | (go_simp; rfl)); (case hp => exact (Reps.one (show Kd.M (Kd.int .u8) _ _ _ 0 [.int .u8 0] from rfl) (Reps.one (show Kd.M (Kd.int .u8) _ _ _ 0 [.int .u8 0] from rfl) (Reps.none _ _)))); intro v371 w25 ho26 hb hg_ hnew_; clear hg_ hnew_; (first | rw [← Ny370.out] at ho26 | (simp only [Int.reduceToNat] at ho26; rw [← Ny370.out] at ho26)); have n0_ := Aside0.mk (Kd.R_elder' (by (with_reducible repeat (first | apply Kd.R_alloc | apply Kd.R_drewN | apply Kd.R_drew)); exact HO369.out) (Kd.R_base ho26) hb); have n1_ := Aside0.mk (Kd.R_lower (Kd.R_new' ho26 (Kd.R_lt (by (with_reducible repeat (first | apply Kd.R_alloc | apply Kd.R_drewN | apply Kd.R_drew)); exact HO369.out))) (below_size (by repeat (first | (with_reducible first | exact HB.out | apply below_alloc | apply pw_below_drewN | apply below_drew1 | refine below_set ?_ GE358.out) | exact HB.out)))); have n2_ := Aside0.mk (blk_below (g := gb358) (o := .cells #[.int .i64 a2_0, .int .i64 a2_1, .bool a2_2, .slice A2_3 l2_3.length c2_3] 47 (0, 0)) (by (with_reducible repeat (first | refine blk_drewN ?_ _ | refine blk_drew ?_ | refine blk_alloc ?_ _)); exact BK358.out) hb); have n3_ := Aside0.mk (below_step (by repeat (first | (with_reducible first | exact HB.out | apply below_alloc | apply pw_below_drewN | apply below_drew1 | refine below_set ?_ GE358.out) | exact HB.out)) hb); clear HO369; clear BK358; clear HB; have HO369 := n0_; have HO372 := n1_; have BK358 := n2_; have HB := n3_; clear n0_ n1_ n2_ n3_; clear hb ho26; obtain ⟨Ao28, co28, eo28⟩ := Kd.R_slice HO372.out; subst eo28) | ((with_reducible refine gate_builtin (b := .append) (xs := #[.tmp 44, .tmp 45]) rfl ?_); at_builtin; refine Kd.R_append_rows (Kd.int .u8) (w0 := w) w.heap.size rfl (.tmp 44) (.tmp 45) 22 5 (.int .u8 0) 1 rfl Try.underlying22 info5 rfl (by decide) (by omega) v368 t367 y370 _ _ _ (fun k_ => some k_ ≠ (.slice Ao28 y370.length co28 : Value).ownBlock) (fun _ => False) rfl rfl ?aO ?aR (fun _ _ h => h) (fun _ h => h.elim) ?aF ?aB ?aS ?aL ?_; (case aR => repeat (first | exact (Kd.R_reads' HO372.out).2.2 | (with_reducible refine Kd.C_alloc ?_ _) | (with_reducible refine Kd.C_drewN ?_ _) | (with_reducible refine Kd.C_drew ?_))); (case aB => exact (by repeat (first | (with_reducible first | exact HB.out | apply below_alloc | apply pw_below_drewN | apply below_drew1 | refine below_set ?_ GE358.out) | exact HB.out))); (case aF => exact (fun k_ hk => Kd.fresh' (Kd.R_lt (by (with_reducible repeat (first | apply Kd.R_alloc | apply Kd.R_drewN | apply Kd.R_drew)); exact HO372.out)) k_ hk)); (case aO => exact (by (with_reducible repeat (first | apply Kd.R_alloc | apply Kd.R_drewN | apply Kd.R_drew)); exact Kd.R_mono HO369.out (fun _ hk => hk.2))); (case aS => exact (below_size (by repeat (first | (with_reducible first | exact HB.out | apply below_alloc | apply pw_below_drewN | apply below_drew1 | refine below_set ?_ GE358.out) | exact HB.out)))); (case aL => have := LMc17.out; omega); intro v374 w27 ho hb hg hat; rw [← Ny373.out] at ho; have n0_ := Aside0.mk (blk_grown (g := gb358) (o := .cells #[.int .i64 a2_0, .int .i64 a2_1, .bool a2_2, .slice A2_3 l2_3.length c2_3] 47 (0, 0)) (by (with_reducible repeat (first | refine blk_drewN ?_ _ | refine blk_drew ?_ | refine blk_alloc ?_ _)); exact BK358.out) hg (Kd.R_ne HO369.out BK358.out (by decide))); have n1_ := Aside0.mk (Kd.R_after (ok := (fun _ => True)) (by (with_reducible repeat (first | apply Kd.R_alloc | apply Kd.R_drewN | apply Kd.R_drew)); exact HO372.out) hg hat); have n2_ := Aside0.mk (hb); have n3_ := Aside0.mk (ho); clear BK358; clear HO372; clear HB; clear HO369; have BK358 := n0_; have HO372 := n1_; have HB := n2_; have HO375 := n3_; clear n0_ n1_ n2_ n3_; clear ho hb hg hat))
            go_loopg [9, 10] kj3 (fun kq v9 v10 w' => ∃ (x9_2 : List Int) (x10_2 : Int), v10 = .int .i64 x10_2 ∧ Aside0 (bailiwickref3_BuildDatagram.l0 kq a0 a1 (wrap64 (8 + (l2_3.length : Int))) x9_2 x10_2 a2_0 a2_1 a2_2 l2_3 = some (r1, r2)) ∧ Aside0 (kq ≤ kj3) ∧ Aside0 (Kd.R (Kd.int .u8) 5 w' w.heap.size (fun _ => True) v9 x9_2) ∧ Aside0 (w'.heap[gb358]? = some (.cells #[.int .i64 a2_0, .int .i64 a2_1, .bool a2_2, (.slice A2_3 l2_3.length c2_3)] 47 (0, 0))) ∧ Aside0 (Below w.heap.size w w'))
            case atStart => exact ⟨(y373), (0), (by first | rfl | (simp; done) | (simp [*]; done)), H', ⟨Nat.le_refl _⟩, ⟨by (with_reducible repeat (first | apply Kd.R_alloc | apply Kd.R_drewN | apply Kd.R_drew)); exact Kd.R_mono HO375.out (fun _ hk => trivial)⟩, ⟨by (with_reducible repeat (first | refine blk_drewN ?_ _ | refine blk_drew ?_ | refine blk_alloc ?_ _)); exact BK358.out⟩, ⟨by repeat (first | (with_reducible first | exact HB.out | apply below_alloc | apply pw_below_drewN | apply below_drew1 | refine below_set ?_ GE358.out) | exact HB.out)⟩⟩
            case round =>
              clear H'
              try clear c1
              try clear c2
              try clear p2
              try clear c4
              try clear c6
              try clear p6
              try clear c7
              try clear c11
              try clear c12
              try clear c12b0
              try clear c12b1
              try clear c17
              try clear hcz10_0
              try clear hcz10_1
              try clear hcz10_2
              try clear hcz10_3
              try clear hcz13_0
              try clear hcz13_1
              try clear hcz13_2
              try clear hcz13_3
              try clear hcz18_0
              try clear hcz18_1
              try clear hcz18_2
              try clear hcz18_3
              try clear hcz20_0
              try clear hcz20_1
              try clear hcz20_2
              try clear hcz20_3
              try clear hcz9_0
              try clear hcz9_1
              try clear hcz9_2
              try clear hcz9_3
              try clear hfz10_0
              try clear hfz10_1
              try clear hfz10_2
              try clear hfz10_3
              try clear hfz13_0
              try clear hfz13_1
              try clear hfz13_2
              try clear hfz13_3
              try clear hfz18_0
              try clear hfz18_1
              try clear hfz18_2
              try clear hfz18_3
              try clear hfz20_0
              try clear hfz20_1
              try clear hfz20_2
              try clear hfz20_3
              try clear hfz9_0
              try clear hfz9_1
              try clear hfz9_2
              try clear hfz9_3
              try clear p2
              obtain ⟨x9_2, x10_2, rfl, HA, HK2, HO_9, BK358, HB⟩ := hrel
              cases gk with
              | zero => exact absurd HA.out (by simp [bailiwickref3_BuildDatagram.l0])
              | succ k2 =>
                have H := HA.out
                clear HA
                simp only [bailiwickref3_BuildDatagram.l0] at H
                by_cases c29 : x10_2 < (l2_3.length : Int)
                · rw [if_pos c29] at H
                  have c29b0 : decide (x10_2 < (l2_3.length : Int)) = true := decide_eq_true c29
                  clear c29
                  by_cases c30 : 0 ≤ x10_2
                  · rw [if_pos c30] at H
                    have c30b0 : decide (0 ≤ x10_2) = true := decide_eq_true c30
                    clear c30
                    by_cases c31 : x9_2.length < 140737488355328
                    · rw [if_pos c31] at H
                      have LMc31 := Aside0.mk c31
                      clear c31
                      obtain ⟨y377, hy377⟩ : ∃ y_ : List Int, y_ = (x9_2 ++ [rd l2_3 x10_2]) := ⟨_, rfl⟩
                      replace H : (bailiwickref3_BuildDatagram.l0 k2 a0 a1 (wrap64 (8 + (l2_3.length : Int))) y377 (wrap64 (x10_2 + 1)) a2_0 a2_1 a2_2 l2_3) = some (r1, r2) := by first | (rw [hy377]; with_reducible exact H) | (have H2_ := (Option.bind_some _ _).symm.trans H; rw [hy377]; with_reducible exact H2_) | (have H2_ := (Option.bind_some _ _).symm.trans H; with_reducible exact H2_) | with_reducible exact H | (rw [hy377]; exact H) | exact H
                      have Ny377 := Aside0.mk hy377
                      clear hy377
                      have H' := Aside0.mk H
                      clear H
                      have hcz32_0 : wr.cell? ⟨gb358, 0, none⟩ = some (.int .i64 a2_0) := (blk_cell BK358.out 0).trans rfl
                      have hcz32_1 : wr.cell? ⟨gb358, 1, none⟩ = some (.int .i64 a2_1) := (blk_cell BK358.out 1).trans rfl
                      have hcz32_2 : wr.cell? ⟨gb358, 2, none⟩ = some (.bool a2_2) := (blk_cell BK358.out 2).trans rfl
                      have hcz32_3 : wr.cell? ⟨gb358, 3, none⟩ = some (.slice A2_3 l2_3.length c2_3) := (blk_cell BK358.out 3).trans rfl
                      have hfz32_0 := blk_frozen BK358.out 0
                      have hfz32_1 := blk_frozen BK358.out 1
                      have hfz32_2 := blk_frozen BK358.out 2
                      have hfz32_3 := blk_frozen BK358.out 3
                      have p376 : 0 ≤ (x10_2 : Int) := of_decide_eq_true (by first | (with_reducible assumption) | assumption)
                      have q376 : x10_2 < (l2_3.length : Int) := of_decide_eq_true (by first | (with_reducible assumption) | assumption)
                      obtain ⟨ad376, e376, hx376_0⟩ := Kd.at_int HR2_3.out x10_2 p376 q376
                      cases e376
                      replace hx376_0 := (HB.out.cell (World.block_lt_of_cell? w _ hx376_0)).trans hx376_0
                      replace p376 := eq_true p376
                      replace q376 := eq_true q376
                      go_wp2_with (first | ((with_reducible refine gate_builtin (b := .append) (xs := #[.tmp 54, .tmp 60]) rfl ?_); at_builtin; refine Kd.R_append (Kd.int .u8) (w0 := w) w.heap.size rfl (.tmp 54) (.tmp 60) 22 5 (.int .u8 0) 1 rfl Try.underlying22 info5 rfl (by decide) (by omega) u9 x9_2 (rd l2_3 x10_2) [.int .u8 (rd l2_3 x10_2)] (fun _ => True) (fun _ => False) rfl rfl ?aP (fun _ hk => hk.elim) ?aF ?aO ?aB ?aS ?aL ?_; (case aP => exact rfl); (case aB => exact (by repeat (first | (with_reducible first | exact HB.out | apply below_alloc | apply pw_below_drewN | apply below_drew1 | refine below_set ?_ GE358.out) | exact HB.out))); (case aF => exact (fun _ _ => trivial)); (case aO => exact (by (with_reducible repeat (first | apply Kd.R_alloc | apply Kd.R_drewN | apply Kd.R_drew)); exact HO_9.out)); (case aS => exact (below_size (by repeat (first | (with_reducible first | exact HB.out | apply below_alloc | apply pw_below_drewN | apply below_drew1 | refine below_set ?_ GE358.out) | exact HB.out)))); (case aL => have := LMc31.out; omega); intro v378 w33 ho hb hg hat; rw [← Ny377.out] at ho; have n0_ := Aside0.mk (blk_grown (g := gb358) (o := .cells #[.int .i64 a2_0, .int .i64 a2_1, .bool a2_2, .slice (some ad376) l2_3.length c2_3] 47 (0, 0)) (by (with_reducible repeat (first | refine blk_drewN ?_ _ | refine blk_drew ?_ | refine blk_alloc ?_ _)); exact BK358.out) hg (Kd.R_ne HO_9.out BK358.out (by decide))); have n1_ := Aside0.mk (hb); have n2_ := Aside0.mk (ho); clear BK358; clear HB; clear HO_9; have BK358 := n0_; have HB := n1_; have HO379 := n2_; clear n0_ n1_ n2_; clear ho hb hg hat))
                      go_roundg k2
                      case measure => have := HJ3.out; have := HK2.out; omega
                      case rel => exact ⟨(y377), (wrap64 (x10_2 + 1)), (by first | rfl | (simp; done) | (simp [*]; done)), H', ⟨by have := HJ3.out; have := HK2.out; omega⟩, ⟨by (with_reducible repeat (first | apply Kd.R_alloc | apply Kd.R_drewN | apply Kd.R_drew)); exact HO379.out⟩, ⟨by (with_reducible repeat (first | refine blk_drewN ?_ _ | refine blk_drew ?_ | refine blk_alloc ?_ _)); exact BK358.out⟩, ⟨by repeat (first | (with_reducible first | exact HB.out | apply below_alloc | apply pw_below_drewN | apply below_drew1 | refine below_set ?_ GE358.out) | exact HB.out)⟩⟩
                    · rw [if_neg c31] at H
                      exact absurd H (by simp)
                  · rw [if_neg c30] at H
                    exact absurd H (by simp)
                · rw [if_neg c29] at H
                  have c29b0 : decide (x10_2 < (l2_3.length : Int)) = false := decide_eq_false c29
                  clear c29
                  by_cases c34 : a2_2 = true
                  · subst c34
                    have H1 : (some (x9_2, 0)) = some (r1, r2) := by rw [if_pos rfl] at H; exact H
                    clear H
                    have H := H1
                    clear H1
                    simp only [Option.some.injEq, Prod.mk.injEq] at H
                    obtain ⟨rfl, rfl⟩ := H
                    have hcz35_0 : wr.cell? ⟨gb358, 0, none⟩ = some (.int .i64 a2_0) := (blk_cell BK358.out 0).trans rfl
                    have hcz35_1 : wr.cell? ⟨gb358, 1, none⟩ = some (.int .i64 a2_1) := (blk_cell BK358.out 1).trans rfl
                    have hcz35_2 : wr.cell? ⟨gb358, 2, none⟩ = some (.bool true) := (blk_cell BK358.out 2).trans rfl
                    have hcz35_3 : wr.cell? ⟨gb358, 3, none⟩ = some (.slice A2_3 l2_3.length c2_3) := (blk_cell BK358.out 3).trans rfl
                    have hfz35_0 := blk_frozen BK358.out 0
                    have hfz35_1 := blk_frozen BK358.out 1
                    have hfz35_2 := blk_frozen BK358.out 2
                    have hfz35_3 := blk_frozen BK358.out 3
                    go_wp2
                    go_ret2
                    exact ⟨_, by first | rfl | (simp [errW_none, errW_some] <;> rfl) | (simp [*, errW_none, errW_some] <;> rfl), by (with_reducible repeat (first | apply Kd.R_alloc | apply Kd.R_drewN | apply Kd.R_drew)); exact HO_9.out, by repeat (first | (with_reducible first | exact HB.out | apply below_alloc | apply pw_below_drewN | apply below_drew1 | refine below_set ?_ GE358.out) | exact HB.out)⟩
                  · replace c34 := Bool.eq_false_iff.mpr c34
                    subst c34
                    have H1 : ((bailiwickref3_Pseudo.f k2 a0 a1 17 (wrap64 (8 + (l2_3.length : Int)))).bind fun t380 => ((bailiwickref1_Sum.f k2 (([t380, x9_2] : List (List Int)))).bind fun t387 => (if (wrap64 (65535 - t387)) = 0 then (if 6 < (x9_2.length : Int) then (if 7 < (x9_2.length : Int) then (some (((x9_2.set (6 : Int).toNat (255)).set (7 : Int).toNat (255)), 0)) else (none)) else (none)) else (if 6 < (x9_2.length : Int) then (if 7 < (x9_2.length : Int) then (some (((x9_2.set (6 : Int).toNat (((wrap64 (65535 - t387)) / 256) % 256)).set (7 : Int).toNat ((wrap64 (65535 - t387)) % 256)), 0)) else (none)) else (none))))) = some (r1, r2) := by rw [if_neg (show ¬ (false = true) by decide)] at H; exact H
                    clear H
                    have H := H1
                    clear H1
                    replace H := Option.bind_eq_some_iff.mp H
                    obtain ⟨t380, A360, H⟩ := H
                    replace H : ((bailiwickref1_Sum.f k2 (([t380, x9_2] : List (List Int)))).bind fun t387 => (if (wrap64 (65535 - t387)) = 0 then (if 6 < (x9_2.length : Int) then (if 7 < (x9_2.length : Int) then (some (((x9_2.set (6 : Int).toNat (255)).set (7 : Int).toNat (255)), 0)) else (none)) else (none)) else (if 6 < (x9_2.length : Int) then (if 7 < (x9_2.length : Int) then (some (((x9_2.set (6 : Int).toNat (((wrap64 (65535 - t387)) / 256) % 256)).set (7 : Int).toNat ((wrap64 (65535 - t387)) % 256)), 0)) else (none)) else (none)))) = some (r1, r2) := H
                    have A36 := Aside0.mk A360
                    clear A360
                    obtain ⟨y383, hy383⟩ : ∃ y_ : List (List Int), y_ = (([t380, x9_2] : List (List Int))) := ⟨_, rfl⟩
                    replace H : ((bailiwickref1_Sum.f k2 y383).bind fun t387 => (if (wrap64 (65535 - t387)) = 0 then (if 6 < (x9_2.length : Int) then (if 7 < (x9_2.length : Int) then (some (((x9_2.set (6 : Int).toNat (255)).set (7 : Int).toNat (255)), 0)) else (none)) else (none)) else (if 6 < (x9_2.length : Int) then (if 7 < (x9_2.length : Int) then (some (((x9_2.set (6 : Int).toNat (((wrap64 (65535 - t387)) / 256) % 256)).set (7 : Int).toNat ((wrap64 (65535 - t387)) % 256)), 0)) else (none)) else (none)))) = some (r1, r2) := by first | (rw [hy383]; with_reducible exact H) | (have H2_ := (Option.bind_some _ _).symm.trans H; rw [hy383]; with_reducible exact H2_) | (have H2_ := (Option.bind_some _ _).symm.trans H; with_reducible exact H2_) | with_reducible exact H | (rw [hy383]; exact H) | exact H
                    have Ny383 := Aside0.mk hy383
                    clear hy383
                    replace H := Option.bind_eq_some_iff.mp H
                    obtain ⟨t387, A370, H⟩ := H
                    replace H : (if (wrap64 (65535 - t387)) = 0 then (if 6 < (x9_2.length : Int) then (if 7 < (x9_2.length : Int) then (some (((x9_2.set (6 : Int).toNat (255)).set (7 : Int).toNat (255)), 0)) else (none)) else (none)) else (if 6 < (x9_2.length : Int) then (if 7 < (x9_2.length : Int) then (some (((x9_2.set (6 : Int).toNat (((wrap64 (65535 - t387)) / 256) % 256)).set (7 : Int).toNat ((wrap64 (65535 - t387)) % 256)), 0)) else (none)) else (none))) = some (r1, r2) := H
                    have A37 := Aside0.mk A370
                    clear A370
                    by_cases c38 : (wrap64 (65535 - t387)) = 0
                    · rw [if_pos c38] at H
                      have c38b0 : ((wrap64 (65535 - t387)) == 0) = true := beq_iff_eq.mpr c38
                      have c38b1 : ((wrap64 (65535 - t387)) != 0) = false := bne_eq_false_iff_eq.mpr c38
                      clear c38
                      by_cases c39 : 6 < (x9_2.length : Int)
                      · rw [if_pos c39] at H
                        have c39b0 : decide (6 < (x9_2.length : Int)) = true := decide_eq_true c39
                        have c39b1 : decide (6 < x9_2.length) = true := decide_eq_true (by omega)
                        clear c39
                        obtain ⟨y388, hy388⟩ : ∃ y_ : List Int, y_ = (x9_2.set (6 : Int).toNat (255)) := ⟨_, rfl⟩
                        replace H : (if 7 < (x9_2.length : Int) then (some ((y388.set (7 : Int).toNat (255)), 0)) else (none)) = some (r1, r2) := by first | (rw [hy388]; with_reducible exact H) | (have H2_ := (Option.bind_some _ _).symm.trans H; rw [hy388]; with_reducible exact H2_) | (have H2_ := (Option.bind_some _ _).symm.trans H; with_reducible exact H2_) | with_reducible exact H | (rw [hy388]; exact H) | exact H
                        have Ny388 := Aside0.mk hy388
                        clear hy388
                        by_cases c41 : 7 < (x9_2.length : Int)
                        · rw [if_pos c41] at H
                          have c41b0 : decide (7 < (x9_2.length : Int)) = true := decide_eq_true c41
                          have c41b1 : decide (7 < x9_2.length) = true := decide_eq_true (by omega)
                          clear c41
                          obtain ⟨y389, hy389⟩ : ∃ y_ : List Int, y_ = (y388.set (7 : Int).toNat (255)) := ⟨_, rfl⟩
                          replace H : (some (y389, 0)) = some (r1, r2) := by first | (rw [hy389]; with_reducible exact H) | (have H2_ := (Option.bind_some _ _).symm.trans H; rw [hy389]; with_reducible exact H2_) | (have H2_ := (Option.bind_some _ _).symm.trans H; with_reducible exact H2_) | with_reducible exact H | (rw [hy389]; exact H) | exact H
                          have Ny389 := Aside0.mk hy389
                          clear hy389
                          simp only [Option.some.injEq, Prod.mk.injEq] at H
                          obtain ⟨rfl, rfl⟩ := H
                          have hcz43_0 : wr.cell? ⟨gb358, 0, none⟩ = some (.int .i64 a2_0) := (blk_cell BK358.out 0).trans rfl
                          have hcz43_1 : wr.cell? ⟨gb358, 1, none⟩ = some (.int .i64 a2_1) := (blk_cell BK358.out 1).trans rfl
                          have hcz43_2 : wr.cell? ⟨gb358, 2, none⟩ = some (.bool false) := (blk_cell BK358.out 2).trans rfl
                          have hcz43_3 : wr.cell? ⟨gb358, 3, none⟩ = some (.slice A2_3 l2_3.length c2_3) := (blk_cell BK358.out 3).trans rfl
                          have hfz43_0 := blk_frozen BK358.out 0
                          have hfz43_1 := blk_frozen BK358.out 1
                          have hfz43_2 := blk_frozen BK358.out 2
                          have hfz43_3 := blk_frozen BK358.out 3
                          go_wp2_with (first | ((with_reducible refine gate_callee (f := 42) rfl ?_); refine goesL_ (some 68) rfl rfl Try.func42 (by kernel_rfl) rfl #[.int .u32 a0, .int .u32 a1, .int .i64 17, .int .i64 (wrap64 (8 + (l2_3.length : Int)))] rfl (by (try simp only [List.map_toArray, List.map_cons, List.map_nil]); first | done | rfl | (simp only [List.length_drop, List.length_take]; rfl)) ?_; (with_reducible refine (bailiwickref3_Pseudo.calls k2 a0 a1 17 (wrap64 (8 + (l2_3.length : Int))) t380 _ A36.out).mono ?_); rintro e w44 ⟨v381, rfl, ho0, hb⟩; refine ⟨_, rfl, ?_⟩; have n0_ := Aside0.mk (Kd.R_elder' (by (with_reducible repeat (first | apply Kd.R_alloc | apply Kd.R_drewN | apply Kd.R_drew)); exact HO_9.out) (Kd.R_base ho0) hb); have n1_ := Aside0.mk (Kd.R_lower (Kd.R_new' ho0 (Kd.R_lt (by (with_reducible repeat (first | apply Kd.R_alloc | apply Kd.R_drewN | apply Kd.R_drew)); exact HO_9.out))) (below_size (by repeat (first | (with_reducible first | exact HB.out | apply below_alloc | apply pw_below_drewN | apply below_drew1 | refine below_set ?_ GE358.out) | exact HB.out)))); have n2_ := Aside0.mk (blk_below (g := gb358) (o := .cells #[.int .i64 a2_0, .int .i64 a2_1, .bool false, .slice A2_3 l2_3.length c2_3] 47 (0, 0)) (by (with_reducible repeat (first | refine blk_drewN ?_ _ | refine blk_drew ?_ | refine blk_alloc ?_ _)); exact BK358.out) hb); have n3_ := Aside0.mk (below_step (by repeat (first | (with_reducible first | exact HB.out | apply below_alloc | apply pw_below_drewN | apply below_drew1 | refine below_set ?_ GE358.out) | exact HB.out)) hb); clear HO_9; clear BK358; clear HB; have HO_9 := n0_; have HO382 := n1_; have BK358 := n2_; have HB := n3_; clear n0_ n1_ n2_ n3_; (try clear hb); (try clear hb2); (try clear hk); (try clear hi); (try clear ho0); obtain ⟨Ao45, co45, eo45⟩ := Kd.R_slice HO382.out; subst eo45; obtain ⟨Ao46, co46, eo46⟩ := Kd.R_slice HO_9.out; subst eo46) | ((with_reducible refine gate_dst (N := 70) rfl ?_); refine Kd.N_lit (Kd.slice 5 (Kd.int .u8)) _ 22 ?hg (N' := 70) ?hd (xs := ([t380, x9_2] : List (List Int))) (inner := [.slice Ao45 t380.length co45, .slice Ao46 x9_2.length co46]) (ok := fun _ => True) (okp := fun _ => True) ?hr ?hp (fun _ _ => trivial) trivial (Below.refl _ _) (Nat.le_refl _) (by simp) ?_; (case hd => rfl); (case hg => rfl); (case hr => first | (go_simp; done) | (go_simp; rfl)); (case hp => exact (Reps.one (show Kd.FK (Kd.slice 5 (Kd.int .u8)) _ _ t380 [.slice Ao45 t380.length co45] from Kd.FK_slice_mk (by exact (Kd.R_reads' HO382.out).2.1) (Kd.F_mono (Kd.C_F (Kd.heap_int .u8) (by repeat (first | exact (Kd.R_reads' HO382.out).2.2 | (with_reducible refine Kd.C_alloc ?_ _) | (with_reducible refine Kd.C_drewN ?_ _) | (with_reducible refine Kd.C_drew ?_)))) (fun _ _ => trivial))) (Reps.one (show Kd.FK (Kd.slice 5 (Kd.int .u8)) _ _ x9_2 [.slice Ao46 x9_2.length co46] from Kd.FK_slice_mk (by exact (Kd.R_reads' HO_9.out).2.1) (Kd.F_mono (Kd.C_F (Kd.heap_int .u8) (by repeat (first | exact (Kd.R_reads' HO_9.out).2.2 | (with_reducible refine Kd.C_alloc ?_ _) | (with_reducible refine Kd.C_drewN ?_ _) | (with_reducible refine Kd.C_drew ?_)))) (fun _ _ => trivial))) (Reps.none _ _)))); intro vl386 w47 ho hb hg_ hnew_; clear hg_ hnew_; (first | rw [← Ny383.out] at ho | (simp only [Int.reduceToNat] at ho; rw [← Ny383.out] at ho)); obtain ⟨Al386, cl386, el386⟩ := Kd.N_slice ho; subst el386; have hr := (Kd.N_reads' ho).2.2; have hl := (Kd.N_reads' ho).2.1; clear ho; have n0_ := Aside0.mk (Kd.R_below (by (with_reducible repeat (first | apply Kd.R_alloc | apply Kd.R_drewN | apply Kd.R_drew)); exact HO_9.out) hb); have n1_ := Aside0.mk (Kd.R_below (by (with_reducible repeat (first | apply Kd.R_alloc | apply Kd.R_drewN | apply Kd.R_drew)); exact HO382.out) hb); have n2_ := Aside0.mk (blk_below (g := gb358) (o := .cells #[.int .i64 a2_0, .int .i64 a2_1, .bool false, .slice A2_3 l2_3.length c2_3] 47 (0, 0)) (by (with_reducible repeat (first | refine blk_drewN ?_ _ | refine blk_drew ?_ | refine blk_alloc ?_ _)); exact BK358.out) hb); have n3_ := Aside0.mk (below_step (by repeat (first | (with_reducible first | exact HB.out | apply below_alloc | apply pw_below_drewN | apply below_drew1 | refine below_set ?_ GE358.out) | exact HB.out)) hb); have n4_ := Aside0.mk (hr); have n5_ := Aside0.mk (hl); clear HO_9; clear HO382; clear BK358; clear HB; have HO_9 := n0_; have HO382 := n1_; have BK358 := n2_; have HB := n3_; have HRl386 := n4_; have HCl386 := n5_; clear n0_ n1_ n2_ n3_ n4_ n5_; clear hb hr hl; have n_ := Aside0.mk (Kd.R_mono (ok' := (fun k_ => some k_ ≠ (.slice Ao45 t380.length co45 : Value).ownBlock)) HO_9.out (fun k_ hk => hk.2)); clear HO_9; have HO_9 := n_; clear n_; have n_ := Aside0.mk (Kd.R_mono (ok' := (fun k_ => some k_ ≠ (.slice Ao46 x9_2.length co46 : Value).ownBlock)) HO382.out (fun k_ hk => hk.2)); clear HO382; have HO382 := n_; clear n_) | ((with_reducible refine gate_callee (f := 27) rfl ?_); refine goesL_ (some 71) rfl rfl Try.func27 (by kernel_rfl) rfl #[.slice Al386 y383.length cl386] rfl (by (try simp only [List.map_toArray, List.map_cons, List.map_nil]); first | done | rfl | (simp only [List.length_drop, List.length_take]; rfl)) ?_; (with_reducible refine (bailiwickref1_Sum.calls k2 _ _ y383 t387 _ ?side1 ?side2 A37.out).mono ?_); (case side1 => repeat (first | exact (by repeat (first | (with_reducible exact HRl386.out) | (with_reducible refine Kd.C_alloc ?_ _) | (with_reducible refine Kd.C_drewN ?_ _) | (with_reducible refine Kd.C_drew ?_) | exact HRl386.out)) | (with_reducible refine Kd.C_alloc ?_ _) | (with_reducible refine Kd.C_drewN ?_ _) | (with_reducible refine Kd.C_drew ?_))); (case side2 => exact HCl386.out); rintro e w' ⟨rfl, ⟨nd, rfl⟩⟩; refine ⟨_, rfl, ?_⟩; (try (rw [drewN_self w47]; generalize hq_ : World.drewN w47 _ = w47; have n0_ : Aside0 (Kd.R (Kd.int .u8) 5 w47 w.heap.size (fun k_ => some k_ ≠ (.slice Ao46 x9_2.length co46 : Value).ownBlock) (.slice Ao45 t380.length co45) t380) := ⟨by rw [← hq_]; exact (by (with_reducible repeat (first | apply Kd.R_alloc | apply Kd.R_drewN | apply Kd.R_drew)); exact HO382.out)⟩; have n1_ : Aside0 (Kd.R (Kd.int .u8) 5 w47 w.heap.size (fun k_ => some k_ ≠ (.slice Ao45 t380.length co45 : Value).ownBlock) (.slice Ao46 x9_2.length co46) x9_2) := ⟨by rw [← hq_]; exact (by (with_reducible repeat (first | apply Kd.R_alloc | apply Kd.R_drewN | apply Kd.R_drew)); exact HO_9.out)⟩; have n2_ : Aside0 (w47.heap[gb358]? = some (.cells #[.int .i64 a2_0, .int .i64 a2_1, .bool false, .slice A2_3 l2_3.length c2_3] 47 (0, 0))) := ⟨by rw [← hq_]; exact (by (with_reducible repeat (first | refine blk_drewN ?_ _ | refine blk_drew ?_ | refine blk_alloc ?_ _)); exact BK358.out)⟩; have n3_ : Aside0 (Below w.heap.size w w47) := ⟨by rw [← hq_]; exact (by repeat (first | (with_reducible first | exact HB.out | apply below_alloc | apply pw_below_drewN | apply below_drew1 | refine below_set ?_ GE358.out) | exact HB.out))⟩; have n4_ : Aside0 (Kd.C (Kd.slice 5 (Kd.int .u8)) w47 Al386 y383.length y383) := ⟨by rw [← hq_]; exact (by repeat (first | (with_reducible exact HRl386.out) | (with_reducible refine Kd.C_alloc ?_ _) | (with_reducible refine Kd.C_drewN ?_ _) | (with_reducible refine Kd.C_drew ?_) | exact HRl386.out))⟩; clear HO382 HO_9 BK358 HB HRl386 hq_; have HO382 := n0_; have HO_9 := n1_; have BK358 := n2_; have HB := n3_; have HRl386 := n4_; clear n0_ n1_ n2_ n3_ n4_)); have p40 : 0 ≤ (6 : Int) := (by omega); have q40 : (6 : Int) < ((x9_2.length : Int) : Int) := of_decide_eq_true (by first | (with_reducible assumption) | assumption); have qi40 : (6 < x9_2.length) = True := eq_true (by omega); obtain ⟨go40, co40, eo40, gb40, gl40, cl40, HG40⟩ := Kd.R_form HO_9.out (by omega); (first | cases eo40 | (injection eo40 with ea_ en_ ec_; (first | subst ea_ | (injection ea_ with ea_; subst ea_)); subst ec_; clear en_)); have GB40 := Aside0.mk gb40; have GG40 := Aside0.mk HG40; clear gb40 gl40 HG40; obtain ⟨hx40_0, hf40_0⟩ := Kd.R_celln 0 HO_9.out (6 : Int) p40 q40; (try rw [show ((6 : Int)).toNat = 6 from rfl] at hx40_0); (try simp only [Nat.reduceMul, Nat.zero_mul, Nat.zero_add, Nat.reduceAdd] at hx40_0); (try rw [show ((6 : Int)).toNat = 6 from rfl] at hf40_0); (try simp only [Nat.reduceMul, Nat.zero_mul, Nat.zero_add, Nat.reduceAdd] at hf40_0); replace p40 := eq_true p40; replace q40 := eq_true q40; obtain ⟨hy48_, hz48_⟩ := Kd.R_celln 0 HO_9.out (6 : Int) (by omega) (of_decide_eq_true (by first | (with_reducible assumption) | assumption)); (try simp only [Int.reduceToNat, Int.toNat_zero, Int.toNat_ofNat, Nat.reduceMul, Nat.zero_mul, Nat.zero_add] at hy48_ hz48_); (try rw [show ((6 : Int)).toNat = 6 from rfl] at hy48_); (try rw [show ((6 : Int)).toNat = 6 from rfl] at hz48_); have HP48 := Kd.R_putg HO_9.out (6 : Int) (255)) | ((with_reducible refine gate_store (t := 5) (p := 79) rfl ?_); refine store_event (t := 5) (p := 79) (v := ?vo_w49) (w1 := (w47.setCell ⟨go40, (6 : Int).toNat, none⟩ (.int .u8 (255)))) ?hg ?ho ?hn ?hr ?_; (case ho => rfl); (case hg => rfl); (case hn => rfl); (case hr => first | (go_simp; done) | (go_simp; rfl)); intro w49 hw; have hg : w47.grownBy w49 (some go40) := (by rw [hw]; exact HP48.2); have hp_ : Kd.R (Kd.int .u8) 5 w49 w.heap.size (fun k_ => some k_ ≠ (.slice Ao45 t380.length co45 : Value).ownBlock) (.slice (some ⟨go40, 0, none⟩) x9_2.length co46) y388 := (by rw [hw, Ny388.out]; exact HP48.1); clear HP48; have n0_ := Aside0.mk (hp_); have n1_ := Aside0.mk (blk_grown (g := gb358) (o := .cells #[.int .i64 a2_0, .int .i64 a2_1, .bool false, .slice A2_3 l2_3.length c2_3] 47 (0, 0)) (by (with_reducible repeat (first | refine blk_drewN ?_ _ | refine blk_drew ?_ | refine blk_alloc ?_ _)); exact BK358.out) hg (Kd.R_ne HO_9.out BK358.out (by decide))); have n2_ := Aside0.mk (Kd.R_after (v := (.slice (some ⟨go40, 0, none⟩) x9_2.length co46)) (v1 := (.slice (some ⟨go40, 0, none⟩) x9_2.length co46)) (ok := (fun _ => True)) (by (with_reducible repeat (first | apply Kd.R_alloc | apply Kd.R_drewN | apply Kd.R_drew)); exact Kd.R_mono HO382.out (fun _ hk => ⟨trivial, hk⟩)) hg (.inl rfl)); have n3_ := Aside0.mk ((by rw [hw]; exact below_set (HB.out) GB40.out : Below w.heap.size w w49)); clear HO_9; clear BK358; clear HO382; clear HB; have HO_9 := n0_; have BK358 := n1_; have HO382 := n2_; have HB := n3_; clear n0_ n1_ n2_ n3_; clear hg hw hp_; have p42 : 0 ≤ (7 : Int) := (by omega); have q42 : (7 : Int) < ((x9_2.length : Int) : Int) := of_decide_eq_true (by first | (with_reducible assumption) | assumption); have qi42 : (7 < x9_2.length) = True := eq_true (by omega); obtain ⟨hx42_0, hf42_0⟩ := Kd.R_celln 0 HO_9.out (7 : Int) p42 q42; (try rw [show ((7 : Int)).toNat = 7 from rfl] at hx42_0); (try simp only [Nat.reduceMul, Nat.zero_mul, Nat.zero_add, Nat.reduceAdd] at hx42_0); (try rw [show ((7 : Int)).toNat = 7 from rfl] at hf42_0); (try simp only [Nat.reduceMul, Nat.zero_mul, Nat.zero_add, Nat.reduceAdd] at hf42_0); replace p42 := eq_true p42; replace q42 := eq_true q42; obtain ⟨hy50_, hz50_⟩ := Kd.R_celln 0 HO_9.out (7 : Int) (by omega) (of_decide_eq_true (by first | (with_reducible assumption) | assumption)); (try simp only [Int.reduceToNat, Int.toNat_zero, Int.toNat_ofNat, Nat.reduceMul, Nat.zero_mul, Nat.zero_add] at hy50_ hz50_); (try rw [show ((7 : Int)).toNat = 7 from rfl] at hy50_); (try rw [show ((7 : Int)).toNat = 7 from rfl] at hz50_); have HP50 := Kd.R_putg HO_9.out (7 : Int) (255)) | ((with_reducible refine gate_store (t := 5) (p := 83) rfl ?_); refine store_event (t := 5) (p := 83) (v := ?vo_w51) (w1 := (w49.setCell ⟨go40, (7 : Int).toNat, none⟩ (.int .u8 (255)))) ?hg ?ho ?hn ?hr ?_; (case ho => rfl); (case hg => rfl); (case hn => rfl); (case hr => first | (go_simp; done) | (go_simp; rfl)); intro w51 hw; have hg : w49.grownBy w51 (some go40) := (by rw [hw]; exact HP50.2); have hp_ : Kd.R (Kd.int .u8) 5 w51 w.heap.size (fun k_ => some k_ ≠ (.slice Ao45 t380.length co45 : Value).ownBlock) (.slice (some ⟨go40, 0, none⟩) x9_2.length co46) y389 := (by rw [hw, Ny389.out]; exact HP50.1); clear HP50; have n0_ := Aside0.mk (hp_); have n1_ := Aside0.mk (blk_grown (g := gb358) (o := .cells #[.int .i64 a2_0, .int .i64 a2_1, .bool false, .slice A2_3 l2_3.length c2_3] 47 (0, 0)) (by (with_reducible repeat (first | refine blk_drewN ?_ _ | refine blk_drew ?_ | refine blk_alloc ?_ _)); exact BK358.out) hg (Kd.R_ne HO_9.out BK358.out (by decide))); have n2_ := Aside0.mk (Kd.R_after (v := (.slice (some ⟨go40, 0, none⟩) x9_2.length co46)) (v1 := (.slice (some ⟨go40, 0, none⟩) x9_2.length co46)) (ok := (fun _ => True)) (by (with_reducible repeat (first | apply Kd.R_alloc | apply Kd.R_drewN | apply Kd.R_drew)); exact HO382.out) hg (.inl rfl)); have n3_ := Aside0.mk ((by rw [hw]; exact below_set (HB.out) GB40.out : Below w.heap.size w w51)); clear HO_9; clear BK358; clear HO382; clear HB; have HO_9 := n0_; have BK358 := n1_; have HO382 := n2_; have HB := n3_; clear n0_ n1_ n2_ n3_; clear hg hw hp_))
                          go_ret2
                          exact ⟨_, by first | rfl | (simp [errW_none, errW_some] <;> rfl) | (simp [*, errW_none, errW_some] <;> rfl), by (with_reducible repeat (first | apply Kd.R_alloc | apply Kd.R_drewN | apply Kd.R_drew)); exact Kd.R_mono HO_9.out (fun _ hk => trivial), by repeat (first | (with_reducible first | exact HB.out | apply below_alloc | apply pw_below_drewN | apply below_drew1 | refine below_set ?_ GE358.out) | exact HB.out)⟩
                        · rw [if_neg c41] at H
                          exact absurd H (by simp)
                      · rw [if_neg c39] at H
                        exact absurd H (by simp)
                    · rw [if_neg c38] at H
                      have c38b0 : ((wrap64 (65535 - t387)) == 0) = false := beq_eq_false_iff_ne.mpr c38
                      have c38b1 : ((wrap64 (65535 - t387)) != 0) = true := bne_iff_ne.mpr c38
                      by_cases c52 : 6 < (x9_2.length : Int)
                      · rw [if_pos c52] at H
                        have c52b0 : decide (6 < (x9_2.length : Int)) = true := decide_eq_true c52
                        have c52b1 : decide (6 < x9_2.length) = true := decide_eq_true (by omega)
                        clear c52
                        obtain ⟨y390, hy390⟩ : ∃ y_ : List Int, y_ = (x9_2.set (6 : Int).toNat (((wrap64 (65535 - t387)) / 256) % 256)) := ⟨_, rfl⟩
                        replace H : (if 7 < (x9_2.length : Int) then (some ((y390.set (7 : Int).toNat ((wrap64 (65535 - t387)) % 256)), 0)) else (none)) = some (r1, r2) := by first | (rw [hy390]; with_reducible exact H) | (have H2_ := (Option.bind_some _ _).symm.trans H; rw [hy390]; with_reducible exact H2_) | (have H2_ := (Option.bind_some _ _).symm.trans H; with_reducible exact H2_) | with_reducible exact H | (rw [hy390]; exact H) | exact H
                        have Ny390 := Aside0.mk hy390
                        clear hy390
                        by_cases c54 : 7 < (x9_2.length : Int)
                        · rw [if_pos c54] at H
                          have c54b0 : decide (7 < (x9_2.length : Int)) = true := decide_eq_true c54
                          have c54b1 : decide (7 < x9_2.length) = true := decide_eq_true (by omega)
                          clear c54
                          obtain ⟨y391, hy391⟩ : ∃ y_ : List Int, y_ = (y390.set (7 : Int).toNat ((wrap64 (65535 - t387)) % 256)) := ⟨_, rfl⟩
                          replace H : (some (y391, 0)) = some (r1, r2) := by first | (rw [hy391]; with_reducible exact H) | (have H2_ := (Option.bind_some _ _).symm.trans H; rw [hy391]; with_reducible exact H2_) | (have H2_ := (Option.bind_some _ _).symm.trans H; with_reducible exact H2_) | with_reducible exact H | (rw [hy391]; exact H) | exact H
                          have Ny391 := Aside0.mk hy391
                          clear hy391
                          simp only [Option.some.injEq, Prod.mk.injEq] at H
                          obtain ⟨rfl, rfl⟩ := H
                          have hcz56_0 : wr.cell? ⟨gb358, 0, none⟩ = some (.int .i64 a2_0) := (blk_cell BK358.out 0).trans rfl
                          have hcz56_1 : wr.cell? ⟨gb358, 1, none⟩ = some (.int .i64 a2_1) := (blk_cell BK358.out 1).trans rfl
                          have hcz56_2 : wr.cell? ⟨gb358, 2, none⟩ = some (.bool false) := (blk_cell BK358.out 2).trans rfl
                          have hcz56_3 : wr.cell? ⟨gb358, 3, none⟩ = some (.slice A2_3 l2_3.length c2_3) := (blk_cell BK358.out 3).trans rfl
                          have hfz56_0 := blk_frozen BK358.out 0
                          have hfz56_1 := blk_frozen BK358.out 1
                          have hfz56_2 := blk_frozen BK358.out 2
                          have hfz56_3 := blk_frozen BK358.out 3
                          go_wp2_with (first | ((with_reducible refine gate_callee (f := 42) rfl ?_); refine goesL_ (some 68) rfl rfl Try.func42 (by kernel_rfl) rfl #[.int .u32 a0, .int .u32 a1, .int .i64 17, .int .i64 (wrap64 (8 + (l2_3.length : Int)))] rfl (by (try simp only [List.map_toArray, List.map_cons, List.map_nil]); first | done | rfl | (simp only [List.length_drop, List.length_take]; rfl)) ?_; (with_reducible refine (bailiwickref3_Pseudo.calls k2 a0 a1 17 (wrap64 (8 + (l2_3.length : Int))) t380 _ A36.out).mono ?_); rintro e w57 ⟨v381, rfl, ho0, hb⟩; refine ⟨_, rfl, ?_⟩; have n0_ := Aside0.mk (Kd.R_elder' (by (with_reducible repeat (first | apply Kd.R_alloc | apply Kd.R_drewN | apply Kd.R_drew)); exact HO_9.out) (Kd.R_base ho0) hb); have n1_ := Aside0.mk (Kd.R_lower (Kd.R_new' ho0 (Kd.R_lt (by (with_reducible repeat (first | apply Kd.R_alloc | apply Kd.R_drewN | apply Kd.R_drew)); exact HO_9.out))) (below_size (by repeat (first | (with_reducible first | exact HB.out | apply below_alloc | apply pw_below_drewN | apply below_drew1 | refine below_set ?_ GE358.out) | exact HB.out)))); have n2_ := Aside0.mk (blk_below (g := gb358) (o := .cells #[.int .i64 a2_0, .int .i64 a2_1, .bool false, .slice A2_3 l2_3.length c2_3] 47 (0, 0)) (by (with_reducible repeat (first | refine blk_drewN ?_ _ | refine blk_drew ?_ | refine blk_alloc ?_ _)); exact BK358.out) hb); have n3_ := Aside0.mk (below_step (by repeat (first | (with_reducible first | exact HB.out | apply below_alloc | apply pw_below_drewN | apply below_drew1 | refine below_set ?_ GE358.out) | exact HB.out)) hb); clear HO_9; clear BK358; clear HB; have HO_9 := n0_; have HO382 := n1_; have BK358 := n2_; have HB := n3_; clear n0_ n1_ n2_ n3_; (try clear hb); (try clear hb2); (try clear hk); (try clear hi); (try clear ho0); obtain ⟨Ao58, co58, eo58⟩ := Kd.R_slice HO382.out; subst eo58; obtain ⟨Ao59, co59, eo59⟩ := Kd.R_slice HO_9.out; subst eo59) | ((with_reducible refine gate_dst (N := 70) rfl ?_); refine Kd.N_lit (Kd.slice 5 (Kd.int .u8)) _ 22 ?hg (N' := 70) ?hd (xs := ([t380, x9_2] : List (List Int))) (inner := [.slice Ao58 t380.length co58, .slice Ao59 x9_2.length co59]) (ok := fun _ => True) (okp := fun _ => True) ?hr ?hp (fun _ _ => trivial) trivial (Below.refl _ _) (Nat.le_refl _) (by simp) ?_; (case hd => rfl); (case hg => rfl); (case hr => first | (go_simp; done) | (go_simp; rfl)); (case hp => exact (Reps.one (show Kd.FK (Kd.slice 5 (Kd.int .u8)) _ _ t380 [.slice Ao58 t380.length co58] from Kd.FK_slice_mk (by exact (Kd.R_reads' HO382.out).2.1) (Kd.F_mono (Kd.C_F (Kd.heap_int .u8) (by repeat (first | exact (Kd.R_reads' HO382.out).2.2 | (with_reducible refine Kd.C_alloc ?_ _) | (with_reducible refine Kd.C_drewN ?_ _) | (with_reducible refine Kd.C_drew ?_)))) (fun _ _ => trivial))) (Reps.one (show Kd.FK (Kd.slice 5 (Kd.int .u8)) _ _ x9_2 [.slice Ao59 x9_2.length co59] from Kd.FK_slice_mk (by exact (Kd.R_reads' HO_9.out).2.1) (Kd.F_mono (Kd.C_F (Kd.heap_int .u8) (by repeat (first | exact (Kd.R_reads' HO_9.out).2.2 | (with_reducible refine Kd.C_alloc ?_ _) | (with_reducible refine Kd.C_drewN ?_ _) | (with_reducible refine Kd.C_drew ?_)))) (fun _ _ => trivial))) (Reps.none _ _)))); intro vl386 w60 ho hb hg_ hnew_; clear hg_ hnew_; (first | rw [← Ny383.out] at ho | (simp only [Int.reduceToNat] at ho; rw [← Ny383.out] at ho)); obtain ⟨Al386, cl386, el386⟩ := Kd.N_slice ho; subst el386; have hr := (Kd.N_reads' ho).2.2; have hl := (Kd.N_reads' ho).2.1; clear ho; have n0_ := Aside0.mk (Kd.R_below (by (with_reducible repeat (first | apply Kd.R_alloc | apply Kd.R_drewN | apply Kd.R_drew)); exact HO_9.out) hb); have n1_ := Aside0.mk (Kd.R_below (by (with_reducible repeat (first | apply Kd.R_alloc | apply Kd.R_drewN | apply Kd.R_drew)); exact HO382.out) hb); have n2_ := Aside0.mk (blk_below (g := gb358) (o := .cells #[.int .i64 a2_0, .int .i64 a2_1, .bool false, .slice A2_3 l2_3.length c2_3] 47 (0, 0)) (by (with_reducible repeat (first | refine blk_drewN ?_ _ | refine blk_drew ?_ | refine blk_alloc ?_ _)); exact BK358.out) hb); have n3_ := Aside0.mk (below_step (by repeat (first | (with_reducible first | exact HB.out | apply below_alloc | apply pw_below_drewN | apply below_drew1 | refine below_set ?_ GE358.out) | exact HB.out)) hb); have n4_ := Aside0.mk (hr); have n5_ := Aside0.mk (hl); clear HO_9; clear HO382; clear BK358; clear HB; have HO_9 := n0_; have HO382 := n1_; have BK358 := n2_; have HB := n3_; have HRl386 := n4_; have HCl386 := n5_; clear n0_ n1_ n2_ n3_ n4_ n5_; clear hb hr hl; have n_ := Aside0.mk (Kd.R_mono (ok' := (fun k_ => some k_ ≠ (.slice Ao58 t380.length co58 : Value).ownBlock)) HO_9.out (fun k_ hk => hk.2)); clear HO_9; have HO_9 := n_; clear n_; have n_ := Aside0.mk (Kd.R_mono (ok' := (fun k_ => some k_ ≠ (.slice Ao59 x9_2.length co59 : Value).ownBlock)) HO382.out (fun k_ hk => hk.2)); clear HO382; have HO382 := n_; clear n_) | ((with_reducible refine gate_callee (f := 27) rfl ?_); refine goesL_ (some 71) rfl rfl Try.func27 (by kernel_rfl) rfl #[.slice Al386 y383.length cl386] rfl (by (try simp only [List.map_toArray, List.map_cons, List.map_nil]); first | done | rfl | (simp only [List.length_drop, List.length_take]; rfl)) ?_; (with_reducible refine (bailiwickref1_Sum.calls k2 _ _ y383 t387 _ ?side1 ?side2 A37.out).mono ?_); (case side1 => repeat (first | exact (by repeat (first | (with_reducible exact HRl386.out) | (with_reducible refine Kd.C_alloc ?_ _) | (with_reducible refine Kd.C_drewN ?_ _) | (with_reducible refine Kd.C_drew ?_) | exact HRl386.out)) | (with_reducible refine Kd.C_alloc ?_ _) | (with_reducible refine Kd.C_drewN ?_ _) | (with_reducible refine Kd.C_drew ?_))); (case side2 => exact HCl386.out); rintro e w' ⟨rfl, ⟨nd, rfl⟩⟩; refine ⟨_, rfl, ?_⟩; (try (rw [drewN_self w60]; generalize hq_ : World.drewN w60 _ = w60; have n0_ : Aside0 (Kd.R (Kd.int .u8) 5 w60 w.heap.size (fun k_ => some k_ ≠ (.slice Ao59 x9_2.length co59 : Value).ownBlock) (.slice Ao58 t380.length co58) t380) := ⟨by rw [← hq_]; exact (by (with_reducible repeat (first | apply Kd.R_alloc | apply Kd.R_drewN | apply Kd.R_drew)); exact HO382.out)⟩; have n1_ : Aside0 (Kd.R (Kd.int .u8) 5 w60 w.heap.size (fun k_ => some k_ ≠ (.slice Ao58 t380.length co58 : Value).ownBlock) (.slice Ao59 x9_2.length co59) x9_2) := ⟨by rw [← hq_]; exact (by (with_reducible repeat (first | apply Kd.R_alloc | apply Kd.R_drewN | apply Kd.R_drew)); exact HO_9.out)⟩; have n2_ : Aside0 (w60.heap[gb358]? = some (.cells #[.int .i64 a2_0, .int .i64 a2_1, .bool false, .slice A2_3 l2_3.length c2_3] 47 (0, 0))) := ⟨by rw [← hq_]; exact (by (with_reducible repeat (first | refine blk_drewN ?_ _ | refine blk_drew ?_ | refine blk_alloc ?_ _)); exact BK358.out)⟩; have n3_ : Aside0 (Below w.heap.size w w60) := ⟨by rw [← hq_]; exact (by repeat (first | (with_reducible first | exact HB.out | apply below_alloc | apply pw_below_drewN | apply below_drew1 | refine below_set ?_ GE358.out) | exact HB.out))⟩; have n4_ : Aside0 (Kd.C (Kd.slice 5 (Kd.int .u8)) w60 Al386 y383.length y383) := ⟨by rw [← hq_]; exact (by repeat (first | (with_reducible exact HRl386.out) | (with_reducible refine Kd.C_alloc ?_ _) | (with_reducible refine Kd.C_drewN ?_ _) | (with_reducible refine Kd.C_drew ?_) | exact HRl386.out))⟩; clear HO382 HO_9 BK358 HB HRl386 hq_; have HO382 := n0_; have HO_9 := n1_; have BK358 := n2_; have HB := n3_; have HRl386 := n4_; clear n0_ n1_ n2_ n3_ n4_)); have p53 : 0 ≤ (6 : Int) := (by omega); have q53 : (6 : Int) < ((x9_2.length : Int) : Int) := of_decide_eq_true (by first | (with_reducible assumption) | assumption); have qi53 : (6 < x9_2.length) = True := eq_true (by omega); obtain ⟨go53, co53, eo53, gb53, gl53, cl53, HG53⟩ := Kd.R_form HO_9.out (by omega); (first | cases eo53 | (injection eo53 with ea_ en_ ec_; (first | subst ea_ | (injection ea_ with ea_; subst ea_)); subst ec_; clear en_)); have GB53 := Aside0.mk gb53; have GG53 := Aside0.mk HG53; clear gb53 gl53 HG53; obtain ⟨hx53_0, hf53_0⟩ := Kd.R_celln 0 HO_9.out (6 : Int) p53 q53; (try rw [show ((6 : Int)).toNat = 6 from rfl] at hx53_0); (try simp only [Nat.reduceMul, Nat.zero_mul, Nat.zero_add, Nat.reduceAdd] at hx53_0); (try rw [show ((6 : Int)).toNat = 6 from rfl] at hf53_0); (try simp only [Nat.reduceMul, Nat.zero_mul, Nat.zero_add, Nat.reduceAdd] at hf53_0); replace p53 := eq_true p53; replace q53 := eq_true q53; obtain ⟨hy61_, hz61_⟩ := Kd.R_celln 0 HO_9.out (6 : Int) (by omega) (of_decide_eq_true (by first | (with_reducible assumption) | assumption)); (try simp only [Int.reduceToNat, Int.toNat_zero, Int.toNat_ofNat, Nat.reduceMul, Nat.zero_mul, Nat.zero_add] at hy61_ hz61_); (try rw [show ((6 : Int)).toNat = 6 from rfl] at hy61_); (try rw [show ((6 : Int)).toNat = 6 from rfl] at hz61_); have HP61 := Kd.R_putg HO_9.out (6 : Int) (((wrap64 (65535 - t387)) / 256) % 256)) | ((with_reducible refine gate_store (t := 5) (p := 79) rfl ?_); refine store_event (t := 5) (p := 79) (v := ?vo_w62) (w1 := (w60.setCell ⟨go53, (6 : Int).toNat, none⟩ (.int .u8 (((wrap64 (65535 - t387)) / 256) % 256)))) ?hg ?ho ?hn ?hr ?_; (case ho => rfl); (case hg => rfl); (case hn => rfl); (case hr => first | (go_simp; done) | (go_simp; rfl)); intro w62 hw; have hg : w60.grownBy w62 (some go53) := (by rw [hw]; exact HP61.2); have hp_ : Kd.R (Kd.int .u8) 5 w62 w.heap.size (fun k_ => some k_ ≠ (.slice Ao58 t380.length co58 : Value).ownBlock) (.slice (some ⟨go53, 0, none⟩) x9_2.length co59) y390 := (by rw [hw, Ny390.out]; exact HP61.1); clear HP61; have n0_ := Aside0.mk (hp_); have n1_ := Aside0.mk (blk_grown (g := gb358) (o := .cells #[.int .i64 a2_0, .int .i64 a2_1, .bool false, .slice A2_3 l2_3.length c2_3] 47 (0, 0)) (by (with_reducible repeat (first | refine blk_drewN ?_ _ | refine blk_drew ?_ | refine blk_alloc ?_ _)); exact BK358.out) hg (Kd.R_ne HO_9.out BK358.out (by decide))); have n2_ := Aside0.mk (Kd.R_after (v := (.slice (some ⟨go53, 0, none⟩) x9_2.length co59)) (v1 := (.slice (some ⟨go53, 0, none⟩) x9_2.length co59)) (ok := (fun _ => True)) (by (with_reducible repeat (first | apply Kd.R_alloc | apply Kd.R_drewN | apply Kd.R_drew)); exact Kd.R_mono HO382.out (fun _ hk => ⟨trivial, hk⟩)) hg (.inl rfl)); have n3_ := Aside0.mk ((by rw [hw]; exact below_set (HB.out) GB53.out : Below w.heap.size w w62)); clear HO_9; clear BK358; clear HO382; clear HB; have HO_9 := n0_; have BK358 := n1_; have HO382 := n2_; have HB := n3_; clear n0_ n1_ n2_ n3_; clear hg hw hp_; have p55 : 0 ≤ (7 : Int) := (by omega); have q55 : (7 : Int) < ((x9_2.length : Int) : Int) := of_decide_eq_true (by first | (with_reducible assumption) | assumption); have qi55 : (7 < x9_2.length) = True := eq_true (by omega); obtain ⟨hx55_0, hf55_0⟩ := Kd.R_celln 0 HO_9.out (7 : Int) p55 q55; (try rw [show ((7 : Int)).toNat = 7 from rfl] at hx55_0); (try simp only [Nat.reduceMul, Nat.zero_mul, Nat.zero_add, Nat.reduceAdd] at hx55_0); (try rw [show ((7 : Int)).toNat = 7 from rfl] at hf55_0); (try simp only [Nat.reduceMul, Nat.zero_mul, Nat.zero_add, Nat.reduceAdd] at hf55_0); replace p55 := eq_true p55; replace q55 := eq_true q55; obtain ⟨hy63_, hz63_⟩ := Kd.R_celln 0 HO_9.out (7 : Int) (by omega) (of_decide_eq_true (by first | (with_reducible assumption) | assumption)); (try simp only [Int.reduceToNat, Int.toNat_zero, Int.toNat_ofNat, Nat.reduceMul, Nat.zero_mul, Nat.zero_add] at hy63_ hz63_); (try rw [show ((7 : Int)).toNat = 7 from rfl] at hy63_); (try rw [show ((7 : Int)).toNat = 7 from rfl] at hz63_); have HP63 := Kd.R_putg HO_9.out (7 : Int) ((wrap64 (65535 - t387)) % 256)) | ((with_reducible refine gate_store (t := 5) (p := 83) rfl ?_); refine store_event (t := 5) (p := 83) (v := ?vo_w64) (w1 := (w62.setCell ⟨go53, (7 : Int).toNat, none⟩ (.int .u8 ((wrap64 (65535 - t387)) % 256)))) ?hg ?ho ?hn ?hr ?_; (case ho => rfl); (case hg => rfl); (case hn => rfl); (case hr => first | (go_simp; done) | (go_simp; rfl)); intro w64 hw; have hg : w62.grownBy w64 (some go53) := (by rw [hw]; exact HP63.2); have hp_ : Kd.R (Kd.int .u8) 5 w64 w.heap.size (fun k_ => some k_ ≠ (.slice Ao58 t380.length co58 : Value).ownBlock) (.slice (some ⟨go53, 0, none⟩) x9_2.length co59) y391 := (by rw [hw, Ny391.out]; exact HP63.1); clear HP63; have n0_ := Aside0.mk (hp_); have n1_ := Aside0.mk (blk_grown (g := gb358) (o := .cells #[.int .i64 a2_0, .int .i64 a2_1, .bool false, .slice A2_3 l2_3.length c2_3] 47 (0, 0)) (by (with_reducible repeat (first | refine blk_drewN ?_ _ | refine blk_drew ?_ | refine blk_alloc ?_ _)); exact BK358.out) hg (Kd.R_ne HO_9.out BK358.out (by decide))); have n2_ := Aside0.mk (Kd.R_after (v := (.slice (some ⟨go53, 0, none⟩) x9_2.length co59)) (v1 := (.slice (some ⟨go53, 0, none⟩) x9_2.length co59)) (ok := (fun _ => True)) (by (with_reducible repeat (first | apply Kd.R_alloc | apply Kd.R_drewN | apply Kd.R_drew)); exact HO382.out) hg (.inl rfl)); have n3_ := Aside0.mk ((by rw [hw]; exact below_set (HB.out) GB53.out : Below w.heap.size w w64)); clear HO_9; clear BK358; clear HO382; clear HB; have HO_9 := n0_; have BK358 := n1_; have HO382 := n2_; have HB := n3_; clear n0_ n1_ n2_ n3_; clear hg hw hp_))
                          go_ret2
                          exact ⟨_, by first | rfl | (simp [errW_none, errW_some] <;> rfl) | (simp [*, errW_none, errW_some] <;> rfl), by (with_reducible repeat (first | apply Kd.R_alloc | apply Kd.R_drewN | apply Kd.R_drew)); exact Kd.R_mono HO_9.out (fun _ hk => trivial), by repeat (first | (with_reducible first | exact HB.out | apply below_alloc | apply pw_below_drewN | apply below_drew1 | refine below_set ?_ GE358.out) | exact HB.out)⟩
                        · rw [if_neg c54] at H
                          exact absurd H (by simp)
                      · rw [if_neg c52] at H
                        exact absurd H (by simp)
          · rw [if_neg c17] at H
            exact absurd H (by simp)

/-! ### bailiwickref3_SameDatagram: function 44 -/
def bailiwickref3_SameDatagram.f (k : Nat) (a0_0 : Int) (a0_1 : Int) (a0_2 : Bool) (l0_3 : List Int) (a1_0 : Int) (a1_1 : Int) (a1_2 : Bool) (l1_3 : List Int) : Option (Bool) := if a0_0 = a1_0 then (if a0_1 = a1_1 then (if (a0_2 == a1_2) = true then ((bailiwickref1_Same.f k l0_3 l1_3).bind fun t443 => (some t443)) else (some false)) else (some false)) else (some false)
theorem bailiwickref3_SameDatagram.mono : ∀ a0 a1 a2 a3 a4 a5 a6 a7 k, LeO (bailiwickref3_SameDatagram.f k a0 a1 a2 a3 a4 a5 a6 a7) (bailiwickref3_SameDatagram.f (k + 1) a0 a1 a2 a3 a4 a5 a6 a7) := by
  intro a0 a1 a2 a3 a4 a5 a6 a7 k
  unfold bailiwickref3_SameDatagram.f
  repeat' first
      | (with_reducible exact bailiwickref1_Same.mono _ _ _)
      | (with_reducible exact LeO.refl _)
      | (with_reducible exact LeO.none _)
      | (with_reducible refine LeO.ite ?_ ?_)
      | (with_reducible refine LeO.bind ?_ (fun _ => ?_))
      | exact bailiwickref1_Same.mono _ _ _
      | exact LeO.none _
      | refine LeO.ite ?_ ?_
      | refine LeO.bind ?_ (fun _ => ?_)
set_option maxHeartbeats 8000000 in
set_option maxRecDepth 100000 in
theorem bailiwickref3_SameDatagram.calls (k : Nat) (a0_0 : Int) (a0_1 : Int) (a0_2 : Bool) (A0_3 : Option Addr) (c0_3 : Nat) (l0_3 : List Int) (a1_0 : Int) (a1_1 : Int) (a1_2 : Bool) (A1_3 : Option Addr) (c1_3 : Nat) (l1_3 : List Int) (r : Bool) (w : World) (hr0_3 : Kd.C (Kd.int .u8) w A0_3 l0_3.length l0_3) (hc0_3 : l0_3.length ≤ c0_3) (hr1_3 : Kd.C (Kd.int .u8) w A1_3 l1_3.length l1_3) (hc1_3 : l1_3.length ≤ c1_3) (h : bailiwickref3_SameDatagram.f k a0_0 a0_1 a0_2 l0_3 a1_0 a1_1 a1_2 l1_3 = some r) :
    Calls Try.prog 44 #[.agg #[.int .i64 a0_0, .int .i64 a0_1, .bool a0_2, .slice A0_3 l0_3.length c0_3], .agg #[.int .i64 a1_0, .int .i64 a1_1, .bool a1_2, .slice A1_3 l1_3.length c1_3]] w fun e w' => e = .returned (.bool r) ∧ Below w.heap.size w w' := by
  have hu47 := Try.underlying47
  have HR0_3 := Aside0.mk hr0_3
  have HC0_3 := Aside0.mk hc0_3
  clear hr0_3 hc0_3
  have HR1_3 := Aside0.mk hr1_3
  have HC1_3 := Aside0.mk hc1_3
  clear hr1_3 hc1_3
  have HB := Aside0.mk (Below.refl w.heap.size w)
  have H : (if a0_0 = a1_0 then (if a0_1 = a1_1 then (if (a0_2 == a1_2) = true then ((bailiwickref1_Same.f k l0_3 l1_3).bind fun t443 => (some t443)) else (some false)) else (some false)) else (some false)) = some r := h
  clear h
  by_cases c3 : a0_0 = a1_0
  · rw [if_pos c3] at H
    have c3b0 : (a0_0 == a1_0) = true := beq_iff_eq.mpr c3
    have c3b1 : (a0_0 != a1_0) = false := bne_eq_false_iff_eq.mpr c3
    clear c3
    by_cases c4 : a0_1 = a1_1
    · rw [if_pos c4] at H
      have c4b0 : (a0_1 == a1_1) = true := beq_iff_eq.mpr c4
      have c4b1 : (a0_1 != a1_1) = false := bne_eq_false_iff_eq.mpr c4
      clear c4
      by_cases c5 : (a0_2 == a1_2) = true
      · rw [if_pos c5] at H
        have c5b0 : (a0_2 == a1_2) = true := c5
        (try (have c5b1 : decide (a0_2 = a1_2) = true := by simpa using c5))
        (try (have c5b2 : (a0_2 == a1_2) = true := by simpa using c5))
        clear c5
        replace H := Option.bind_eq_some_iff.mp H
        obtain ⟨t443, A60, H⟩ := H
        replace H : (some t443) = some r := H
        have A6 := Aside0.mk A60
        clear A60
        obtain rfl := Option.some.inj H
        go_enter Try.func44, Try.ntmps44
        go_wp2_with (first | ((with_reducible refine gate_dst (N := 2) rfl ?_); refine box_event ?hg (N := 2) ?hd (cs := #[.int .i64 a0_0, .int .i64 a0_1, .bool a0_2, .slice A0_3 l0_3.length c0_3]) (t := 47) ?hr ?_; (case hd => rfl); (case hg => rfl); (case hr => first | (go_simp; done) | (go_simp; rfl)); intro gb441 hg w7 hbox hb; have n0_ := Aside0.mk (below_step (by repeat (first | (with_reducible first | exact HB.out | apply below_alloc | apply pw_below_drewN | apply below_drew1) | exact HB.out)) hb); have n1_ := Aside0.mk (hbox); have n2_ := Aside0.mk ((by rw [hg]; exact (below_size (by repeat (first | (with_reducible first | exact HB.out | apply below_alloc | apply pw_below_drewN | apply below_drew1) | exact HB.out))) : w.heap.size ≤ gb441)); have n3_ := Aside0.mk ((by rw [hg]; exact (below_size (by repeat (first | (with_reducible first | exact HB.out | apply below_alloc | apply pw_below_drewN | apply below_drew1) | exact HB.out))) : w.heap.size ≤ gb441)); clear HB; have HB := n0_; have BK441 := n1_; have GW441 := n2_; have GE441 := n3_; clear n0_ n1_ n2_ n3_; clear hb hbox hg) | ((with_reducible refine gate_dst (N := 3) rfl ?_); refine box_event ?hg (N := 3) ?hd (cs := #[.int .i64 a1_0, .int .i64 a1_1, .bool a1_2, .slice A1_3 l1_3.length c1_3]) (t := 47) ?hr ?_; (case hd => rfl); (case hg => rfl); (case hr => first | (go_simp; done) | (go_simp; rfl)); intro gb442 hg w8 hbox hb; have n0_ := Aside0.mk (blk_below (g := gb441) (o := .cells #[.int .i64 a0_0, .int .i64 a0_1, .bool a0_2, .slice A0_3 l0_3.length c0_3] 47 (0, 0)) (by (with_reducible repeat (first | refine blk_drewN ?_ _ | refine blk_drew ?_ | refine blk_alloc ?_ _)); exact BK441.out) hb); have n1_ := Aside0.mk (below_step (by repeat (first | (with_reducible first | exact HB.out | apply below_alloc | apply pw_below_drewN | apply below_drew1 | refine below_set ?_ GE441.out) | exact HB.out)) hb); have n2_ := Aside0.mk (hbox); have n3_ := Aside0.mk ((by rw [hg]; exact (below_size (by repeat (first | (with_reducible first | exact HB.out | apply below_alloc | apply pw_below_drewN | apply below_drew1 | refine below_set ?_ GE441.out) | exact HB.out))) : w.heap.size ≤ gb442)); have n4_ := Aside0.mk ((by rw [hg]; exact (below_size (by repeat (first | (with_reducible first | exact HB.out | apply below_alloc | apply pw_below_drewN | apply below_drew1 | refine below_set ?_ GE441.out) | exact HB.out))) : w.heap.size ≤ gb442)); have n5_ := Aside0.mk ((by rw [hg]; exact Nat.ne_of_lt (blk_lt (g := gb441) (o := .cells #[.int .i64 a0_0, .int .i64 a0_1, .bool a0_2, .slice A0_3 l0_3.length c0_3] 47 (0, 0)) (by (with_reducible repeat (first | refine blk_drewN ?_ _ | refine blk_drew ?_ | refine blk_alloc ?_ _)); exact BK441.out)) : gb441 ≠ gb442)); have n6_ := Aside0.mk ((by rw [hg]; exact Nat.ne_of_gt (blk_lt (g := gb441) (o := .cells #[.int .i64 a0_0, .int .i64 a0_1, .bool a0_2, .slice A0_3 l0_3.length c0_3] 47 (0, 0)) (by (with_reducible repeat (first | refine blk_drewN ?_ _ | refine blk_drew ?_ | refine blk_alloc ?_ _)); exact BK441.out)) : gb442 ≠ gb441)); clear BK441; clear HB; have BK441 := n0_; have HB := n1_; have BK442 := n2_; have GW442 := n3_; have GE442 := n4_; have NB441_442 := n5_; have NB442_441 := n6_; clear n0_ n1_ n2_ n3_ n4_ n5_ n6_; clear hb hbox hg; have hnb9 := NB441_442.out; have hnc9 := NB442_441.out; have hcz10_0 : w8.cell? ⟨gb441, 0, none⟩ = some (.int .i64 a0_0) := (blk_cell BK441.out 0).trans rfl; have hcz10_1 : w8.cell? ⟨gb441, 1, none⟩ = some (.int .i64 a0_1) := (blk_cell BK441.out 1).trans rfl; have hcz10_2 : w8.cell? ⟨gb441, 2, none⟩ = some (.bool a0_2) := (blk_cell BK441.out 2).trans rfl; have hcz10_3 : w8.cell? ⟨gb441, 3, none⟩ = some (.slice A0_3 l0_3.length c0_3) := (blk_cell BK441.out 3).trans rfl; have hfz10_0 := blk_frozen BK441.out 0; have hfz10_1 := blk_frozen BK441.out 1; have hfz10_2 := blk_frozen BK441.out 2; have hfz10_3 := blk_frozen BK441.out 3; have hcz11_0 : w8.cell? ⟨gb442, 0, none⟩ = some (.int .i64 a1_0) := (blk_cell BK442.out 0).trans rfl; have hcz11_1 : w8.cell? ⟨gb442, 1, none⟩ = some (.int .i64 a1_1) := (blk_cell BK442.out 1).trans rfl; have hcz11_2 : w8.cell? ⟨gb442, 2, none⟩ = some (.bool a1_2) := (blk_cell BK442.out 2).trans rfl; have hcz11_3 : w8.cell? ⟨gb442, 3, none⟩ = some (.slice A1_3 l1_3.length c1_3) := (blk_cell BK442.out 3).trans rfl; have hfz11_0 := blk_frozen BK442.out 0; have hfz11_1 := blk_frozen BK442.out 1; have hfz11_2 := blk_frozen BK442.out 2; have hfz11_3 := blk_frozen BK442.out 3) | (go_at_call 35; (with_reducible refine (bailiwickref1_Same.calls k _ _ l0_3 _ _ l1_3 t443 _ ?side1 ?side2 ?side3 ?side4 A6.out).mono ?_); (case side1 => repeat (first | exact (Kd.C_below HR0_3.out HB.out) | (with_reducible refine Kd.C_alloc ?_ _) | (with_reducible refine Kd.C_drewN ?_ _) | (with_reducible refine Kd.C_drew ?_))); (case side2 => exact HC0_3.out); (case side3 => repeat (first | exact (Kd.C_below HR1_3.out HB.out) | (with_reducible refine Kd.C_alloc ?_ _) | (with_reducible refine Kd.C_drewN ?_ _) | (with_reducible refine Kd.C_drew ?_))); (case side4 => exact HC1_3.out); rintro e w' ⟨rfl, ⟨nd, rfl⟩⟩))
        go_ret
        exact ⟨by first | rfl | (simp [errW_none, errW_some] <;> rfl) | (simp [*, errW_none, errW_some] <;> rfl), by repeat (first | (with_reducible first | exact HB.out | apply below_alloc | apply pw_below_drewN | apply below_drew1 | refine below_set ?_ GE441.out | refine below_set ?_ GE442.out) | exact HB.out)⟩
      · rw [if_neg c5] at H
        have c5b0 : (a0_2 == a1_2) = false := by simpa using c5
        (try (have c5b1 : decide (a0_2 = a1_2) = false := by simpa using c5))
        (try (have c5b2 : (a0_2 == a1_2) = false := by simpa using c5))
        (try (have c5b3 : ¬ (a0_2 = a1_2) := by simpa using c5))
        clear c5
        obtain rfl := Option.some.inj H
        go_enter Try.func44, Try.ntmps44
        go_wp2_with (first | ((with_reducible refine gate_dst (N := 2) rfl ?_); refine box_event ?hg (N := 2) ?hd (cs := #[.int .i64 a0_0, .int .i64 a0_1, .bool a0_2, .slice A0_3 l0_3.length c0_3]) (t := 47) ?hr ?_; (case hd => rfl); (case hg => rfl); (case hr => first | (go_simp; done) | (go_simp; rfl)); intro gb441 hg w12 hbox hb; have n0_ := Aside0.mk (below_step (by repeat (first | (with_reducible first | exact HB.out | apply below_alloc | apply pw_below_drewN | apply below_drew1) | exact HB.out)) hb); have n1_ := Aside0.mk (hbox); have n2_ := Aside0.mk ((by rw [hg]; exact (below_size (by repeat (first | (with_reducible first | exact HB.out | apply below_alloc | apply pw_below_drewN | apply below_drew1) | exact HB.out))) : w.heap.size ≤ gb441)); have n3_ := Aside0.mk ((by rw [hg]; exact (below_size (by repeat (first | (with_reducible first | exact HB.out | apply below_alloc | apply pw_below_drewN | apply below_drew1) | exact HB.out))) : w.heap.size ≤ gb441)); clear HB; have HB := n0_; have BK441 := n1_; have GW441 := n2_; have GE441 := n3_; clear n0_ n1_ n2_ n3_; clear hb hbox hg) | ((with_reducible refine gate_dst (N := 3) rfl ?_); refine box_event ?hg (N := 3) ?hd (cs := #[.int .i64 a1_0, .int .i64 a1_1, .bool a1_2, .slice A1_3 l1_3.length c1_3]) (t := 47) ?hr ?_; (case hd => rfl); (case hg => rfl); (case hr => first | (go_simp; done) | (go_simp; rfl)); intro gb442 hg w13 hbox hb; have n0_ := Aside0.mk (blk_below (g := gb441) (o := .cells #[.int .i64 a0_0, .int .i64 a0_1, .bool a0_2, .slice A0_3 l0_3.length c0_3] 47 (0, 0)) (by (with_reducible repeat (first | refine blk_drewN ?_ _ | refine blk_drew ?_ | refine blk_alloc ?_ _)); exact BK441.out) hb); have n1_ := Aside0.mk (below_step (by repeat (first | (with_reducible first | exact HB.out | apply below_alloc | apply pw_below_drewN | apply below_drew1 | refine below_set ?_ GE441.out) | exact HB.out)) hb); have n2_ := Aside0.mk (hbox); have n3_ := Aside0.mk ((by rw [hg]; exact (below_size (by repeat (first | (with_reducible first | exact HB.out | apply below_alloc | apply pw_below_drewN | apply below_drew1 | refine below_set ?_ GE441.out) | exact HB.out))) : w.heap.size ≤ gb442)); have n4_ := Aside0.mk ((by rw [hg]; exact (below_size (by repeat (first | (with_reducible first | exact HB.out | apply below_alloc | apply pw_below_drewN | apply below_drew1 | refine below_set ?_ GE441.out) | exact HB.out))) : w.heap.size ≤ gb442)); have n5_ := Aside0.mk ((by rw [hg]; exact Nat.ne_of_lt (blk_lt (g := gb441) (o := .cells #[.int .i64 a0_0, .int .i64 a0_1, .bool a0_2, .slice A0_3 l0_3.length c0_3] 47 (0, 0)) (by (with_reducible repeat (first | refine blk_drewN ?_ _ | refine blk_drew ?_ | refine blk_alloc ?_ _)); exact BK441.out)) : gb441 ≠ gb442)); have n6_ := Aside0.mk ((by rw [hg]; exact Nat.ne_of_gt (blk_lt (g := gb441) (o := .cells #[.int .i64 a0_0, .int .i64 a0_1, .bool a0_2, .slice A0_3 l0_3.length c0_3] 47 (0, 0)) (by (with_reducible repeat (first | refine blk_drewN ?_ _ | refine blk_drew ?_ | refine blk_alloc ?_ _)); exact BK441.out)) : gb442 ≠ gb441)); clear BK441; clear HB; have BK441 := n0_; have HB := n1_; have BK442 := n2_; have GW442 := n3_; have GE442 := n4_; have NB441_442 := n5_; have NB442_441 := n6_; clear n0_ n1_ n2_ n3_ n4_ n5_ n6_; clear hb hbox hg; have hnb14 := NB441_442.out; have hnc14 := NB442_441.out; have hcz15_0 : w13.cell? ⟨gb441, 0, none⟩ = some (.int .i64 a0_0) := (blk_cell BK441.out 0).trans rfl; have hcz15_1 : w13.cell? ⟨gb441, 1, none⟩ = some (.int .i64 a0_1) := (blk_cell BK441.out 1).trans rfl; have hcz15_2 : w13.cell? ⟨gb441, 2, none⟩ = some (.bool a0_2) := (blk_cell BK441.out 2).trans rfl; have hcz15_3 : w13.cell? ⟨gb441, 3, none⟩ = some (.slice A0_3 l0_3.length c0_3) := (blk_cell BK441.out 3).trans rfl; have hfz15_0 := blk_frozen BK441.out 0; have hfz15_1 := blk_frozen BK441.out 1; have hfz15_2 := blk_frozen BK441.out 2; have hfz15_3 := blk_frozen BK441.out 3; have hcz16_0 : w13.cell? ⟨gb442, 0, none⟩ = some (.int .i64 a1_0) := (blk_cell BK442.out 0).trans rfl; have hcz16_1 : w13.cell? ⟨gb442, 1, none⟩ = some (.int .i64 a1_1) := (blk_cell BK442.out 1).trans rfl; have hcz16_2 : w13.cell? ⟨gb442, 2, none⟩ = some (.bool a1_2) := (blk_cell BK442.out 2).trans rfl; have hcz16_3 : w13.cell? ⟨gb442, 3, none⟩ = some (.slice A1_3 l1_3.length c1_3) := (blk_cell BK442.out 3).trans rfl; have hfz16_0 := blk_frozen BK442.out 0; have hfz16_1 := blk_frozen BK442.out 1; have hfz16_2 := blk_frozen BK442.out 2; have hfz16_3 := blk_frozen BK442.out 3))
        go_ret
        exact ⟨by first | rfl | (simp [errW_none, errW_some] <;> rfl) | (simp [*, errW_none, errW_some] <;> rfl), by repeat (first | (with_reducible first | exact HB.out | apply below_alloc | apply pw_below_drewN | apply below_drew1 | refine below_set ?_ GE441.out | refine below_set ?_ GE442.out) | exact HB.out)⟩
    · rw [if_neg c4] at H
      have c4b0 : (a0_1 == a1_1) = false := beq_eq_false_iff_ne.mpr c4
      have c4b1 : (a0_1 != a1_1) = true := bne_iff_ne.mpr c4
      obtain rfl := Option.some.inj H
      go_enter Try.func44, Try.ntmps44
      go_wp2_with (first | ((with_reducible refine gate_dst (N := 2) rfl ?_); refine box_event ?hg (N := 2) ?hd (cs := #[.int .i64 a0_0, .int .i64 a0_1, .bool a0_2, .slice A0_3 l0_3.length c0_3]) (t := 47) ?hr ?_; (case hd => rfl); (case hg => rfl); (case hr => first | (go_simp; done) | (go_simp; rfl)); intro gb441 hg w17 hbox hb; have n0_ := Aside0.mk (below_step (by repeat (first | (with_reducible first | exact HB.out | apply below_alloc | apply pw_below_drewN | apply below_drew1) | exact HB.out)) hb); have n1_ := Aside0.mk (hbox); have n2_ := Aside0.mk ((by rw [hg]; exact (below_size (by repeat (first | (with_reducible first | exact HB.out | apply below_alloc | apply pw_below_drewN | apply below_drew1) | exact HB.out))) : w.heap.size ≤ gb441)); have n3_ := Aside0.mk ((by rw [hg]; exact (below_size (by repeat (first | (with_reducible first | exact HB.out | apply below_alloc | apply pw_below_drewN | apply below_drew1) | exact HB.out))) : w.heap.size ≤ gb441)); clear HB; have HB := n0_; have BK441 := n1_; have GW441 := n2_; have GE441 := n3_; clear n0_ n1_ n2_ n3_; clear hb hbox hg) | ((with_reducible refine gate_dst (N := 3) rfl ?_); refine box_event ?hg (N := 3) ?hd (cs := #[.int .i64 a1_0, .int .i64 a1_1, .bool a1_2, .slice A1_3 l1_3.length c1_3]) (t := 47) ?hr ?_; (case hd => rfl); (case hg => rfl); (case hr => first | (go_simp; done) | (go_simp; rfl)); intro gb442 hg w18 hbox hb; have n0_ := Aside0.mk (blk_below (g := gb441) (o := .cells #[.int .i64 a0_0, .int .i64 a0_1, .bool a0_2, .slice A0_3 l0_3.length c0_3] 47 (0, 0)) (by (with_reducible repeat (first | refine blk_drewN ?_ _ | refine blk_drew ?_ | refine blk_alloc ?_ _)); exact BK441.out) hb); have n1_ := Aside0.mk (below_step (by repeat (first | (with_reducible first | exact HB.out | apply below_alloc | apply pw_below_drewN | apply below_drew1 | refine below_set ?_ GE441.out) | exact HB.out)) hb); have n2_ := Aside0.mk (hbox); have n3_ := Aside0.mk ((by rw [hg]; exact (below_size (by repeat (first | (with_reducible first | exact HB.out | apply below_alloc | apply pw_below_drewN | apply below_drew1 | refine below_set ?_ GE441.out) | exact HB.out))) : w.heap.size ≤ gb442)); have n4_ := Aside0.mk ((by rw [hg]; exact (below_size (by repeat (first | (with_reducible first | exact HB.out | apply below_alloc | apply pw_below_drewN | apply below_drew1 | refine below_set ?_ GE441.out) | exact HB.out))) : w.heap.size ≤ gb442)); have n5_ := Aside0.mk ((by rw [hg]; exact Nat.ne_of_lt (blk_lt (g := gb441) (o := .cells #[.int .i64 a0_0, .int .i64 a0_1, .bool a0_2, .slice A0_3 l0_3.length c0_3] 47 (0, 0)) (by (with_reducible repeat (first | refine blk_drewN ?_ _ | refine blk_drew ?_ | refine blk_alloc ?_ _)); exact BK441.out)) : gb441 ≠ gb442)); have n6_ := Aside0.mk ((by rw [hg]; exact Nat.ne_of_gt (blk_lt (g := gb441) (o := .cells #[.int .i64 a0_0, .int .i64 a0_1, .bool a0_2, .slice A0_3 l0_3.length c0_3] 47 (0, 0)) (by (with_reducible repeat (first | refine blk_drewN ?_ _ | refine blk_drew ?_ | refine blk_alloc ?_ _)); exact BK441.out)) : gb442 ≠ gb441)); clear BK441; clear HB; have BK441 := n0_; have HB := n1_; have BK442 := n2_; have GW442 := n3_; have GE442 := n4_; have NB441_442 := n5_; have NB442_441 := n6_; clear n0_ n1_ n2_ n3_ n4_ n5_ n6_; clear hb hbox hg; have hnb19 := NB441_442.out; have hnc19 := NB442_441.out; have hcz20_0 : w18.cell? ⟨gb441, 0, none⟩ = some (.int .i64 a0_0) := (blk_cell BK441.out 0).trans rfl; have hcz20_1 : w18.cell? ⟨gb441, 1, none⟩ = some (.int .i64 a0_1) := (blk_cell BK441.out 1).trans rfl; have hcz20_2 : w18.cell? ⟨gb441, 2, none⟩ = some (.bool a0_2) := (blk_cell BK441.out 2).trans rfl; have hcz20_3 : w18.cell? ⟨gb441, 3, none⟩ = some (.slice A0_3 l0_3.length c0_3) := (blk_cell BK441.out 3).trans rfl; have hfz20_0 := blk_frozen BK441.out 0; have hfz20_1 := blk_frozen BK441.out 1; have hfz20_2 := blk_frozen BK441.out 2; have hfz20_3 := blk_frozen BK441.out 3; have hcz21_0 : w18.cell? ⟨gb442, 0, none⟩ = some (.int .i64 a1_0) := (blk_cell BK442.out 0).trans rfl; have hcz21_1 : w18.cell? ⟨gb442, 1, none⟩ = some (.int .i64 a1_1) := (blk_cell BK442.out 1).trans rfl; have hcz21_2 : w18.cell? ⟨gb442, 2, none⟩ = some (.bool a1_2) := (blk_cell BK442.out 2).trans rfl; have hcz21_3 : w18.cell? ⟨gb442, 3, none⟩ = some (.slice A1_3 l1_3.length c1_3) := (blk_cell BK442.out 3).trans rfl; have hfz21_0 := blk_frozen BK442.out 0; have hfz21_1 := blk_frozen BK442.out 1; have hfz21_2 := blk_frozen BK442.out 2; have hfz21_3 := blk_frozen BK442.out 3))
      go_ret
      exact ⟨by first | rfl | (simp [errW_none, errW_some] <;> rfl) | (simp [*, errW_none, errW_some] <;> rfl), by repeat (first | (with_reducible first | exact HB.out | apply below_alloc | apply pw_below_drewN | apply below_drew1 | refine below_set ?_ GE441.out | refine below_set ?_ GE442.out) | exact HB.out)⟩
  · rw [if_neg c3] at H
    have c3b0 : (a0_0 == a1_0) = false := beq_eq_false_iff_ne.mpr c3
    have c3b1 : (a0_0 != a1_0) = true := bne_iff_ne.mpr c3
    obtain rfl := Option.some.inj H
    go_enter Try.func44, Try.ntmps44
    go_wp2_with (first | ((with_reducible refine gate_dst (N := 2) rfl ?_); refine box_event ?hg (N := 2) ?hd (cs := #[.int .i64 a0_0, .int .i64 a0_1, .bool a0_2, .slice A0_3 l0_3.length c0_3]) (t := 47) ?hr ?_; (case hd => rfl); (case hg => rfl); (case hr => first | (go_simp; done) | (go_simp; rfl)); intro gb441 hg w22 hbox hb; have n0_ := Aside0.mk (below_step (by repeat (first | (with_reducible first | exact HB.out | apply below_alloc | apply pw_below_drewN | apply below_drew1) | exact HB.out)) hb); have n1_ := Aside0.mk (hbox); have n2_ := Aside0.mk ((by rw [hg]; exact (below_size (by repeat (first | (with_reducible first | exact HB.out | apply below_alloc | apply pw_below_drewN | apply below_drew1) | exact HB.out))) : w.heap.size ≤ gb441)); have n3_ := Aside0.mk ((by rw [hg]; exact (below_size (by repeat (first | (with_reducible first | exact HB.out | apply below_alloc | apply pw_below_drewN | apply below_drew1) | exact HB.out))) : w.heap.size ≤ gb441)); clear HB; have HB := n0_; have BK441 := n1_; have GW441 := n2_; have GE441 := n3_; clear n0_ n1_ n2_ n3_; clear hb hbox hg) | ((with_reducible refine gate_dst (N := 3) rfl ?_); refine box_event ?hg (N := 3) ?hd (cs := #[.int .i64 a1_0, .int .i64 a1_1, .bool a1_2, .slice A1_3 l1_3.length c1_3]) (t := 47) ?hr ?_; (case hd => rfl); (case hg => rfl); (case hr => first | (go_simp; done) | (go_simp; rfl)); intro gb442 hg w23 hbox hb; have n0_ := Aside0.mk (blk_below (g := gb441) (o := .cells #[.int .i64 a0_0, .int .i64 a0_1, .bool a0_2, .slice A0_3 l0_3.length c0_3] 47 (0, 0)) (by (with_reducible repeat (first | refine blk_drewN ?_ _ | refine blk_drew ?_ | refine blk_alloc ?_ _)); exact BK441.out) hb); have n1_ := Aside0.mk (below_step (by repeat (first | (with_reducible first | exact HB.out | apply below_alloc | apply pw_below_drewN | apply below_drew1 | refine below_set ?_ GE441.out) | exact HB.out)) hb); have n2_ := Aside0.mk (hbox); have n3_ := Aside0.mk ((by rw [hg]; exact (below_size (by repeat (first | (with_reducible first | exact HB.out | apply below_alloc | apply pw_below_drewN | apply below_drew1 | refine below_set ?_ GE441.out) | exact HB.out))) : w.heap.size ≤ gb442)); have n4_ := Aside0.mk ((by rw [hg]; exact (below_size (by repeat (first | (with_reducible first | exact HB.out | apply below_alloc | apply pw_below_drewN | apply below_drew1 | refine below_set ?_ GE441.out) | exact HB.out))) : w.heap.size ≤ gb442)); have n5_ := Aside0.mk ((by rw [hg]; exact Nat.ne_of_lt (blk_lt (g := gb441) (o := .cells #[.int .i64 a0_0, .int .i64 a0_1, .bool a0_2, .slice A0_3 l0_3.length c0_3] 47 (0, 0)) (by (with_reducible repeat (first | refine blk_drewN ?_ _ | refine blk_drew ?_ | refine blk_alloc ?_ _)); exact BK441.out)) : gb441 ≠ gb442)); have n6_ := Aside0.mk ((by rw [hg]; exact Nat.ne_of_gt (blk_lt (g := gb441) (o := .cells #[.int .i64 a0_0, .int .i64 a0_1, .bool a0_2, .slice A0_3 l0_3.length c0_3] 47 (0, 0)) (by (with_reducible repeat (first | refine blk_drewN ?_ _ | refine blk_drew ?_ | refine blk_alloc ?_ _)); exact BK441.out)) : gb442 ≠ gb441)); clear BK441; clear HB; have BK441 := n0_; have HB := n1_; have BK442 := n2_; have GW442 := n3_; have GE442 := n4_; have NB441_442 := n5_; have NB442_441 := n6_; clear n0_ n1_ n2_ n3_ n4_ n5_ n6_; clear hb hbox hg; have hnb24 := NB441_442.out; have hnc24 := NB442_441.out; have hcz25_0 : w23.cell? ⟨gb441, 0, none⟩ = some (.int .i64 a0_0) := (blk_cell BK441.out 0).trans rfl; have hcz25_1 : w23.cell? ⟨gb441, 1, none⟩ = some (.int .i64 a0_1) := (blk_cell BK441.out 1).trans rfl; have hcz25_2 : w23.cell? ⟨gb441, 2, none⟩ = some (.bool a0_2) := (blk_cell BK441.out 2).trans rfl; have hcz25_3 : w23.cell? ⟨gb441, 3, none⟩ = some (.slice A0_3 l0_3.length c0_3) := (blk_cell BK441.out 3).trans rfl; have hfz25_0 := blk_frozen BK441.out 0; have hfz25_1 := blk_frozen BK441.out 1; have hfz25_2 := blk_frozen BK441.out 2; have hfz25_3 := blk_frozen BK441.out 3; have hcz26_0 : w23.cell? ⟨gb442, 0, none⟩ = some (.int .i64 a1_0) := (blk_cell BK442.out 0).trans rfl; have hcz26_1 : w23.cell? ⟨gb442, 1, none⟩ = some (.int .i64 a1_1) := (blk_cell BK442.out 1).trans rfl; have hcz26_2 : w23.cell? ⟨gb442, 2, none⟩ = some (.bool a1_2) := (blk_cell BK442.out 2).trans rfl; have hcz26_3 : w23.cell? ⟨gb442, 3, none⟩ = some (.slice A1_3 l1_3.length c1_3) := (blk_cell BK442.out 3).trans rfl; have hfz26_0 := blk_frozen BK442.out 0; have hfz26_1 := blk_frozen BK442.out 1; have hfz26_2 := blk_frozen BK442.out 2; have hfz26_3 := blk_frozen BK442.out 3))
    go_ret
    exact ⟨by first | rfl | (simp [errW_none, errW_some] <;> rfl) | (simp [*, errW_none, errW_some] <;> rfl), by repeat (first | (with_reducible first | exact HB.out | apply below_alloc | apply pw_below_drewN | apply below_drew1 | refine below_set ?_ GE441.out | refine below_set ?_ GE442.out) | exact HB.out)⟩

/-! ### bailiwickref3_word: function 65 -/
def bailiwickref3_word.f (l0 : List Int) (a1 : Int) : Option (Int) := if 0 ≤ a1 then (if a1 < (l0.length : Int) then (if 0 ≤ (wrap64 (a1 + 1)) then (if (wrap64 (a1 + 1)) < (l0.length : Int) then (some (Go.bits .or .i64 (wrap64 ((wrap64 (rd l0 a1)) * 256)) (wrap64 (rd l0 (wrap64 (a1 + 1)))))) else (none)) else (none)) else (none)) else (none)
set_option maxHeartbeats 8000000 in
set_option maxRecDepth 100000 in
theorem bailiwickref3_word.calls (A0 : Option Addr) (c0 : Nat) (l0 : List Int) (a1 : Int) (r : Int) (w : World) (hr0 : Kd.C (Kd.int .u8) w A0 l0.length l0) (hc0 : l0.length ≤ c0) (h : bailiwickref3_word.f l0 a1 = some r) :
    Calls Try.prog 65 #[.slice A0 l0.length c0, .int .i64 a1] w fun e w' => e = .returned (.int .i64 r) ∧ Drawn0 w w' := by
  have HR0 := Aside0.mk hr0
  have HC0 := Aside0.mk hc0
  clear hr0 hc0
  have H : (if 0 ≤ a1 then (if a1 < (l0.length : Int) then (if 0 ≤ (wrap64 (a1 + 1)) then (if (wrap64 (a1 + 1)) < (l0.length : Int) then (some (Go.bits .or .i64 (wrap64 ((wrap64 (rd l0 a1)) * 256)) (wrap64 (rd l0 (wrap64 (a1 + 1)))))) else (none)) else (none)) else (none)) else (none)) = some r := h
  clear h
  by_cases c3 : 0 ≤ a1
  · rw [if_pos c3] at H
    have c3b0 : decide (0 ≤ a1) = true := decide_eq_true c3
    clear c3
    by_cases c4 : a1 < (l0.length : Int)
    · rw [if_pos c4] at H
      have c4b0 : decide (a1 < (l0.length : Int)) = true := decide_eq_true c4
      clear c4
      obtain ⟨ji5, hji5⟩ : ∃ j_ : Int, (wrap64 (a1 + 1)) = j_ := ⟨_, rfl⟩
      replace H : (if 0 ≤ (ji5) then (if (ji5) < (l0.length : Int) then (some (Go.bits .or .i64 (wrap64 ((wrap64 (rd l0 a1)) * 256)) (wrap64 (rd l0 (ji5))))) else (none)) else (none)) = some r := by first | (rw [hji5] at H; exact H) | (simp only [hji5] at H ⊢; exact H)
      have hji5w : (IntKind.i64.wrap (a1 + 1)) = ji5 := (i64_w _).trans hji5
      by_cases c6 : 0 ≤ (ji5)
      · rw [if_pos c6] at H
        have c6b0 : decide (0 ≤ (ji5)) = true := decide_eq_true c6
        clear c6
        by_cases c7 : (ji5) < (l0.length : Int)
        · rw [if_pos c7] at H
          have c7b0 : decide ((ji5) < (l0.length : Int)) = true := decide_eq_true c7
          clear c7
          obtain rfl := Option.some.inj H
          have p484 : 0 ≤ (a1 : Int) := of_decide_eq_true (by first | (with_reducible assumption) | assumption)
          have q484 : a1 < (l0.length : Int) := of_decide_eq_true (by first | (with_reducible assumption) | assumption)
          obtain ⟨ad484, e484, hx484_0⟩ := Kd.at_int HR0.out a1 p484 q484
          cases e484
          replace p484 := eq_true p484
          replace q484 := eq_true q484
          have p485 : 0 ≤ ((ji5) : Int) := of_decide_eq_true (by first | (with_reducible assumption) | assumption)
          have q485 : (ji5) < (l0.length : Int) := of_decide_eq_true (by first | (with_reducible assumption) | assumption)
          obtain ⟨ad485, e485, hx485_0⟩ := Kd.at_int HR0.out (ji5) p485 q485
          obtain rfl : ad484 = ad485 := (by injection e485)
          replace p485 := eq_true p485
          replace q485 := eq_true q485
          go_enter Try.func65, Try.ntmps65
          go_wp2
          repeat (go_quiet (fail); try go_wp2)
          go_ret
          exact ⟨by first | rfl | (simp; done) | (simp only [← hji5] <;> (first | rfl | simp)) | (simp [*]; done), by repeat (first | exact Drawn0.refl _ | apply Drawn0.step)⟩
        · rw [if_neg c7] at H
          exact absurd H (by simp)
      · rw [if_neg c6] at H
        exact absurd H (by simp)
    · rw [if_neg c4] at H
      exact absurd H (by simp)
  · rw [if_neg c3] at H
    exact absurd H (by simp)

/-! ### bailiwickref3_Datagram: function 45 -/
def bailiwickref3_Datagram.f (k : Nat) (a0 : Int) (a1 : Int) (l2 : List Int) : Option (Int × Int × Bool × List Int × Int) := if (l2.length : Int) < 8 then (some (0, 0, false, ([] : List Int), 2)) else ((bailiwickref3_word.f l2 4).bind fun t491 => (if t491 < 8 then (some (0, 0, false, ([] : List Int), 4)) else (if t491 > (l2.length : Int) then (some (0, 0, false, ([] : List Int), 2)) else ((bailiwickref3_word.f l2 6).bind fun t492 => (if t492 = 0 then ((bailiwickref3_word.f l2 0).bind fun t493 => ((bailiwickref3_word.f l2 2).bind fun t494 => ((bailiwickref1_Part.f k l2 8 t491).bind fun t495 => (some (t493, t494, true, t495, 0))))) else ((bailiwickref3_Pseudo.f k a0 a1 17 t491).bind fun t498 => (if 0 ≤ t491 then (if t491 ≤ (l2.length : Int) then ((bailiwickref1_Sum.f k (([t498, l2.take (t491 : Int).toNat] : List (List Int)))).bind fun t506 => (if t506 = 65535 then ((bailiwickref3_word.f l2 0).bind fun t507 => ((bailiwickref3_word.f l2 2).bind fun t508 => ((bailiwickref1_Part.f k l2 8 t491).bind fun t509 => (some (t507, t508, false, t509, 0))))) else (some (0, 0, false, ([] : List Int), 5)))) else (none)) else (none))))))))
theorem bailiwickref3_Datagram.mono : ∀ a0 a1 a2 k, LeO (bailiwickref3_Datagram.f k a0 a1 a2) (bailiwickref3_Datagram.f (k + 1) a0 a1 a2) := by
  intro a0 a1 a2 k
  unfold bailiwickref3_Datagram.f
  repeat' first
      | (with_reducible exact bailiwickref1_Part.mono _ _ _ _)
      | (with_reducible exact bailiwickref1_Sum.mono _ _)
      | (with_reducible exact bailiwickref3_Pseudo.mono _ _ _ _ _)
      | (with_reducible exact LeO.refl _)
      | (with_reducible exact LeO.none _)
      | (with_reducible refine LeO.ite ?_ ?_)
      | (with_reducible refine LeO.bind ?_ (fun _ => ?_))
      | exact bailiwickref1_Part.mono _ _ _ _
      | exact bailiwickref1_Sum.mono _ _
      | exact bailiwickref3_Pseudo.mono _ _ _ _ _
      | exact LeO.none _
      | refine LeO.ite ?_ ?_
      | refine LeO.bind ?_ (fun _ => ?_)
def bailiwickref3_Datagram.T9 : Bool × List (List Nat × List Nat) := (true, [([], []), ([0], [0]), ([1], [1]), ([2], [2]), ([2], [2]), ([2], [2]), ([3, 4, 5, 2, 2], [2, 3, 4, 5]), ([2], [2]), ([2], [2]), ([7, 8, 2], [2, 7, 8]), ([6, 9, 2], [2, 6, 9]), ([10, 6, 2], [2, 10]), ([11, 2], [2, 11]), ([2, 12], [2, 12])])
def bailiwickref3_Datagram.B9 : List Nat := [0, 1, 3, 7, 7, 7, 63, 7, 7, 391, 1023, 2047, 4095, 8191]
theorem bailiwickref3_Datagram.tab9 : rtab .any (opsOf Try.f45 9) = bailiwickref3_Datagram.T9 := by kernel_rfl
theorem bailiwickref3_Datagram.bits9 : waitsOk bailiwickref3_Datagram.T9.2 bailiwickref3_Datagram.B9 = true := by kernel_rfl
set_option maxHeartbeats 8000000 in
set_option maxRecDepth 100000 in
theorem bailiwickref3_Datagram.calls (k : Nat) (a0 : Int) (a1 : Int) (A2 : Option Addr) (c2 : Nat) (l2 : List Int) (r1 : Int) (r2 : Int) (r3 : Bool) (r4 : List Int) (r5 : Int) (w : World) (hr2 : Kd.C (Kd.int .u8) w A2 l2.length l2) (hc2 : l2.length ≤ c2) (h : bailiwickref3_Datagram.f k a0 a1 l2 = some (r1, r2, r3, r4, r5)) :
    Calls Try.prog 45 #[.int .u32 a0, .int .u32 a1, .slice A2 l2.length c2] w fun e w' => ∃ v3_ : Value, e = .returned (.tuple #[.agg #[.int .i64 r1, .int .i64 r2, .bool r3, v3_], .int .i64 r5]) ∧ Kd.R (Kd.int .u8) 5 w' w.heap.size (fun _ => True) v3_ r4 ∧ Below w.heap.size w w' := by
  have hu47 := Try.underlying47
  have HR2 := Aside0.mk hr2
  have HC2 := Aside0.mk hc2
  clear hr2 hc2
  have HB := Aside0.mk (Below.refl w.heap.size w)
  have H : (if (l2.length : Int) < 8 then (some (0, 0, false, ([] : List Int), 2)) else ((bailiwickref3_word.f l2 4).bind fun t491 => (if t491 < 8 then (some (0, 0, false, ([] : List Int), 4)) else (if t491 > (l2.length : Int) then (some (0, 0, false, ([] : List Int), 2)) else ((bailiwickref3_word.f l2 6).bind fun t492 => (if t492 = 0 then ((bailiwickref3_word.f l2 0).bind fun t493 => ((bailiwickref3_word.f l2 2).bind fun t494 => ((bailiwickref1_Part.f k l2 8 t491).bind fun t495 => (some (t493, t494, true, t495, 0))))) else ((bailiwickref3_Pseudo.f k a0 a1 17 t491).bind fun t498 => (if 0 ≤ t491 then (if t491 ≤ (l2.length : Int) then ((bailiwickref1_Sum.f k (([t498, l2.take (t491 : Int).toNat] : List (List Int)))).bind fun t506 => (if t506 = 65535 then ((bailiwickref3_word.f l2 0).bind fun t507 => ((bailiwickref3_word.f l2 2).bind fun t508 => ((bailiwickref1_Part.f k l2 8 t491).bind fun t509 => (some (t507, t508, false, t509, 0))))) else (some (0, 0, false, ([] : List Int), 5)))) else (none)) else (none))))))))) = some (r1, r2, r3, r4, r5) := h
  clear h
  by_cases c4 : (l2.length : Int) < 8
  · rw [if_pos c4] at H
    have c4b0 : decide ((l2.length : Int) < 8) = true := decide_eq_true c4
    have c4b1 : decide (l2.length < 8) = true := decide_eq_true (by omega)
    clear c4
    simp only [Option.some.injEq, Prod.mk.injEq] at H
    obtain ⟨rfl, rfl, rfl, rfl, rfl⟩ := H
    go_enter Try.func45, Try.ntmps45
    go_wp2_with (first | ((with_reducible refine gate_dst (N := 6) rfl ?_); (try (refine gate_guard (by rfl) ?_; dsimp only)); refine box_event ?hg (N := 6) ?hd (cs := #[.int .i64 0, .int .i64 0, .bool false, .slice none 0 0]) (t := 47) ?hr ?_; (case hd => rfl); (case hg => rfl); (case hr => first | (go_simp; done) | (go_simp; rfl)); intro gb490 hg w5 hbox hb; have n0_ := Aside0.mk (below_step (by repeat (first | (with_reducible first | exact HB.out | apply below_alloc | apply pw_below_drewN | apply below_drew1) | exact HB.out)) hb); have n1_ := Aside0.mk (hbox); have n2_ := Aside0.mk ((by rw [hg]; exact (below_size (by repeat (first | (with_reducible first | exact HB.out | apply below_alloc | apply pw_below_drewN | apply below_drew1) | exact HB.out))) : w.heap.size ≤ gb490)); have n3_ := Aside0.mk ((by rw [hg]; exact (below_size (by repeat (first | (with_reducible first | exact HB.out | apply below_alloc | apply pw_below_drewN | apply below_drew1) | exact HB.out))) : w.heap.size ≤ gb490)); clear HB; have HB := n0_; have BK490 := n1_; have GW490 := n2_; have GE490 := n3_; clear n0_ n1_ n2_ n3_; clear hb hbox hg; have hcz6_0 : w5.cell? ⟨gb490, 0, none⟩ = some (.int .i64 0) := (blk_cell BK490.out 0).trans rfl; have hcz6_1 : w5.cell? ⟨gb490, 1, none⟩ = some (.int .i64 0) := (blk_cell BK490.out 1).trans rfl; have hcz6_2 : w5.cell? ⟨gb490, 2, none⟩ = some (.bool false) := (blk_cell BK490.out 2).trans rfl; have hcz6_3 : w5.cell? ⟨gb490, 3, none⟩ = some (.slice none 0 0) := (blk_cell BK490.out 3).trans rfl; have hfz6_0 := blk_frozen BK490.out 0; have hfz6_1 := blk_frozen BK490.out 1; have hfz6_2 := blk_frozen BK490.out 2; have hfz6_3 := blk_frozen BK490.out 3))
    refine bodyPost_ret (results_ct rfl _ _ gb490 47 #[.int .i64 0, .int .i64 0, .bool false, .slice none 0 0] (0, 0) _ rfl (by (with_reducible repeat (first | refine blk_drewN ?_ _ | refine blk_drew ?_ | refine blk_alloc ?_ _)); refine blk_put (cs := #[.int .i64 0, .int .i64 0, .bool false, .slice none 0 0]) ?_ 3 _ rfl; (with_reducible repeat (first | refine blk_drewN ?_ _ | refine blk_drew ?_ | refine blk_alloc ?_ _)); refine blk_put (cs := #[.int .i64 0, .int .i64 0, .bool false, .slice none 0 0]) ?_ 2 _ rfl; (with_reducible repeat (first | refine blk_drewN ?_ _ | refine blk_drew ?_ | refine blk_alloc ?_ _)); refine blk_put (cs := #[.int .i64 0, .int .i64 0, .bool false, .slice none 0 0]) ?_ 1 _ rfl; (with_reducible repeat (first | refine blk_drewN ?_ _ | refine blk_drew ?_ | refine blk_alloc ?_ _)); refine blk_put (cs := #[.int .i64 0, .int .i64 0, .bool false, .slice none 0 0]) ?_ 0 _ rfl; (with_reducible repeat (first | refine blk_drewN ?_ _ | refine blk_drew ?_ | refine blk_alloc ?_ _)); exact BK490.out) Try.underlying47 rfl (by kernel_rfl)) rfl ?_
    exact ⟨_, by first | rfl | (simp [errW_none, errW_some] <;> rfl) | (simp [*, errW_none, errW_some] <;> rfl), by first | exact Kd.R_nil _ _ _ _ _ | exact Kd.N_nil _ _ _ _ _ | exact Kd.V_nil _ _ _ _ _ | exact Kd.Q_nil _ _ _ _ _ | exact Kd.S_nil _ _ _ _ _, by repeat (first | (with_reducible first | exact HB.out | apply below_alloc | apply pw_below_drewN | apply below_drew1 | refine below_set ?_ GE490.out) | exact HB.out)⟩
  · rw [if_neg c4] at H
    have c4b0 : decide ((l2.length : Int) < 8) = false := decide_eq_false c4
    have c4b1 : decide (l2.length < 8) = false := decide_eq_false (by omega)
    clear c4
    replace H := Option.bind_eq_some_iff.mp H
    obtain ⟨t491, A70, H⟩ := H
    replace H : (if t491 < 8 then (some (0, 0, false, ([] : List Int), 4)) else (if t491 > (l2.length : Int) then (some (0, 0, false, ([] : List Int), 2)) else ((bailiwickref3_word.f l2 6).bind fun t492 => (if t492 = 0 then ((bailiwickref3_word.f l2 0).bind fun t493 => ((bailiwickref3_word.f l2 2).bind fun t494 => ((bailiwickref1_Part.f k l2 8 t491).bind fun t495 => (some (t493, t494, true, t495, 0))))) else ((bailiwickref3_Pseudo.f k a0 a1 17 t491).bind fun t498 => (if 0 ≤ t491 then (if t491 ≤ (l2.length : Int) then ((bailiwickref1_Sum.f k (([t498, l2.take (t491 : Int).toNat] : List (List Int)))).bind fun t506 => (if t506 = 65535 then ((bailiwickref3_word.f l2 0).bind fun t507 => ((bailiwickref3_word.f l2 2).bind fun t508 => ((bailiwickref1_Part.f k l2 8 t491).bind fun t509 => (some (t507, t508, false, t509, 0))))) else (some (0, 0, false, ([] : List Int), 5)))) else (none)) else (none))))))) = some (r1, r2, r3, r4, r5) := H
    have A7 := Aside0.mk A70
    clear A70
    by_cases c8 : t491 < 8
    · rw [if_pos c8] at H
      have c8b0 : decide (t491 < 8) = true := decide_eq_true c8
      clear c8
      simp only [Option.some.injEq, Prod.mk.injEq] at H
      obtain ⟨rfl, rfl, rfl, rfl, rfl⟩ := H
      go_enter Try.func45, Try.ntmps45
      go_wp2_with (first | ((with_reducible refine gate_dst (N := 6) rfl ?_); (try (refine gate_guard (by rfl) ?_; dsimp only)); refine box_event ?hg (N := 6) ?hd (cs := #[.int .i64 0, .int .i64 0, .bool false, .slice none 0 0]) (t := 47) ?hr ?_; (case hd => rfl); (case hg => rfl); (case hr => first | (go_simp; done) | (go_simp; rfl)); intro gb490 hg w9 hbox hb; have n0_ := Aside0.mk (below_step (by repeat (first | (with_reducible first | exact HB.out | apply below_alloc | apply pw_below_drewN | apply below_drew1) | exact HB.out)) hb); have n1_ := Aside0.mk (hbox); have n2_ := Aside0.mk ((by rw [hg]; exact (below_size (by repeat (first | (with_reducible first | exact HB.out | apply below_alloc | apply pw_below_drewN | apply below_drew1) | exact HB.out))) : w.heap.size ≤ gb490)); have n3_ := Aside0.mk ((by rw [hg]; exact (below_size (by repeat (first | (with_reducible first | exact HB.out | apply below_alloc | apply pw_below_drewN | apply below_drew1) | exact HB.out))) : w.heap.size ≤ gb490)); clear HB; have HB := n0_; have BK490 := n1_; have GW490 := n2_; have GE490 := n3_; clear n0_ n1_ n2_ n3_; clear hb hbox hg) | ((with_reducible refine gate_callee (f := 65) rfl ?_); refine goesL_ (some 15) rfl rfl Try.func65 (by kernel_rfl) rfl #[.slice A2 l2.length c2, .int .i64 4] rfl (by (try simp only [List.map_toArray, List.map_cons, List.map_nil]); first | done | rfl | (simp only [List.length_drop, List.length_take]; rfl)) ?_; (with_reducible refine (bailiwickref3_word.calls _ _ l2 4 t491 _ ?side1 ?side2 A7.out).mono ?_); (case side1 => repeat (first | exact (Kd.C_below HR2.out HB.out) | (with_reducible refine Kd.C_alloc ?_ _) | (with_reducible refine Kd.C_drewN ?_ _) | (with_reducible refine Kd.C_drew ?_))); (case side2 => exact HC2.out); rintro e w' ⟨rfl, ⟨nd, rfl⟩⟩; refine ⟨_, rfl, ?_⟩; (try (rw [drewN_self w9]; generalize hq_ : World.drewN w9 _ = w9; have n0_ : Aside0 (w9.heap[gb490]? = some (.cells #[.int .i64 0, .int .i64 0, .bool false, .slice none 0 0] 47 (0, 0))) := ⟨by rw [← hq_]; exact (by (with_reducible repeat (first | refine blk_drewN ?_ _ | refine blk_drew ?_ | refine blk_alloc ?_ _)); exact BK490.out)⟩; have n1_ : Aside0 (Below w.heap.size w w9) := ⟨by rw [← hq_]; exact (by repeat (first | (with_reducible first | exact HB.out | apply below_alloc | apply pw_below_drewN | apply below_drew1 | refine below_set ?_ GE490.out) | exact HB.out))⟩; clear BK490 HB hq_; have BK490 := n0_; have HB := n1_; clear n0_ n1_)); have hcz10_0 : w9.cell? ⟨gb490, 0, none⟩ = some (.int .i64 0) := (blk_cell BK490.out 0).trans rfl; have hcz10_1 : w9.cell? ⟨gb490, 1, none⟩ = some (.int .i64 0) := (blk_cell BK490.out 1).trans rfl; have hcz10_2 : w9.cell? ⟨gb490, 2, none⟩ = some (.bool false) := (blk_cell BK490.out 2).trans rfl; have hcz10_3 : w9.cell? ⟨gb490, 3, none⟩ = some (.slice none 0 0) := (blk_cell BK490.out 3).trans rfl; have hfz10_0 := blk_frozen BK490.out 0; have hfz10_1 := blk_frozen BK490.out 1; have hfz10_2 := blk_frozen BK490.out 2; have hfz10_3 := blk_frozen BK490.out 3))
      refine bodyPost_ret (results_ct rfl _ _ gb490 47 #[.int .i64 0, .int .i64 0, .bool false, .slice none 0 0] (0, 0) _ rfl (by (with_reducible repeat (first | refine blk_drewN ?_ _ | refine blk_drew ?_ | refine blk_alloc ?_ _)); refine blk_put (cs := #[.int .i64 0, .int .i64 0, .bool false, .slice none 0 0]) ?_ 3 _ rfl; (with_reducible repeat (first | refine blk_drewN ?_ _ | refine blk_drew ?_ | refine blk_alloc ?_ _)); refine blk_put (cs := #[.int .i64 0, .int .i64 0, .bool false, .slice none 0 0]) ?_ 2 _ rfl; (with_reducible repeat (first | refine blk_drewN ?_ _ | refine blk_drew ?_ | refine blk_alloc ?_ _)); refine blk_put (cs := #[.int .i64 0, .int .i64 0, .bool false, .slice none 0 0]) ?_ 1 _ rfl; (with_reducible repeat (first | refine blk_drewN ?_ _ | refine blk_drew ?_ | refine blk_alloc ?_ _)); refine blk_put (cs := #[.int .i64 0, .int .i64 0, .bool false, .slice none 0 0]) ?_ 0 _ rfl; (with_reducible repeat (first | refine blk_drewN ?_ _ | refine blk_drew ?_ | refine blk_alloc ?_ _)); exact BK490.out) Try.underlying47 rfl (by kernel_rfl)) rfl ?_
      exact ⟨_, by first | rfl | (simp [errW_none, errW_some] <;> rfl) | (simp [*, errW_none, errW_some] <;> rfl), by first | exact Kd.R_nil _ _ _ _ _ | exact Kd.N_nil _ _ _ _ _ | exact Kd.V_nil _ _ _ _ _ | exact Kd.Q_nil _ _ _ _ _ | exact Kd.S_nil _ _ _ _ _, by repeat (first | (with_reducible first | exact HB.out | apply below_alloc | apply pw_below_drewN | apply below_drew1 | refine below_set ?_ GE490.out) | exact HB.out)⟩
    · rw [if_neg c8] at H
      have c8b0 : decide (t491 < 8) = false := decide_eq_false c8
      clear c8
      by_cases c11 : t491 > (l2.length : Int)
      · rw [if_pos c11] at H
        have c11b0 : decide ((l2.length : Int) < t491) = true := decide_eq_true c11
        clear c11
        simp only [Option.some.injEq, Prod.mk.injEq] at H
        obtain ⟨rfl, rfl, rfl, rfl, rfl⟩ := H
        go_enter Try.func45, Try.ntmps45
        go_wp2_with (first | ((with_reducible refine gate_dst (N := 6) rfl ?_); (try (refine gate_guard (by rfl) ?_; dsimp only)); refine box_event ?hg (N := 6) ?hd (cs := #[.int .i64 0, .int .i64 0, .bool false, .slice none 0 0]) (t := 47) ?hr ?_; (case hd => rfl); (case hg => rfl); (case hr => first | (go_simp; done) | (go_simp; rfl)); intro gb490 hg w12 hbox hb; have n0_ := Aside0.mk (below_step (by repeat (first | (with_reducible first | exact HB.out | apply below_alloc | apply pw_below_drewN | apply below_drew1) | exact HB.out)) hb); have n1_ := Aside0.mk (hbox); have n2_ := Aside0.mk ((by rw [hg]; exact (below_size (by repeat (first | (with_reducible first | exact HB.out | apply below_alloc | apply pw_below_drewN | apply below_drew1) | exact HB.out))) : w.heap.size ≤ gb490)); have n3_ := Aside0.mk ((by rw [hg]; exact (below_size (by repeat (first | (with_reducible first | exact HB.out | apply below_alloc | apply pw_below_drewN | apply below_drew1) | exact HB.out))) : w.heap.size ≤ gb490)); clear HB; have HB := n0_; have BK490 := n1_; have GW490 := n2_; have GE490 := n3_; clear n0_ n1_ n2_ n3_; clear hb hbox hg) | ((with_reducible refine gate_callee (f := 65) rfl ?_); refine goesL_ (some 15) rfl rfl Try.func65 (by kernel_rfl) rfl #[.slice A2 l2.length c2, .int .i64 4] rfl (by (try simp only [List.map_toArray, List.map_cons, List.map_nil]); first | done | rfl | (simp only [List.length_drop, List.length_take]; rfl)) ?_; (with_reducible refine (bailiwickref3_word.calls _ _ l2 4 t491 _ ?side1 ?side2 A7.out).mono ?_); (case side1 => repeat (first | exact (Kd.C_below HR2.out HB.out) | (with_reducible refine Kd.C_alloc ?_ _) | (with_reducible refine Kd.C_drewN ?_ _) | (with_reducible refine Kd.C_drew ?_))); (case side2 => exact HC2.out); rintro e w' ⟨rfl, ⟨nd, rfl⟩⟩; refine ⟨_, rfl, ?_⟩; (try (rw [drewN_self w12]; generalize hq_ : World.drewN w12 _ = w12; have n0_ : Aside0 (w12.heap[gb490]? = some (.cells #[.int .i64 0, .int .i64 0, .bool false, .slice none 0 0] 47 (0, 0))) := ⟨by rw [← hq_]; exact (by (with_reducible repeat (first | refine blk_drewN ?_ _ | refine blk_drew ?_ | refine blk_alloc ?_ _)); exact BK490.out)⟩; have n1_ : Aside0 (Below w.heap.size w w12) := ⟨by rw [← hq_]; exact (by repeat (first | (with_reducible first | exact HB.out | apply below_alloc | apply pw_below_drewN | apply below_drew1 | refine below_set ?_ GE490.out) | exact HB.out))⟩; clear BK490 HB hq_; have BK490 := n0_; have HB := n1_; clear n0_ n1_)); have hcz13_0 : w12.cell? ⟨gb490, 0, none⟩ = some (.int .i64 0) := (blk_cell BK490.out 0).trans rfl; have hcz13_1 : w12.cell? ⟨gb490, 1, none⟩ = some (.int .i64 0) := (blk_cell BK490.out 1).trans rfl; have hcz13_2 : w12.cell? ⟨gb490, 2, none⟩ = some (.bool false) := (blk_cell BK490.out 2).trans rfl; have hcz13_3 : w12.cell? ⟨gb490, 3, none⟩ = some (.slice none 0 0) := (blk_cell BK490.out 3).trans rfl; have hfz13_0 := blk_frozen BK490.out 0; have hfz13_1 := blk_frozen BK490.out 1; have hfz13_2 := blk_frozen BK490.out 2; have hfz13_3 := blk_frozen BK490.out 3))
        refine bodyPost_ret (results_ct rfl _ _ gb490 47 #[.int .i64 0, .int .i64 0, .bool false, .slice none 0 0] (0, 0) _ rfl (by (with_reducible repeat (first | refine blk_drewN ?_ _ | refine blk_drew ?_ | refine blk_alloc ?_ _)); refine blk_put (cs := #[.int .i64 0, .int .i64 0, .bool false, .slice none 0 0]) ?_ 3 _ rfl; (with_reducible repeat (first | refine blk_drewN ?_ _ | refine blk_drew ?_ | refine blk_alloc ?_ _)); refine blk_put (cs := #[.int .i64 0, .int .i64 0, .bool false, .slice none 0 0]) ?_ 2 _ rfl; (with_reducible repeat (first | refine blk_drewN ?_ _ | refine blk_drew ?_ | refine blk_alloc ?_ _)); refine blk_put (cs := #[.int .i64 0, .int .i64 0, .bool false, .slice none 0 0]) ?_ 1 _ rfl; (with_reducible repeat (first | refine blk_drewN ?_ _ | refine blk_drew ?_ | refine blk_alloc ?_ _)); refine blk_put (cs := #[.int .i64 0, .int .i64 0, .bool false, .slice none 0 0]) ?_ 0 _ rfl; (with_reducible repeat (first | refine blk_drewN ?_ _ | refine blk_drew ?_ | refine blk_alloc ?_ _)); exact BK490.out) Try.underlying47 rfl (by kernel_rfl)) rfl ?_
        exact ⟨_, by first | rfl | (simp [errW_none, errW_some] <;> rfl) | (simp [*, errW_none, errW_some] <;> rfl), by first | exact Kd.R_nil _ _ _ _ _ | exact Kd.N_nil _ _ _ _ _ | exact Kd.V_nil _ _ _ _ _ | exact Kd.Q_nil _ _ _ _ _ | exact Kd.S_nil _ _ _ _ _, by repeat (first | (with_reducible first | exact HB.out | apply below_alloc | apply pw_below_drewN | apply below_drew1 | refine below_set ?_ GE490.out) | exact HB.out)⟩
      · rw [if_neg c11] at H
        have c11b0 : decide ((l2.length : Int) < t491) = false := decide_eq_false c11
        clear c11
        replace H := Option.bind_eq_some_iff.mp H
        obtain ⟨t492, A140, H⟩ := H
        replace H : (if t492 = 0 then ((bailiwickref3_word.f l2 0).bind fun t493 => ((bailiwickref3_word.f l2 2).bind fun t494 => ((bailiwickref1_Part.f k l2 8 t491).bind fun t495 => (some (t493, t494, true, t495, 0))))) else ((bailiwickref3_Pseudo.f k a0 a1 17 t491).bind fun t498 => (if 0 ≤ t491 then (if t491 ≤ (l2.length : Int) then ((bailiwickref1_Sum.f k (([t498, l2.take (t491 : Int).toNat] : List (List Int)))).bind fun t506 => (if t506 = 65535 then ((bailiwickref3_word.f l2 0).bind fun t507 => ((bailiwickref3_word.f l2 2).bind fun t508 => ((bailiwickref1_Part.f k l2 8 t491).bind fun t509 => (some (t507, t508, false, t509, 0))))) else (some (0, 0, false, ([] : List Int), 5)))) else (none)) else (none)))) = some (r1, r2, r3, r4, r5) := H
        have A14 := Aside0.mk A140
        clear A140
        by_cases c15 : t492 = 0
        · rw [if_pos c15] at H
          have c15b0 : (t492 == 0) = true := beq_iff_eq.mpr c15
          have c15b1 : (t492 != 0) = false := bne_eq_false_iff_eq.mpr c15
          clear c15
          replace H := Option.bind_eq_some_iff.mp H
          obtain ⟨t493, A160, H⟩ := H
          replace H : ((bailiwickref3_word.f l2 2).bind fun t494 => ((bailiwickref1_Part.f k l2 8 t491).bind fun t495 => (some (t493, t494, true, t495, 0)))) = some (r1, r2, r3, r4, r5) := H
          have A16 := Aside0.mk A160
          clear A160
          replace H := Option.bind_eq_some_iff.mp H
          obtain ⟨t494, A170, H⟩ := H
          replace H : ((bailiwickref1_Part.f k l2 8 t491).bind fun t495 => (some (t493, t494, true, t495, 0))) = some (r1, r2, r3, r4, r5) := H
          have A17 := Aside0.mk A170
          clear A170
          replace H := Option.bind_eq_some_iff.mp H
          obtain ⟨t495, A180, H⟩ := H
          replace H : (some (t493, t494, true, t495, 0)) = some (r1, r2, r3, r4, r5) := H
          have A18 := Aside0.mk A180
          clear A180
          simp only [Option.some.injEq, Prod.mk.injEq] at H
          obtain ⟨rfl, rfl, rfl, rfl, rfl⟩ := H
          go_enter Try.func45, Try.ntmps45
          try go_wp2_with (first | ((with_reducible refine gate_dst (N := 6) rfl ?_); (try (refine gate_guard (by rfl) ?_; dsimp only)); refine box_event ?hg (N := 6) ?hd (cs := #[.int .i64 0, .int .i64 0, .bool false, .slice none 0 0]) (t := 47) ?hr ?_; (case hd => rfl); (case hg => rfl); (case hr => first | (go_simp; done) | (go_simp; rfl)); intro gb490 hg w19 hbox hb; have n0_ := Aside0.mk (below_step (by repeat (first | (with_reducible first | exact HB.out | apply below_alloc | apply pw_below_drewN | apply below_drew1) | exact HB.out)) hb); have n1_ := Aside0.mk (hbox); have n2_ := Aside0.mk ((by rw [hg]; exact (below_size (by repeat (first | (with_reducible first | exact HB.out | apply below_alloc | apply pw_below_drewN | apply below_drew1) | exact HB.out))) : w.heap.size ≤ gb490)); have n3_ := Aside0.mk ((by rw [hg]; exact (below_size (by repeat (first | (with_reducible first | exact HB.out | apply below_alloc | apply pw_below_drewN | apply below_drew1) | exact HB.out))) : w.heap.size ≤ gb490)); clear HB; have HB := n0_; have BK490 := n1_; have GW490 := n2_; have GE490 := n3_; clear n0_ n1_ n2_ n3_; clear hb hbox hg) | ((with_reducible refine gate_callee (f := 65) rfl ?_); refine goesL_ (some 15) rfl rfl Try.func65 (by kernel_rfl) rfl #[.slice A2 l2.length c2, .int .i64 4] rfl (by (try simp only [List.map_toArray, List.map_cons, List.map_nil]); first | done | rfl | (simp only [List.length_drop, List.length_take]; rfl)) ?_; (with_reducible refine (bailiwickref3_word.calls _ _ l2 4 t491 _ ?side1 ?side2 A7.out).mono ?_); (case side1 => repeat (first | exact (Kd.C_below HR2.out HB.out) | (with_reducible refine Kd.C_alloc ?_ _) | (with_reducible refine Kd.C_drewN ?_ _) | (with_reducible refine Kd.C_drew ?_))); (case side2 => exact HC2.out); rintro e w' ⟨rfl, ⟨nd, rfl⟩⟩; refine ⟨_, rfl, ?_⟩; (try (rw [drewN_self w19]; generalize hq_ : World.drewN w19 _ = w19; have n0_ : Aside0 (w19.heap[gb490]? = some (.cells #[.int .i64 0, .int .i64 0, .bool false, .slice none 0 0] 47 (0, 0))) := ⟨by rw [← hq_]; exact (by (with_reducible repeat (first | refine blk_drewN ?_ _ | refine blk_drew ?_ | refine blk_alloc ?_ _)); exact BK490.out)⟩; have n1_ : Aside0 (Below w.heap.size w w19) := ⟨by rw [← hq_]; exact (by repeat (first | (with_reducible first | exact HB.out | apply below_alloc | apply pw_below_drewN | apply below_drew1 | refine below_set ?_ GE490.out) | exact HB.out))⟩; clear BK490 HB hq_; have BK490 := n0_; have HB := n1_; clear n0_ n1_))) | ((with_reducible refine gate_callee (f := 65) rfl ?_); refine goesL_ (some 25) rfl rfl Try.func65 (by kernel_rfl) rfl #[.slice A2 l2.length c2, .int .i64 6] rfl (by (try simp only [List.map_toArray, List.map_cons, List.map_nil]); first | done | rfl | (simp only [List.length_drop, List.length_take]; rfl)) ?_; (with_reducible refine (bailiwickref3_word.calls _ _ l2 6 t492 _ ?side1 ?side2 A14.out).mono ?_); (case side1 => repeat (first | exact (Kd.C_below HR2.out HB.out) | (with_reducible refine Kd.C_alloc ?_ _) | (with_reducible refine Kd.C_drewN ?_ _) | (with_reducible refine Kd.C_drew ?_))); (case side2 => exact HC2.out); rintro e w' ⟨rfl, ⟨nd, rfl⟩⟩; refine ⟨_, rfl, ?_⟩; (try (rw [drewN_self w19]; generalize hq_ : World.drewN w19 _ = w19; have n0_ : Aside0 (w19.heap[gb490]? = some (.cells #[.int .i64 0, .int .i64 0, .bool false, .slice none 0 0] 47 (0, 0))) := ⟨by rw [← hq_]; exact (by (with_reducible repeat (first | refine blk_drewN ?_ _ | refine blk_drew ?_ | refine blk_alloc ?_ _)); exact BK490.out)⟩; have n1_ : Aside0 (Below w.heap.size w w19) := ⟨by rw [← hq_]; exact (by repeat (first | (with_reducible first | exact HB.out | apply below_alloc | apply pw_below_drewN | apply below_drew1 | refine below_set ?_ GE490.out) | exact HB.out))⟩; clear BK490 HB hq_; have BK490 := n0_; have HB := n1_; clear n0_ n1_))))
          have n0_ := Aside0.mk (blk_drew BK490.out)
          have n1_ := Aside0.mk (below_drew1 HB.out)
          clear BK490
          clear HB
          have BK490 := n0_
          have HB := n1_
          clear n0_ n1_
          refine start_ (n := 14) (S := fun w' => True) (ds := []) #[false, false, false, false, false, false, false, false, false, false, false, false, false, false] (by kernel_rfl) rfl rfl trivial (fun hHeld => ?_); refine with_tabW bailiwickref3_Datagram.tab9 bailiwickref3_Datagram.bits9 (fun HT_ HW_ => ?_)
          generalize w19.drew = w20 at BK490 HB hHeld ⊢
          refine pure_ (i := 0) (N := some 27) (v := ?_) (a' := ?_) #[true, false, false, false, false, false, false, false, false, false, false, false, false, false] rfl rfl (any_of HT_.out (by kernel_rfl)) (fun _ _ _ h => h) (Or.inl ⟨by rfl, ?_⟩) ?_ ?_
          rotate_left
          · intro w'
            go_simp
            with_reducible rfl
          rotate_left
          · simp only [Act.put, List.setIfInBounds_toArray, List.set_cons_zero, List.set_cons_succ, i64_w, i32_w]
            rfl
          refine pure_ (i := 1) (N := some 28) (v := ?_) (a' := ?_) #[true, true, false, false, false, false, false, false, false, false, false, false, false, false] rfl rfl (any_of HT_.out (by kernel_rfl)) (fun _ _ _ h => h) (Or.inl ⟨by rfl, ?_⟩) ?_ ?_
          rotate_left
          · intro w'
            go_simp
            with_reducible rfl
          rotate_left
          · simp only [Act.put, List.setIfInBounds_toArray, List.set_cons_zero, List.set_cons_succ, i64_w, i32_w]
            rfl
          refine pure_ (i := 2) (N := some 29) (v := ?_) (a' := ?_) #[true, true, true, false, false, false, false, false, false, false, false, false, false, false] rfl rfl (any_of HT_.out (by kernel_rfl)) (fun _ _ _ h => h) (Or.inl ⟨by rfl, ?_⟩) ?_ ?_
          rotate_left
          · intro w'
            go_simp
            with_reducible rfl
          rotate_left
          · simp only [Act.put, List.setIfInBounds_toArray, List.set_cons_zero, List.set_cons_succ, i64_w, i32_w]
            rfl
          refine pure_ (i := 3) (N := some 30) (v := undef) (a' := ?_) #[true, true, true, true, false, false, false, false, false, false, false, false, false, false] rfl rfl (any_of HT_.out (by kernel_rfl)) (fun _ _ _ h => h) (Or.inr ⟨by rfl, rfl⟩) ?_ ?_
          rotate_left
          · simp only [Act.put, List.setIfInBounds_toArray, List.set_cons_zero, List.set_cons_succ, i64_w, i32_w]
            rfl
          refine pure_ (i := 4) (N := some 31) (v := undef) (a' := ?_) #[true, true, true, true, true, false, false, false, false, false, false, false, false, false] rfl rfl (any_of HT_.out (by kernel_rfl)) (fun _ _ _ h => h) (Or.inr ⟨by rfl, rfl⟩) ?_ ?_
          rotate_left
          · simp only [Act.put, List.setIfInBounds_toArray, List.set_cons_zero, List.set_cons_succ, i64_w, i32_w]
            rfl
          refine pure_ (i := 5) (N := some 32) (v := undef) (a' := ?_) #[true, true, true, true, true, true, false, false, false, false, false, false, false, false] rfl rfl (any_of HT_.out (by kernel_rfl)) (fun _ _ _ h => h) (Or.inr ⟨by rfl, rfl⟩) ?_ ?_
          rotate_left
          · simp only [Act.put, List.setIfInBounds_toArray, List.set_cons_zero, List.set_cons_succ, i64_w, i32_w]
            rfl
          refine pure_ (i := 6) (N := some 33) (v := undef) (a' := ?_) #[true, true, true, true, true, true, true, false, false, false, false, false, false, false] rfl rfl (any_of HT_.out (by kernel_rfl)) (fun _ _ _ h => h) (Or.inr ⟨by rfl, rfl⟩) ?_ ?_
          rotate_left
          · simp only [Act.put, List.setIfInBounds_toArray, List.set_cons_zero, List.set_cons_succ, i64_w, i32_w]
            rfl
          refine pure_ (i := 7) (N := some 34) (v := undef) (a' := ?_) #[true, true, true, true, true, true, true, true, false, false, false, false, false, false] rfl rfl (any_of HT_.out (by kernel_rfl)) (fun _ _ _ h => h) (Or.inr ⟨by rfl, rfl⟩) ?_ ?_
          rotate_left
          · simp only [Act.put, List.setIfInBounds_toArray, List.set_cons_zero, List.set_cons_succ, i64_w, i32_w]
            rfl
          refine pure_ (i := 8) (N := some 35) (v := undef) (a' := ?_) #[true, true, true, true, true, true, true, true, true, false, false, false, false, false] rfl rfl (any_of HT_.out (by kernel_rfl)) (fun _ _ _ h => h) (Or.inr ⟨by rfl, rfl⟩) ?_ ?_
          rotate_left
          · simp only [Act.put, List.setIfInBounds_toArray, List.set_cons_zero, List.set_cons_succ, i64_w, i32_w]
            rfl
          refine pure_ (i := 9) (N := some 36) (v := undef) (a' := ?_) #[true, true, true, true, true, true, true, true, true, true, false, false, false, false] rfl rfl (any_of HT_.out (by kernel_rfl)) (fun _ _ _ h => h) (Or.inr ⟨by rfl, rfl⟩) ?_ ?_
          rotate_left
          · simp only [Act.put, List.setIfInBounds_toArray, List.set_cons_zero, List.set_cons_succ, i64_w, i32_w]
            rfl
          refine pure_ (i := 10) (N := some 37) (v := undef) (a' := ?_) #[true, true, true, true, true, true, true, true, true, true, true, false, false, false] rfl rfl (any_of HT_.out (by kernel_rfl)) (fun _ _ _ h => h) (Or.inr ⟨by rfl, rfl⟩) ?_ ?_
          rotate_left
          · simp only [Act.put, List.setIfInBounds_toArray, List.set_cons_zero, List.set_cons_succ, i64_w, i32_w]
            rfl
          refine pure_ (i := 11) (N := some 38) (v := undef) (a' := ?_) #[true, true, true, true, true, true, true, true, true, true, true, true, false, false] rfl rfl (any_of HT_.out (by kernel_rfl)) (fun _ _ _ h => h) (Or.inr ⟨by rfl, rfl⟩) ?_ ?_
          rotate_left
          · simp only [Act.put, List.setIfInBounds_toArray, List.set_cons_zero, List.set_cons_succ, i64_w, i32_w]
            rfl
          refine pure_ (i := 12) (N := some 39) (v := undef) (a' := ?_) #[true, true, true, true, true, true, true, true, true, true, true, true, true, false] rfl rfl (any_of HT_.out (by kernel_rfl)) (fun _ _ _ h => h) (Or.inr ⟨by rfl, rfl⟩) ?_ ?_
          rotate_left
          · simp only [Act.put, List.setIfInBounds_toArray, List.set_cons_zero, List.set_cons_succ, i64_w, i32_w]
            rfl
          refine pure_ (i := 13) (N := some 40) (v := ?_) (a' := ?_) #[true, true, true, true, true, true, true, true, true, true, true, true, true, true] rfl rfl (any_of HT_.out (by kernel_rfl)) (fun _ _ _ h => h) (Or.inl ⟨by rfl, ?_⟩) ?_ ?_
          rotate_left
          · intro w'
            go_simp
            with_reducible rfl
          rotate_left
          · simp only [Act.put, List.setIfInBounds_toArray, List.set_cons_zero, List.set_cons_succ, i64_w, i32_w]
            rfl
          refine done_ (done_of HT_.out (by kernel_rfl)) ?_
          try go_wp2_with (first | ((with_reducible refine gate_callee (f := 65) rfl ?_); refine goesL_ (some 43) rfl rfl Try.func65 (by kernel_rfl) rfl #[.slice A2 l2.length c2, .int .i64 0] rfl (by (try simp only [List.map_toArray, List.map_cons, List.map_nil]); first | done | rfl | (simp only [List.length_drop, List.length_take]; rfl)) ?_; (with_reducible refine (bailiwickref3_word.calls _ _ l2 0 t493 _ ?side1 ?side2 A16.out).mono ?_); (case side1 => repeat (first | exact (Kd.C_below HR2.out HB.out) | (with_reducible refine Kd.C_alloc ?_ _) | (with_reducible refine Kd.C_drewN ?_ _) | (with_reducible refine Kd.C_drew ?_))); (case side2 => exact HC2.out); rintro e w' ⟨rfl, ⟨nd, rfl⟩⟩; refine ⟨_, rfl, ?_⟩; (try (rw [drewN_self w20]; generalize hq_ : World.drewN w20 _ = w20; have n0_ : Aside0 (w20.heap[gb490]? = some (.cells #[.int .i64 0, .int .i64 0, .bool false, .slice none 0 0] 47 (0, 0))) := ⟨by rw [← hq_]; exact (by (with_reducible repeat (first | refine blk_drewN ?_ _ | refine blk_drew ?_ | refine blk_alloc ?_ _)); exact BK490.out)⟩; have n1_ : Aside0 (Below w.heap.size w w20) := ⟨by rw [← hq_]; exact (by repeat (first | (with_reducible first | exact HB.out | apply below_alloc | apply pw_below_drewN | apply below_drew1 | refine below_set ?_ GE490.out) | exact HB.out))⟩; clear BK490 HB hq_; have BK490 := n0_; have HB := n1_; clear n0_ n1_))) | ((with_reducible refine gate_callee (f := 65) rfl ?_); refine goesL_ (some 45) rfl rfl Try.func65 (by kernel_rfl) rfl #[.slice A2 l2.length c2, .int .i64 2] rfl (by (try simp only [List.map_toArray, List.map_cons, List.map_nil]); first | done | rfl | (simp only [List.length_drop, List.length_take]; rfl)) ?_; (with_reducible refine (bailiwickref3_word.calls _ _ l2 2 t494 _ ?side1 ?side2 A17.out).mono ?_); (case side1 => repeat (first | exact (Kd.C_below HR2.out HB.out) | (with_reducible refine Kd.C_alloc ?_ _) | (with_reducible refine Kd.C_drewN ?_ _) | (with_reducible refine Kd.C_drew ?_))); (case side2 => exact HC2.out); rintro e w' ⟨rfl, ⟨nd, rfl⟩⟩; refine ⟨_, rfl, ?_⟩; (try (rw [drewN_self w20]; generalize hq_ : World.drewN w20 _ = w20; have n0_ : Aside0 (w20.heap[gb490]? = some (.cells #[.int .i64 0, .int .i64 0, .bool false, .slice none 0 0] 47 (0, 0))) := ⟨by rw [← hq_]; exact (by (with_reducible repeat (first | refine blk_drewN ?_ _ | refine blk_drew ?_ | refine blk_alloc ?_ _)); exact BK490.out)⟩; have n1_ : Aside0 (Below w.heap.size w w20) := ⟨by rw [← hq_]; exact (by repeat (first | (with_reducible first | exact HB.out | apply below_alloc | apply pw_below_drewN | apply below_drew1 | refine below_set ?_ GE490.out) | exact HB.out))⟩; clear BK490 HB hq_; have BK490 := n0_; have HB := n1_; clear n0_ n1_))) | ((with_reducible refine gate_callee (f := 66) rfl ?_); refine goesL_ (some 49) rfl rfl Try.func66 (by kernel_rfl) rfl #[.slice A2 l2.length c2, .int .i64 8, .int .i64 t491] rfl (by (try simp only [List.map_toArray, List.map_cons, List.map_nil]); first | done | rfl | (simp only [List.length_drop, List.length_take]; rfl)) ?_; (with_reducible refine (bailiwickref1_Part.calls k _ _ l2 8 t491 t495 _ ?side1 ?side2 A18.out).mono ?_); (case side1 => repeat (first | exact (Kd.C_below HR2.out HB.out) | (with_reducible refine Kd.C_alloc ?_ _) | (with_reducible refine Kd.C_drewN ?_ _) | (with_reducible refine Kd.C_drew ?_))); (case side2 => exact HC2.out); rintro e w21 ⟨v496, rfl, ho0, hb⟩; refine ⟨_, rfl, ?_⟩; have n0_ := Aside0.mk (Kd.R_lower ho0 (below_size (by repeat (first | (with_reducible first | exact HB.out | apply below_alloc | apply pw_below_drewN | apply below_drew1 | refine below_set ?_ GE490.out) | exact HB.out)))); have n1_ := Aside0.mk (blk_below (g := gb490) (o := .cells #[.int .i64 0, .int .i64 0, .bool false, .slice none 0 0] 47 (0, 0)) (by (with_reducible repeat (first | refine blk_drewN ?_ _ | refine blk_drew ?_ | refine blk_alloc ?_ _)); exact BK490.out) hb); have n2_ := Aside0.mk (below_step (by repeat (first | (with_reducible first | exact HB.out | apply below_alloc | apply pw_below_drewN | apply below_drew1 | refine below_set ?_ GE490.out) | exact HB.out)) hb); clear BK490; clear HB; have HO497 := n0_; have BK490 := n1_; have HB := n2_; clear n0_ n1_ n2_; (try clear hb); (try clear hb2); (try clear hk); (try clear hi); (try clear ho0); obtain ⟨Ao22, co22, eo22⟩ := Kd.R_slice HO497.out; subst eo22; have hcz23_0 : w21.cell? ⟨gb490, 0, none⟩ = some (.int .i64 0) := (blk_cell BK490.out 0).trans rfl; have hcz23_1 : w21.cell? ⟨gb490, 1, none⟩ = some (.int .i64 0) := (blk_cell BK490.out 1).trans rfl; have hcz23_2 : w21.cell? ⟨gb490, 2, none⟩ = some (.bool false) := (blk_cell BK490.out 2).trans rfl; have hcz23_3 : w21.cell? ⟨gb490, 3, none⟩ = some (.slice none 0 0) := (blk_cell BK490.out 3).trans rfl; have hfz23_0 := blk_frozen BK490.out 0; have hfz23_1 := blk_frozen BK490.out 1; have hfz23_2 := blk_frozen BK490.out 2; have hfz23_3 := blk_frozen BK490.out 3))
          refine bodyPost_ret (results_ct rfl _ _ gb490 47 #[.int .i64 t493, .int .i64 t494, .bool true, .slice Ao22 t495.length co22] (0, 0) _ rfl (by (with_reducible repeat (first | refine blk_drewN ?_ _ | refine blk_drew ?_ | refine blk_alloc ?_ _)); refine blk_put (cs := #[.int .i64 t493, .int .i64 t494, .bool true, .slice none 0 0]) ?_ 3 _ rfl; (with_reducible repeat (first | refine blk_drewN ?_ _ | refine blk_drew ?_ | refine blk_alloc ?_ _)); refine blk_put (cs := #[.int .i64 t493, .int .i64 t494, .bool false, .slice none 0 0]) ?_ 2 _ rfl; (with_reducible repeat (first | refine blk_drewN ?_ _ | refine blk_drew ?_ | refine blk_alloc ?_ _)); refine blk_put (cs := #[.int .i64 t493, .int .i64 0, .bool false, .slice none 0 0]) ?_ 1 _ rfl; (with_reducible repeat (first | refine blk_drewN ?_ _ | refine blk_drew ?_ | refine blk_alloc ?_ _)); refine blk_put (cs := #[.int .i64 0, .int .i64 0, .bool false, .slice none 0 0]) ?_ 0 _ rfl; (with_reducible repeat (first | refine blk_drewN ?_ _ | refine blk_drew ?_ | refine blk_alloc ?_ _)); exact BK490.out) Try.underlying47 rfl (by kernel_rfl)) rfl ?_
          exact ⟨_, by first | rfl | (simp [errW_none, errW_some] <;> rfl) | (simp [*, errW_none, errW_some] <;> rfl), by (with_reducible repeat (first | apply Kd.R_alloc | apply Kd.R_drewN | apply Kd.R_drew)); exact Kd.R_mono (Kd.R_far (p := ⟨gb490, 3, none⟩) (Kd.R_far (p := ⟨gb490, 2, none⟩) (Kd.R_far (p := ⟨gb490, 1, none⟩) (Kd.R_far (p := ⟨gb490, 0, none⟩) (Kd.R_types HO497.out BK490.out (by decide)) (fun _ hk => hk.2) (.int .i64 t493)) (fun _ hk => hk.2) (.int .i64 t494)) (fun _ hk => hk.2) (.bool true)) (fun _ hk => hk.2) (.slice Ao22 t495.length co22)) (fun _ hk => trivial), by repeat (first | (with_reducible first | exact HB.out | apply below_alloc | apply pw_below_drewN | apply below_drew1 | refine below_set ?_ GE490.out) | exact HB.out)⟩
        · rw [if_neg c15] at H
          have c15b0 : (t492 == 0) = false := beq_eq_false_iff_ne.mpr c15
          have c15b1 : (t492 != 0) = true := bne_iff_ne.mpr c15
          replace H := Option.bind_eq_some_iff.mp H
          obtain ⟨t498, A240, H⟩ := H
          replace H : (if 0 ≤ t491 then (if t491 ≤ (l2.length : Int) then ((bailiwickref1_Sum.f k (([t498, l2.take (t491 : Int).toNat] : List (List Int)))).bind fun t506 => (if t506 = 65535 then ((bailiwickref3_word.f l2 0).bind fun t507 => ((bailiwickref3_word.f l2 2).bind fun t508 => ((bailiwickref1_Part.f k l2 8 t491).bind fun t509 => (some (t507, t508, false, t509, 0))))) else (some (0, 0, false, ([] : List Int), 5)))) else (none)) else (none)) = some (r1, r2, r3, r4, r5) := H
          have A24 := Aside0.mk A240
          clear A240
          by_cases c25 : 0 ≤ t491
          · rw [if_pos c25] at H
            have c25b0 := eq_true c25
            have c25b1 : decide (0 ≤ t491) = true := decide_eq_true c25
            clear c25
            by_cases c26 : t491 ≤ (l2.length : Int)
            · rw [if_pos c26] at H
              have c26b0 := eq_true c26
              have c26b1 : decide (t491 ≤ (l2.length : Int)) = true := decide_eq_true c26
              clear c26
              obtain ⟨y502, hy502⟩ : ∃ y_ : List (List Int), y_ = (([t498, l2.take (t491 : Int).toNat] : List (List Int))) := ⟨_, rfl⟩
              replace H : ((bailiwickref1_Sum.f k y502).bind fun t506 => (if t506 = 65535 then ((bailiwickref3_word.f l2 0).bind fun t507 => ((bailiwickref3_word.f l2 2).bind fun t508 => ((bailiwickref1_Part.f k l2 8 t491).bind fun t509 => (some (t507, t508, false, t509, 0))))) else (some (0, 0, false, ([] : List Int), 5)))) = some (r1, r2, r3, r4, r5) := by first | (rw [hy502]; with_reducible exact H) | (have H2_ := (Option.bind_some _ _).symm.trans H; rw [hy502]; with_reducible exact H2_) | (have H2_ := (Option.bind_some _ _).symm.trans H; with_reducible exact H2_) | with_reducible exact H | (rw [hy502]; exact H) | exact H
              have Ny502 := Aside0.mk hy502
              clear hy502
              replace H := Option.bind_eq_some_iff.mp H
              obtain ⟨t506, A270, H⟩ := H
              replace H : (if t506 = 65535 then ((bailiwickref3_word.f l2 0).bind fun t507 => ((bailiwickref3_word.f l2 2).bind fun t508 => ((bailiwickref1_Part.f k l2 8 t491).bind fun t509 => (some (t507, t508, false, t509, 0))))) else (some (0, 0, false, ([] : List Int), 5))) = some (r1, r2, r3, r4, r5) := H
              have A27 := Aside0.mk A270
              clear A270
              by_cases c28 : t506 = 65535
              · rw [if_pos c28] at H
                have c28b0 : (t506 == 65535) = true := beq_iff_eq.mpr c28
                have c28b1 : (t506 != 65535) = false := bne_eq_false_iff_eq.mpr c28
                clear c28
                replace H := Option.bind_eq_some_iff.mp H
                obtain ⟨t507, A290, H⟩ := H
                replace H : ((bailiwickref3_word.f l2 2).bind fun t508 => ((bailiwickref1_Part.f k l2 8 t491).bind fun t509 => (some (t507, t508, false, t509, 0)))) = some (r1, r2, r3, r4, r5) := H
                have A29 := Aside0.mk A290
                clear A290
                replace H := Option.bind_eq_some_iff.mp H
                obtain ⟨t508, A300, H⟩ := H
                replace H : ((bailiwickref1_Part.f k l2 8 t491).bind fun t509 => (some (t507, t508, false, t509, 0))) = some (r1, r2, r3, r4, r5) := H
                have A30 := Aside0.mk A300
                clear A300
                replace H := Option.bind_eq_some_iff.mp H
                obtain ⟨t509, A310, H⟩ := H
                replace H : (some (t507, t508, false, t509, 0)) = some (r1, r2, r3, r4, r5) := H
                have A31 := Aside0.mk A310
                clear A310
                simp only [Option.some.injEq, Prod.mk.injEq] at H
                obtain ⟨rfl, rfl, rfl, rfl, rfl⟩ := H
                go_enter Try.func45, Try.ntmps45
                try go_wp2_with (first | ((with_reducible refine gate_dst (N := 6) rfl ?_); (try (refine gate_guard (by rfl) ?_; dsimp only)); refine box_event ?hg (N := 6) ?hd (cs := #[.int .i64 0, .int .i64 0, .bool false, .slice none 0 0]) (t := 47) ?hr ?_; (case hd => rfl); (case hg => rfl); (case hr => first | (go_simp; done) | (go_simp; rfl)); intro gb490 hg w32 hbox hb; have n0_ := Aside0.mk (below_step (by repeat (first | (with_reducible first | exact HB.out | apply below_alloc | apply pw_below_drewN | apply below_drew1) | exact HB.out)) hb); have n1_ := Aside0.mk (hbox); have n2_ := Aside0.mk ((by rw [hg]; exact (below_size (by repeat (first | (with_reducible first | exact HB.out | apply below_alloc | apply pw_below_drewN | apply below_drew1) | exact HB.out))) : w.heap.size ≤ gb490)); have n3_ := Aside0.mk ((by rw [hg]; exact (below_size (by repeat (first | (with_reducible first | exact HB.out | apply below_alloc | apply pw_below_drewN | apply below_drew1) | exact HB.out))) : w.heap.size ≤ gb490)); clear HB; have HB := n0_; have BK490 := n1_; have GW490 := n2_; have GE490 := n3_; clear n0_ n1_ n2_ n3_; clear hb hbox hg) | ((with_reducible refine gate_callee (f := 65) rfl ?_); refine goesL_ (some 15) rfl rfl Try.func65 (by kernel_rfl) rfl #[.slice A2 l2.length c2, .int .i64 4] rfl (by (try simp only [List.map_toArray, List.map_cons, List.map_nil]); first | done | rfl | (simp only [List.length_drop, List.length_take]; rfl)) ?_; (with_reducible refine (bailiwickref3_word.calls _ _ l2 4 t491 _ ?side1 ?side2 A7.out).mono ?_); (case side1 => repeat (first | exact (Kd.C_below HR2.out HB.out) | (with_reducible refine Kd.C_alloc ?_ _) | (with_reducible refine Kd.C_drewN ?_ _) | (with_reducible refine Kd.C_drew ?_))); (case side2 => exact HC2.out); rintro e w' ⟨rfl, ⟨nd, rfl⟩⟩; refine ⟨_, rfl, ?_⟩; (try (rw [drewN_self w32]; generalize hq_ : World.drewN w32 _ = w32; have n0_ : Aside0 (w32.heap[gb490]? = some (.cells #[.int .i64 0, .int .i64 0, .bool false, .slice none 0 0] 47 (0, 0))) := ⟨by rw [← hq_]; exact (by (with_reducible repeat (first | refine blk_drewN ?_ _ | refine blk_drew ?_ | refine blk_alloc ?_ _)); exact BK490.out)⟩; have n1_ : Aside0 (Below w.heap.size w w32) := ⟨by rw [← hq_]; exact (by repeat (first | (with_reducible first | exact HB.out | apply below_alloc | apply pw_below_drewN | apply below_drew1 | refine below_set ?_ GE490.out) | exact HB.out))⟩; clear BK490 HB hq_; have BK490 := n0_; have HB := n1_; clear n0_ n1_))) | ((with_reducible refine gate_callee (f := 65) rfl ?_); refine goesL_ (some 25) rfl rfl Try.func65 (by kernel_rfl) rfl #[.slice A2 l2.length c2, .int .i64 6] rfl (by (try simp only [List.map_toArray, List.map_cons, List.map_nil]); first | done | rfl | (simp only [List.length_drop, List.length_take]; rfl)) ?_; (with_reducible refine (bailiwickref3_word.calls _ _ l2 6 t492 _ ?side1 ?side2 A14.out).mono ?_); (case side1 => repeat (first | exact (Kd.C_below HR2.out HB.out) | (with_reducible refine Kd.C_alloc ?_ _) | (with_reducible refine Kd.C_drewN ?_ _) | (with_reducible refine Kd.C_drew ?_))); (case side2 => exact HC2.out); rintro e w' ⟨rfl, ⟨nd, rfl⟩⟩; refine ⟨_, rfl, ?_⟩; (try (rw [drewN_self w32]; generalize hq_ : World.drewN w32 _ = w32; have n0_ : Aside0 (w32.heap[gb490]? = some (.cells #[.int .i64 0, .int .i64 0, .bool false, .slice none 0 0] 47 (0, 0))) := ⟨by rw [← hq_]; exact (by (with_reducible repeat (first | refine blk_drewN ?_ _ | refine blk_drew ?_ | refine blk_alloc ?_ _)); exact BK490.out)⟩; have n1_ : Aside0 (Below w.heap.size w w32) := ⟨by rw [← hq_]; exact (by repeat (first | (with_reducible first | exact HB.out | apply below_alloc | apply pw_below_drewN | apply below_drew1 | refine below_set ?_ GE490.out) | exact HB.out))⟩; clear BK490 HB hq_; have BK490 := n0_; have HB := n1_; clear n0_ n1_))))
                have n0_ := Aside0.mk (blk_drew BK490.out)
                have n1_ := Aside0.mk (below_drew1 HB.out)
                clear BK490
                clear HB
                have BK490 := n0_
                have HB := n1_
                clear n0_ n1_
                obtain ⟨i034, hi034, _, hsz34, _⟩ := info_parts info5
                obtain ⟨hcut34, hA34, hC34⟩ := print_take_of (P := Try.prog) (Value.int .u8) 0 22 5 .i64 Try.underlying22 hi034 hsz34 A2 c2 l2 t491 (of_decide_eq_true (by first | (with_reducible assumption) | assumption)) (of_decide_eq_true (by first | (with_reducible assumption) | assumption)) HC2.out
                have HR501 := Aside0.mk (Kd.C_of_reads (h1 := fun _ => rfl) (hA34 _ (Kd.reads_of_C HR2.out)))
                have HC501 := Aside0.mk hC34
                clear hA34 hC34 hi034 hsz34
                refine start_ (n := 14) (S := fun w' => True) (ds := []) #[false, false, false, false, false, false, false, false, false, false, false, false, false, false] (by kernel_rfl) rfl rfl trivial (fun hHeld => ?_); refine with_tabW bailiwickref3_Datagram.tab9 bailiwickref3_Datagram.bits9 (fun HT_ HW_ => ?_)
                generalize w32.drew = w33 at BK490 HB HR501 hHeld ⊢
                refine pure_ (i := 0) (N := some 27) (v := ?_) (a' := ?_) #[true, false, false, false, false, false, false, false, false, false, false, false, false, false] rfl rfl (any_of HT_.out (by kernel_rfl)) (fun _ _ _ h => h) (Or.inl ⟨by rfl, ?_⟩) ?_ ?_
                rotate_left
                · intro w'
                  go_simp
                  with_reducible rfl
                rotate_left
                · simp only [Act.put, List.setIfInBounds_toArray, List.set_cons_zero, List.set_cons_succ, i64_w, i32_w]
                  rfl
                refine pure_ (i := 1) (N := some 28) (v := ?_) (a' := ?_) #[true, true, false, false, false, false, false, false, false, false, false, false, false, false] rfl rfl (any_of HT_.out (by kernel_rfl)) (fun _ _ _ h => h) (Or.inl ⟨by rfl, ?_⟩) ?_ ?_
                rotate_left
                · intro w'
                  go_simp
                  with_reducible rfl
                rotate_left
                · simp only [Act.put, List.setIfInBounds_toArray, List.set_cons_zero, List.set_cons_succ, i64_w, i32_w]
                  rfl
                refine pure_ (i := 2) (N := some 29) (v := ?_) (a' := ?_) #[true, true, true, false, false, false, false, false, false, false, false, false, false, false] rfl rfl (any_of HT_.out (by kernel_rfl)) (fun _ _ _ h => h) (Or.inl ⟨by rfl, ?_⟩) ?_ ?_
                rotate_left
                · intro w'
                  go_simp
                  with_reducible rfl
                rotate_left
                · simp only [Act.put, List.setIfInBounds_toArray, List.set_cons_zero, List.set_cons_succ, i64_w, i32_w]
                  rfl
                refine pure_ (i := 3) (N := some 30) (v := ?_) (a' := ?_) #[true, true, true, true, false, false, false, false, false, false, false, false, false, false] rfl rfl (any_of HT_.out (by kernel_rfl)) (fun _ _ _ h => h) (Or.inl ⟨by rfl, ?_⟩) ?_ ?_
                rotate_left
                · intro w'
                  go_simp
                  with_reducible rfl
                rotate_left
                · simp only [Act.put, List.setIfInBounds_toArray, List.set_cons_zero, List.set_cons_succ, i64_w, i32_w]
                  rfl
                refine pure_ (i := 4) (N := some 31) (v := ?_) (a' := ?_) #[true, true, true, true, true, false, false, false, false, false, false, false, false, false] rfl rfl (any_of HT_.out (by kernel_rfl)) (fun _ _ _ h => h) (Or.inl ⟨by rfl, ?_⟩) ?_ ?_
                rotate_left
                · intro w'
                  go_simp
                  with_reducible rfl
                rotate_left
                · simp only [Act.put, List.setIfInBounds_toArray, List.set_cons_zero, List.set_cons_succ, i64_w, i32_w]
                  rfl
                refine pure_ (i := 5) (N := some 32) (v := ?_) (a' := ?_) #[true, true, true, true, true, true, false, false, false, false, false, false, false, false] rfl rfl (any_of HT_.out (by kernel_rfl)) (fun _ _ _ h => h) (Or.inl ⟨by rfl, ?_⟩) ?_ ?_
                rotate_left
                · intro w'
                  go_simp
                  with_reducible rfl
                rotate_left
                · simp only [Act.put, List.setIfInBounds_toArray, List.set_cons_zero, List.set_cons_succ, i64_w, i32_w]
                  rfl
                refine pure_ (i := 7) (N := some 34) (v := ?_) (a' := ?_) #[true, true, true, true, true, true, false, true, false, false, false, false, false, false] rfl rfl (any_of HT_.out (by kernel_rfl)) (fun _ _ _ h => h) (Or.inl ⟨by rfl, ?_⟩) ?_ ?_
                rotate_left
                · intro w'
                  go_simp
                  with_reducible rfl
                rotate_left
                · simp only [Act.put, List.setIfInBounds_toArray, List.set_cons_zero, List.set_cons_succ, i64_w, i32_w]
                  rfl
                refine pure_ (i := 8) (N := some 35) (v := ?_) (a' := ?_) #[true, true, true, true, true, true, false, true, true, false, false, false, false, false] rfl rfl (any_of HT_.out (by kernel_rfl)) (fun _ _ _ h => h) (Or.inl ⟨by rfl, ?_⟩) ?_ ?_
                rotate_left
                · intro w'
                  go_simp
                  with_reducible rfl
                rotate_left
                · simp only [Act.put, List.setIfInBounds_toArray, List.set_cons_zero, List.set_cons_succ, i64_w, i32_w]
                  rfl
                refine pure_ (i := 9) (N := some 36) (v := ?_) (a' := ?_) #[true, true, true, true, true, true, false, true, true, true, false, false, false, false] rfl rfl (any_of HT_.out (by kernel_rfl)) (fun _ _ _ h => h) (Or.inl ⟨by rfl, ?_⟩) ?_ ?_
                rotate_left
                · intro w'
                  go_simp
                  with_reducible rfl
                rotate_left
                · simp only [Act.put, List.setIfInBounds_toArray, List.set_cons_zero, List.set_cons_succ, i64_w, i32_w]
                  rfl
                refine one_ (i := 6) (N := some 33) #[true, true, true, true, true, true, true, true, true, true, false, false, false, false] rfl rfl (one_of HT_.out (by kernel_rfl)) (by decide) (fun K hK => ?_)
                refine goes_ Try.func42 (by kernel_rfl) rfl #[.int .u32 a0, .int .u32 a1, .int .i64 17, .int .i64 t491] (by rfl) rfl rfl (by (try simp only [List.map_toArray, List.map_cons, List.map_nil]); first | done | rfl | (simp only [List.length_drop, List.length_take]; rfl)) ?_
                with_reducible refine (bailiwickref3_Pseudo.calls k a0 a1 17 t491 t498 _ A24.out).mono ?_
                rintro e w35 ⟨v499, rfl, ho0, hb⟩
                refine ⟨_, rfl, ?_⟩
                have n0_ := Aside0.mk (Kd.R_lower ho0 (below_size (by repeat (first | (with_reducible first | exact HB.out | apply below_alloc | apply pw_below_drewN | apply below_drew1 | refine below_set ?_ GE490.out) | exact HB.out))))
                have n1_ := Aside0.mk (blk_below (g := gb490) (o := .cells #[.int .i64 0, .int .i64 0, .bool false, .slice none 0 0] 47 (0, 0)) (by (with_reducible repeat (first | refine blk_drewN ?_ _ | refine blk_drew ?_ | refine blk_alloc ?_ _)); exact BK490.out) hb)
                have n2_ := Aside0.mk (below_step (by repeat (first | (with_reducible first | exact HB.out | apply below_alloc | apply pw_below_drewN | apply below_drew1 | refine below_set ?_ GE490.out) | exact HB.out)) hb)
                clear BK490
                clear HB
                have HO500 := n0_
                have BK490 := n1_
                have HB := n2_
                clear n0_ n1_ n2_
                (try clear hb)
                (try clear hb2)
                (try clear hk)
                (try clear hi)
                (try clear ho0)
                obtain ⟨Ao36, co36, eo36⟩ := Kd.R_slice HO500.out
                (first | subst eo36 | (injection eo36 with f1_ f2_ f3_; have f4_ := f1_.symm; have f5_ := f3_.symm; clear f1_ f2_ f3_; subst f4_; subst f5_))
                refine hK.out _ _ trivial (fun hHeld => ?_)
                clear hK K
                refine norm_ (a' := ?_) ?_ ?_
                rotate_left
                · show Act.put _ (some 33) _ = _
                  simp only [Act.put, List.setIfInBounds_toArray, List.set_cons_zero, List.set_cons_succ, i64_w, i32_w]
                  rfl
                refine one_ (i := 10) (N := some 37) #[true, true, true, true, true, true, true, true, true, true, true, false, false, false] rfl rfl (one_of HT_.out (by kernel_rfl)) (by decide) (fun K hK => ?_)
                refine Kd.N_lit_step (Kd.slice 5 (Kd.int .u8)) _ 22 ?hg (N' := 37) ?hd (xs := ([t498, l2.take (t491 : Int).toNat] : List (List Int))) (inner := [.slice Ao36 t498.length co36, .slice A2 (l2.take (t491 : Int).toNat).length c2]) (ok := fun _ => True) (okp := fun _ => True) ?hr ?hp (fun _ _ => trivial) trivial (Below.refl _ _) (Nat.le_refl _) (by simp) ?_; (case hd => rfl); (case hg => rfl); (case hr => first | (go_simp; done) | (go_simp; rfl)); (case hp => exact (Reps.one (show Kd.FK (Kd.slice 5 (Kd.int .u8)) _ _ t498 [.slice Ao36 t498.length co36] from Kd.FK_slice_mk (by exact (Kd.R_reads' HO500.out).2.1) (Kd.F_mono (Kd.C_F (Kd.heap_int .u8) (by repeat (first | exact (Kd.R_reads' HO500.out).2.2 | (with_reducible refine Kd.C_alloc ?_ _) | (with_reducible refine Kd.C_drewN ?_ _) | (with_reducible refine Kd.C_drew ?_)))) (fun _ _ => trivial))) (Reps.one (show Kd.FK (Kd.slice 5 (Kd.int .u8)) _ _ (l2.take (t491 : Int).toNat) [.slice A2 (l2.take (t491 : Int).toNat).length c2] from Kd.FK_slice_mk (by exact HC501.out) (Kd.F_mono (Kd.C_F (Kd.heap_int .u8) (by repeat (first | exact (Kd.C_below HR501.out HB.out) | (with_reducible refine Kd.C_alloc ?_ _) | (with_reducible refine Kd.C_drewN ?_ _) | (with_reducible refine Kd.C_drew ?_)))) (fun _ _ => trivial))) (Reps.none _ _))))
                intro vl505 w37 ho hb hg_ hnew_
                clear hg_ hnew_
                (first | rw [← Ny502.out] at ho | (simp only [Int.reduceToNat] at ho; rw [← Ny502.out] at ho))
                obtain ⟨Al505, cl505, el505⟩ := Kd.N_slice ho
                subst el505
                have hr := (Kd.N_reads' ho).2.2
                have hl := (Kd.N_reads' ho).2.1
                clear ho
                have n0_ := Aside0.mk (Kd.R_below (by (with_reducible repeat (first | apply Kd.R_alloc | apply Kd.R_drewN | apply Kd.R_drew)); exact HO500.out) hb)
                have n1_ := Aside0.mk (blk_below (g := gb490) (o := .cells #[.int .i64 0, .int .i64 0, .bool false, .slice none 0 0] 47 (0, 0)) (by (with_reducible repeat (first | refine blk_drewN ?_ _ | refine blk_drew ?_ | refine blk_alloc ?_ _)); exact BK490.out) hb)
                have n2_ := Aside0.mk (below_step (by repeat (first | (with_reducible first | exact HB.out | apply below_alloc | apply pw_below_drewN | apply below_drew1 | refine below_set ?_ GE490.out) | exact HB.out)) hb)
                have n3_ := Aside0.mk (hr)
                have n4_ := Aside0.mk (hl)
                clear HO500
                clear BK490
                clear HB
                have HO500 := n0_
                have BK490 := n1_
                have HB := n2_
                have HRl505 := n3_
                have HCl505 := n4_
                clear n0_ n1_ n2_ n3_ n4_
                clear hb hr hl
                refine hK.out _ _ trivial (fun hHeld => ?_)
                clear hK K
                refine norm_ (a' := ?_) ?_ ?_
                rotate_left
                · show Act.put _ (some 37) _ = _
                  simp only [Act.put, List.setIfInBounds_toArray, List.set_cons_zero, List.set_cons_succ, i64_w, i32_w]
                  rfl
                refine one_ (i := 11) (N := some 38) #[true, true, true, true, true, true, true, true, true, true, true, true, false, false] rfl rfl (one_of HT_.out (by kernel_rfl)) (by decide) (fun K hK => ?_)
                refine goes_ Try.func27 (by kernel_rfl) rfl #[.slice Al505 y502.length cl505] (by rfl) rfl rfl (by (try simp only [List.map_toArray, List.map_cons, List.map_nil]); first | done | rfl | (simp only [List.length_drop, List.length_take]; rfl)) ?_
                with_reducible refine (bailiwickref1_Sum.calls k _ _ y502 t506 _ ?side1 ?side2 A27.out).mono ?_
                (case side1 => repeat (first | exact (by repeat (first | (with_reducible exact HRl505.out) | (with_reducible refine Kd.C_alloc ?_ _) | (with_reducible refine Kd.C_drewN ?_ _) | (with_reducible refine Kd.C_drew ?_) | exact HRl505.out)) | (with_reducible refine Kd.C_alloc ?_ _) | (with_reducible refine Kd.C_drewN ?_ _) | (with_reducible refine Kd.C_drew ?_)))
                (case side2 => exact HCl505.out)
                rintro e w' ⟨rfl, ⟨nd, rfl⟩⟩
                refine ⟨_, rfl, ?_⟩
                refine hK.out _ _ trivial (fun hHeld => ?_)
                clear hK K
                refine norm_ (a' := ?_) ?_ ?_
                rotate_left
                · show Act.put _ (some 38) _ = _
                  simp only [Act.put, List.setIfInBounds_toArray, List.set_cons_zero, List.set_cons_succ, i64_w, i32_w]
                  rfl
                refine pure_ (i := 12) (N := some 39) (v := ?_) (a' := ?_) #[true, true, true, true, true, true, true, true, true, true, true, true, true, false] rfl rfl (any_of HT_.out (by kernel_rfl)) (fun _ _ _ h => h) (Or.inl ⟨by rfl, ?_⟩) ?_ ?_
                rotate_left
                · intro w'
                  go_simp
                  with_reducible rfl
                rotate_left
                · simp only [Act.put, List.setIfInBounds_toArray, List.set_cons_zero, List.set_cons_succ, i64_w, i32_w]
                  rfl
                refine pure_ (i := 13) (N := some 40) (v := ?_) (a' := ?_) #[true, true, true, true, true, true, true, true, true, true, true, true, true, true] rfl rfl (any_of HT_.out (by kernel_rfl)) (fun _ _ _ h => h) (Or.inl ⟨by rfl, ?_⟩) ?_ ?_
                rotate_left
                · intro w'
                  go_simp
                  with_reducible rfl
                rotate_left
                · simp only [Act.put, List.setIfInBounds_toArray, List.set_cons_zero, List.set_cons_succ, i64_w, i32_w]
                  rfl
                refine done_ (done_of HT_.out (by kernel_rfl)) ?_
                try go_wp2_with (first | ((with_reducible refine gate_callee (f := 65) rfl ?_); refine goesL_ (some 43) rfl rfl Try.func65 (by kernel_rfl) rfl #[.slice A2 l2.length c2, .int .i64 0] rfl (by (try simp only [List.map_toArray, List.map_cons, List.map_nil]); first | done | rfl | (simp only [List.length_drop, List.length_take]; rfl)) ?_; (with_reducible refine (bailiwickref3_word.calls _ _ l2 0 t507 _ ?side1 ?side2 A29.out).mono ?_); (case side1 => repeat (first | exact (Kd.C_below HR2.out (by repeat (first | (with_reducible first | exact HB.out | apply below_alloc | apply pw_below_drewN | apply below_drew1 | refine below_set ?_ GE490.out) | exact HB.out))) | (with_reducible refine Kd.C_alloc ?_ _) | (with_reducible refine Kd.C_drewN ?_ _) | (with_reducible refine Kd.C_drew ?_))); (case side2 => exact HC2.out); rintro e w' ⟨rfl, ⟨nd, rfl⟩⟩; refine ⟨_, rfl, ?_⟩; (try (rw [drewN_self w37]; generalize hq_ : World.drewN w37 _ = w37; have n0_ : Aside0 (Kd.R (Kd.int .u8) 5 w37 w.heap.size (fun _ => True) (.slice Ao36 t498.length co36) t498) := ⟨by rw [← hq_]; exact (by (with_reducible repeat (first | apply Kd.R_alloc | apply Kd.R_drewN | apply Kd.R_drew)); exact HO500.out)⟩; have n1_ : Aside0 (w37.heap[gb490]? = some (.cells #[.int .i64 0, .int .i64 0, .bool false, .slice none 0 0] 47 (0, 0))) := ⟨by rw [← hq_]; exact (by (with_reducible repeat (first | refine blk_drewN ?_ _ | refine blk_drew ?_ | refine blk_alloc ?_ _)); exact BK490.out)⟩; have n2_ : Aside0 (Below w.heap.size w w37) := ⟨by rw [← hq_]; exact (by repeat (first | (with_reducible first | exact HB.out | apply below_alloc | apply pw_below_drewN | apply below_drew1 | refine below_set ?_ GE490.out) | exact HB.out))⟩; have n3_ : Aside0 (Kd.C (Kd.slice 5 (Kd.int .u8)) w37 Al505 y502.length y502) := ⟨by rw [← hq_]; exact (by repeat (first | (with_reducible exact HRl505.out) | (with_reducible refine Kd.C_alloc ?_ _) | (with_reducible refine Kd.C_drewN ?_ _) | (with_reducible refine Kd.C_drew ?_) | exact HRl505.out))⟩; clear HO500 BK490 HB HRl505 hq_; have HO500 := n0_; have BK490 := n1_; have HB := n2_; have HRl505 := n3_; clear n0_ n1_ n2_ n3_))) | ((with_reducible refine gate_callee (f := 65) rfl ?_); refine goesL_ (some 45) rfl rfl Try.func65 (by kernel_rfl) rfl #[.slice A2 l2.length c2, .int .i64 2] rfl (by (try simp only [List.map_toArray, List.map_cons, List.map_nil]); first | done | rfl | (simp only [List.length_drop, List.length_take]; rfl)) ?_; (with_reducible refine (bailiwickref3_word.calls _ _ l2 2 t508 _ ?side1 ?side2 A30.out).mono ?_); (case side1 => repeat (first | exact (Kd.C_below HR2.out HB.out) | (with_reducible refine Kd.C_alloc ?_ _) | (with_reducible refine Kd.C_drewN ?_ _) | (with_reducible refine Kd.C_drew ?_))); (case side2 => exact HC2.out); rintro e w' ⟨rfl, ⟨nd, rfl⟩⟩; refine ⟨_, rfl, ?_⟩; (try (rw [drewN_self w37]; generalize hq_ : World.drewN w37 _ = w37; have n0_ : Aside0 (Kd.R (Kd.int .u8) 5 w37 w.heap.size (fun _ => True) (.slice Ao36 t498.length co36) t498) := ⟨by rw [← hq_]; exact (by (with_reducible repeat (first | apply Kd.R_alloc | apply Kd.R_drewN | apply Kd.R_drew)); exact HO500.out)⟩; have n1_ : Aside0 (w37.heap[gb490]? = some (.cells #[.int .i64 0, .int .i64 0, .bool false, .slice none 0 0] 47 (0, 0))) := ⟨by rw [← hq_]; exact (by (with_reducible repeat (first | refine blk_drewN ?_ _ | refine blk_drew ?_ | refine blk_alloc ?_ _)); exact BK490.out)⟩; have n2_ : Aside0 (Below w.heap.size w w37) := ⟨by rw [← hq_]; exact (by repeat (first | (with_reducible first | exact HB.out | apply below_alloc | apply pw_below_drewN | apply below_drew1 | refine below_set ?_ GE490.out) | exact HB.out))⟩; have n3_ : Aside0 (Kd.C (Kd.slice 5 (Kd.int .u8)) w37 Al505 y502.length y502) := ⟨by rw [← hq_]; exact (by repeat (first | (with_reducible exact HRl505.out) | (with_reducible refine Kd.C_alloc ?_ _) | (with_reducible refine Kd.C_drewN ?_ _) | (with_reducible refine Kd.C_drew ?_) | exact HRl505.out))⟩; clear HO500 BK490 HB HRl505 hq_; have HO500 := n0_; have BK490 := n1_; have HB := n2_; have HRl505 := n3_; clear n0_ n1_ n2_ n3_))) | ((with_reducible refine gate_callee (f := 66) rfl ?_); refine goesL_ (some 49) rfl rfl Try.func66 (by kernel_rfl) rfl #[.slice A2 l2.length c2, .int .i64 8, .int .i64 t491] rfl (by (try simp only [List.map_toArray, List.map_cons, List.map_nil]); first | done | rfl | (simp only [List.length_drop, List.length_take]; rfl)) ?_; (with_reducible refine (bailiwickref1_Part.calls k _ _ l2 8 t491 t509 _ ?side1 ?side2 A31.out).mono ?_); (case side1 => repeat (first | exact (Kd.C_below HR2.out HB.out) | (with_reducible refine Kd.C_alloc ?_ _) | (with_reducible refine Kd.C_drewN ?_ _) | (with_reducible refine Kd.C_drew ?_))); (case side2 => exact HC2.out); rintro e w38 ⟨v510, rfl, ho0, hb⟩; refine ⟨_, rfl, ?_⟩; have n0_ := Aside0.mk (Kd.R_elder' (by (with_reducible repeat (first | apply Kd.R_alloc | apply Kd.R_drewN | apply Kd.R_drew)); exact HO500.out) (Kd.R_base ho0) hb); have n1_ := Aside0.mk (Kd.R_lower (Kd.R_new' ho0 (Kd.R_lt (by (with_reducible repeat (first | apply Kd.R_alloc | apply Kd.R_drewN | apply Kd.R_drew)); exact HO500.out))) (below_size (by repeat (first | (with_reducible first | exact HB.out | apply below_alloc | apply pw_below_drewN | apply below_drew1 | refine below_set ?_ GE490.out) | exact HB.out)))); have n2_ := Aside0.mk (blk_below (g := gb490) (o := .cells #[.int .i64 0, .int .i64 0, .bool false, .slice none 0 0] 47 (0, 0)) (by (with_reducible repeat (first | refine blk_drewN ?_ _ | refine blk_drew ?_ | refine blk_alloc ?_ _)); exact BK490.out) hb); have n3_ := Aside0.mk (Kd.C_below (by repeat (first | (with_reducible exact HRl505.out) | (with_reducible refine Kd.C_alloc ?_ _) | (with_reducible refine Kd.C_drewN ?_ _) | (with_reducible refine Kd.C_drew ?_) | exact HRl505.out)) hb); have n4_ := Aside0.mk (below_step (by repeat (first | (with_reducible first | exact HB.out | apply below_alloc | apply pw_below_drewN | apply below_drew1 | refine below_set ?_ GE490.out) | exact HB.out)) hb); clear HO500; clear BK490; clear HRl505; clear HB; have HO500 := n0_; have HO511 := n1_; have BK490 := n2_; have HRl505 := n3_; have HB := n4_; clear n0_ n1_ n2_ n3_ n4_; (try clear hb); (try clear hb2); (try clear hk); (try clear hi); (try clear ho0); obtain ⟨Ao39, co39, eo39⟩ := Kd.R_slice HO511.out; subst eo39; have hcz40_0 : w38.cell? ⟨gb490, 0, none⟩ = some (.int .i64 0) := (blk_cell BK490.out 0).trans rfl; have hcz40_1 : w38.cell? ⟨gb490, 1, none⟩ = some (.int .i64 0) := (blk_cell BK490.out 1).trans rfl; have hcz40_2 : w38.cell? ⟨gb490, 2, none⟩ = some (.bool false) := (blk_cell BK490.out 2).trans rfl; have hcz40_3 : w38.cell? ⟨gb490, 3, none⟩ = some (.slice none 0 0) := (blk_cell BK490.out 3).trans rfl; have hfz40_0 := blk_frozen BK490.out 0; have hfz40_1 := blk_frozen BK490.out 1; have hfz40_2 := blk_frozen BK490.out 2; have hfz40_3 := blk_frozen BK490.out 3))
                refine bodyPost_ret (results_ct rfl _ _ gb490 47 #[.int .i64 t507, .int .i64 t508, .bool false, .slice Ao39 t509.length co39] (0, 0) _ rfl (by (with_reducible repeat (first | refine blk_drewN ?_ _ | refine blk_drew ?_ | refine blk_alloc ?_ _)); refine blk_put (cs := #[.int .i64 t507, .int .i64 t508, .bool false, .slice none 0 0]) ?_ 3 _ rfl; (with_reducible repeat (first | refine blk_drewN ?_ _ | refine blk_drew ?_ | refine blk_alloc ?_ _)); refine blk_put (cs := #[.int .i64 t507, .int .i64 t508, .bool false, .slice none 0 0]) ?_ 2 _ rfl; (with_reducible repeat (first | refine blk_drewN ?_ _ | refine blk_drew ?_ | refine blk_alloc ?_ _)); refine blk_put (cs := #[.int .i64 t507, .int .i64 0, .bool false, .slice none 0 0]) ?_ 1 _ rfl; (with_reducible repeat (first | refine blk_drewN ?_ _ | refine blk_drew ?_ | refine blk_alloc ?_ _)); refine blk_put (cs := #[.int .i64 0, .int .i64 0, .bool false, .slice none 0 0]) ?_ 0 _ rfl; (with_reducible repeat (first | refine blk_drewN ?_ _ | refine blk_drew ?_ | refine blk_alloc ?_ _)); exact BK490.out) Try.underlying47 rfl (by kernel_rfl)) rfl ?_
                exact ⟨_, by first | rfl | (simp [errW_none, errW_some] <;> rfl) | (simp [*, errW_none, errW_some] <;> rfl), by (with_reducible repeat (first | apply Kd.R_alloc | apply Kd.R_drewN | apply Kd.R_drew)); exact Kd.R_mono (Kd.R_far (p := ⟨gb490, 3, none⟩) (Kd.R_far (p := ⟨gb490, 2, none⟩) (Kd.R_far (p := ⟨gb490, 1, none⟩) (Kd.R_far (p := ⟨gb490, 0, none⟩) (Kd.R_types HO511.out BK490.out (by decide)) (fun _ hk => hk.2) (.int .i64 t507)) (fun _ hk => hk.2) (.int .i64 t508)) (fun _ hk => hk.2) (.bool false)) (fun _ hk => hk.2) (.slice Ao39 t509.length co39)) (fun _ hk => trivial), by repeat (first | (with_reducible first | exact HB.out | apply below_alloc | apply pw_below_drewN | apply below_drew1 | refine below_set ?_ GE490.out) | exact HB.out)⟩
              · rw [if_neg c28] at H
                have c28b0 : (t506 == 65535) = false := beq_eq_false_iff_ne.mpr c28
                have c28b1 : (t506 != 65535) = true := bne_iff_ne.mpr c28
                simp only [Option.some.injEq, Prod.mk.injEq] at H
                obtain ⟨rfl, rfl, rfl, rfl, rfl⟩ := H
                go_enter Try.func45, Try.ntmps45
                try go_wp2_with (first | ((with_reducible refine gate_dst (N := 6) rfl ?_); (try (refine gate_guard (by rfl) ?_; dsimp only)); refine box_event ?hg (N := 6) ?hd (cs := #[.int .i64 0, .int .i64 0, .bool false, .slice none 0 0]) (t := 47) ?hr ?_; (case hd => rfl); (case hg => rfl); (case hr => first | (go_simp; done) | (go_simp; rfl)); intro gb490 hg w41 hbox hb; have n0_ := Aside0.mk (below_step (by repeat (first | (with_reducible first | exact HB.out | apply below_alloc | apply pw_below_drewN | apply below_drew1) | exact HB.out)) hb); have n1_ := Aside0.mk (hbox); have n2_ := Aside0.mk ((by rw [hg]; exact (below_size (by repeat (first | (with_reducible first | exact HB.out | apply below_alloc | apply pw_below_drewN | apply below_drew1) | exact HB.out))) : w.heap.size ≤ gb490)); have n3_ := Aside0.mk ((by rw [hg]; exact (below_size (by repeat (first | (with_reducible first | exact HB.out | apply below_alloc | apply pw_below_drewN | apply below_drew1) | exact HB.out))) : w.heap.size ≤ gb490)); clear HB; have HB := n0_; have BK490 := n1_; have GW490 := n2_; have GE490 := n3_; clear n0_ n1_ n2_ n3_; clear hb hbox hg) | ((with_reducible refine gate_callee (f := 65) rfl ?_); refine goesL_ (some 15) rfl rfl Try.func65 (by kernel_rfl) rfl #[.slice A2 l2.length c2, .int .i64 4] rfl (by (try simp only [List.map_toArray, List.map_cons, List.map_nil]); first | done | rfl | (simp only [List.length_drop, List.length_take]; rfl)) ?_; (with_reducible refine (bailiwickref3_word.calls _ _ l2 4 t491 _ ?side1 ?side2 A7.out).mono ?_); (case side1 => repeat (first | exact (Kd.C_below HR2.out HB.out) | (with_reducible refine Kd.C_alloc ?_ _) | (with_reducible refine Kd.C_drewN ?_ _) | (with_reducible refine Kd.C_drew ?_))); (case side2 => exact HC2.out); rintro e w' ⟨rfl, ⟨nd, rfl⟩⟩; refine ⟨_, rfl, ?_⟩; (try (rw [drewN_self w41]; generalize hq_ : World.drewN w41 _ = w41; have n0_ : Aside0 (w41.heap[gb490]? = some (.cells #[.int .i64 0, .int .i64 0, .bool false, .slice none 0 0] 47 (0, 0))) := ⟨by rw [← hq_]; exact (by (with_reducible repeat (first | refine blk_drewN ?_ _ | refine blk_drew ?_ | refine blk_alloc ?_ _)); exact BK490.out)⟩; have n1_ : Aside0 (Below w.heap.size w w41) := ⟨by rw [← hq_]; exact (by repeat (first | (with_reducible first | exact HB.out | apply below_alloc | apply pw_below_drewN | apply below_drew1 | refine below_set ?_ GE490.out) | exact HB.out))⟩; clear BK490 HB hq_; have BK490 := n0_; have HB := n1_; clear n0_ n1_))) | ((with_reducible refine gate_callee (f := 65) rfl ?_); refine goesL_ (some 25) rfl rfl Try.func65 (by kernel_rfl) rfl #[.slice A2 l2.length c2, .int .i64 6] rfl (by (try simp only [List.map_toArray, List.map_cons, List.map_nil]); first | done | rfl | (simp only [List.length_drop, List.length_take]; rfl)) ?_; (with_reducible refine (bailiwickref3_word.calls _ _ l2 6 t492 _ ?side1 ?side2 A14.out).mono ?_); (case side1 => repeat (first | exact (Kd.C_below HR2.out HB.out) | (with_reducible refine Kd.C_alloc ?_ _) | (with_reducible refine Kd.C_drewN ?_ _) | (with_reducible refine Kd.C_drew ?_))); (case side2 => exact HC2.out); rintro e w' ⟨rfl, ⟨nd, rfl⟩⟩; refine ⟨_, rfl, ?_⟩; (try (rw [drewN_self w41]; generalize hq_ : World.drewN w41 _ = w41; have n0_ : Aside0 (w41.heap[gb490]? = some (.cells #[.int .i64 0, .int .i64 0, .bool false, .slice none 0 0] 47 (0, 0))) := ⟨by rw [← hq_]; exact (by (with_reducible repeat (first | refine blk_drewN ?_ _ | refine blk_drew ?_ | refine blk_alloc ?_ _)); exact BK490.out)⟩; have n1_ : Aside0 (Below w.heap.size w w41) := ⟨by rw [← hq_]; exact (by repeat (first | (with_reducible first | exact HB.out | apply below_alloc | apply pw_below_drewN | apply below_drew1 | refine below_set ?_ GE490.out) | exact HB.out))⟩; clear BK490 HB hq_; have BK490 := n0_; have HB := n1_; clear n0_ n1_))))
                have n0_ := Aside0.mk (blk_drew BK490.out)
                have n1_ := Aside0.mk (below_drew1 HB.out)
                clear BK490
                clear HB
                have BK490 := n0_
                have HB := n1_
                clear n0_ n1_
                obtain ⟨i043, hi043, _, hsz43, _⟩ := info_parts info5
                obtain ⟨hcut43, hA43, hC43⟩ := print_take_of (P := Try.prog) (Value.int .u8) 0 22 5 .i64 Try.underlying22 hi043 hsz43 A2 c2 l2 t491 (of_decide_eq_true (by first | (with_reducible assumption) | assumption)) (of_decide_eq_true (by first | (with_reducible assumption) | assumption)) HC2.out
                have HR501 := Aside0.mk (Kd.C_of_reads (h1 := fun _ => rfl) (hA43 _ (Kd.reads_of_C HR2.out)))
                have HC501 := Aside0.mk hC43
                clear hA43 hC43 hi043 hsz43
                refine start_ (n := 14) (S := fun w' => True) (ds := []) #[false, false, false, false, false, false, false, false, false, false, false, false, false, false] (by kernel_rfl) rfl rfl trivial (fun hHeld => ?_); refine with_tabW bailiwickref3_Datagram.tab9 bailiwickref3_Datagram.bits9 (fun HT_ HW_ => ?_)
                generalize w41.drew = w42 at BK490 HB HR501 hHeld ⊢
                refine pure_ (i := 0) (N := some 27) (v := ?_) (a' := ?_) #[true, false, false, false, false, false, false, false, false, false, false, false, false, false] rfl rfl (any_of HT_.out (by kernel_rfl)) (fun _ _ _ h => h) (Or.inl ⟨by rfl, ?_⟩) ?_ ?_
                rotate_left
                · intro w'
                  go_simp
                  with_reducible rfl
                rotate_left
                · simp only [Act.put, List.setIfInBounds_toArray, List.set_cons_zero, List.set_cons_succ, i64_w, i32_w]
                  rfl
                refine pure_ (i := 1) (N := some 28) (v := ?_) (a' := ?_) #[true, true, false, false, false, false, false, false, false, false, false, false, false, false] rfl rfl (any_of HT_.out (by kernel_rfl)) (fun _ _ _ h => h) (Or.inl ⟨by rfl, ?_⟩) ?_ ?_
                rotate_left
                · intro w'
                  go_simp
                  with_reducible rfl
                rotate_left
                · simp only [Act.put, List.setIfInBounds_toArray, List.set_cons_zero, List.set_cons_succ, i64_w, i32_w]
                  rfl
                refine pure_ (i := 2) (N := some 29) (v := ?_) (a' := ?_) #[true, true, true, false, false, false, false, false, false, false, false, false, false, false] rfl rfl (any_of HT_.out (by kernel_rfl)) (fun _ _ _ h => h) (Or.inl ⟨by rfl, ?_⟩) ?_ ?_
                rotate_left
                · intro w'
                  go_simp
                  with_reducible rfl
                rotate_left
                · simp only [Act.put, List.setIfInBounds_toArray, List.set_cons_zero, List.set_cons_succ, i64_w, i32_w]
                  rfl
                refine pure_ (i := 3) (N := some 30) (v := ?_) (a' := ?_) #[true, true, true, true, false, false, false, false, false, false, false, false, false, false] rfl rfl (any_of HT_.out (by kernel_rfl)) (fun _ _ _ h => h) (Or.inl ⟨by rfl, ?_⟩) ?_ ?_
                rotate_left
                · intro w'
                  go_simp
                  with_reducible rfl
                rotate_left
                · simp only [Act.put, List.setIfInBounds_toArray, List.set_cons_zero, List.set_cons_succ, i64_w, i32_w]
                  rfl
                refine pure_ (i := 4) (N := some 31) (v := ?_) (a' := ?_) #[true, true, true, true, true, false, false, false, false, false, false, false, false, false] rfl rfl (any_of HT_.out (by kernel_rfl)) (fun _ _ _ h => h) (Or.inl ⟨by rfl, ?_⟩) ?_ ?_
                rotate_left
                · intro w'
                  go_simp
                  with_reducible rfl
                rotate_left
                · simp only [Act.put, List.setIfInBounds_toArray, List.set_cons_zero, List.set_cons_succ, i64_w, i32_w]
                  rfl
                refine pure_ (i := 5) (N := some 32) (v := ?_) (a' := ?_) #[true, true, true, true, true, true, false, false, false, false, false, false, false, false] rfl rfl (any_of HT_.out (by kernel_rfl)) (fun _ _ _ h => h) (Or.inl ⟨by rfl, ?_⟩) ?_ ?_
                rotate_left
                · intro w'
                  go_simp
                  with_reducible rfl
                rotate_left
                · simp only [Act.put, List.setIfInBounds_toArray, List.set_cons_zero, List.set_cons_succ, i64_w, i32_w]
                  rfl
                refine pure_ (i := 7) (N := some 34) (v := ?_) (a' := ?_) #[true, true, true, true, true, true, false, true, false, false, false, false, false, false] rfl rfl (any_of HT_.out (by kernel_rfl)) (fun _ _ _ h => h) (Or.inl ⟨by rfl, ?_⟩) ?_ ?_
                rotate_left
                · intro w'
                  go_simp
                  with_reducible rfl
                rotate_left
                · simp only [Act.put, List.setIfInBounds_toArray, List.set_cons_zero, List.set_cons_succ, i64_w, i32_w]
                  rfl
                refine pure_ (i := 8) (N := some 35) (v := ?_) (a' := ?_) #[true, true, true, true, true, true, false, true, true, false, false, false, false, false] rfl rfl (any_of HT_.out (by kernel_rfl)) (fun _ _ _ h => h) (Or.inl ⟨by rfl, ?_⟩) ?_ ?_
                rotate_left
                · intro w'
                  go_simp
                  with_reducible rfl
                rotate_left
                · simp only [Act.put, List.setIfInBounds_toArray, List.set_cons_zero, List.set_cons_succ, i64_w, i32_w]
                  rfl
                refine pure_ (i := 9) (N := some 36) (v := ?_) (a' := ?_) #[true, true, true, true, true, true, false, true, true, true, false, false, false, false] rfl rfl (any_of HT_.out (by kernel_rfl)) (fun _ _ _ h => h) (Or.inl ⟨by rfl, ?_⟩) ?_ ?_
                rotate_left
                · intro w'
                  go_simp
                  with_reducible rfl
                rotate_left
                · simp only [Act.put, List.setIfInBounds_toArray, List.set_cons_zero, List.set_cons_succ, i64_w, i32_w]
                  rfl
                refine one_ (i := 6) (N := some 33) #[true, true, true, true, true, true, true, true, true, true, false, false, false, false] rfl rfl (one_of HT_.out (by kernel_rfl)) (by decide) (fun K hK => ?_)
                refine goes_ Try.func42 (by kernel_rfl) rfl #[.int .u32 a0, .int .u32 a1, .int .i64 17, .int .i64 t491] (by rfl) rfl rfl (by (try simp only [List.map_toArray, List.map_cons, List.map_nil]); first | done | rfl | (simp only [List.length_drop, List.length_take]; rfl)) ?_
                with_reducible refine (bailiwickref3_Pseudo.calls k a0 a1 17 t491 t498 _ A24.out).mono ?_
                rintro e w44 ⟨v499, rfl, ho0, hb⟩
                refine ⟨_, rfl, ?_⟩
                have n0_ := Aside0.mk (Kd.R_lower ho0 (below_size (by repeat (first | (with_reducible first | exact HB.out | apply below_alloc | apply pw_below_drewN | apply below_drew1 | refine below_set ?_ GE490.out) | exact HB.out))))
                have n1_ := Aside0.mk (blk_below (g := gb490) (o := .cells #[.int .i64 0, .int .i64 0, .bool false, .slice none 0 0] 47 (0, 0)) (by (with_reducible repeat (first | refine blk_drewN ?_ _ | refine blk_drew ?_ | refine blk_alloc ?_ _)); exact BK490.out) hb)
                have n2_ := Aside0.mk (below_step (by repeat (first | (with_reducible first | exact HB.out | apply below_alloc | apply pw_below_drewN | apply below_drew1 | refine below_set ?_ GE490.out) | exact HB.out)) hb)
                clear BK490
                clear HB
                have HO500 := n0_
                have BK490 := n1_
                have HB := n2_
                clear n0_ n1_ n2_
                (try clear hb)
                (try clear hb2)
                (try clear hk)
                (try clear hi)
                (try clear ho0)
                obtain ⟨Ao45, co45, eo45⟩ := Kd.R_slice HO500.out
                (first | subst eo45 | (injection eo45 with f1_ f2_ f3_; have f4_ := f1_.symm; have f5_ := f3_.symm; clear f1_ f2_ f3_; subst f4_; subst f5_))
                refine hK.out _ _ trivial (fun hHeld => ?_)
                clear hK K
                refine norm_ (a' := ?_) ?_ ?_
                rotate_left
                · show Act.put _ (some 33) _ = _
                  simp only [Act.put, List.setIfInBounds_toArray, List.set_cons_zero, List.set_cons_succ, i64_w, i32_w]
                  rfl
                refine one_ (i := 10) (N := some 37) #[true, true, true, true, true, true, true, true, true, true, true, false, false, false] rfl rfl (one_of HT_.out (by kernel_rfl)) (by decide) (fun K hK => ?_)
                refine Kd.N_lit_step (Kd.slice 5 (Kd.int .u8)) _ 22 ?hg (N' := 37) ?hd (xs := ([t498, l2.take (t491 : Int).toNat] : List (List Int))) (inner := [.slice Ao45 t498.length co45, .slice A2 (l2.take (t491 : Int).toNat).length c2]) (ok := fun _ => True) (okp := fun _ => True) ?hr ?hp (fun _ _ => trivial) trivial (Below.refl _ _) (Nat.le_refl _) (by simp) ?_; (case hd => rfl); (case hg => rfl); (case hr => first | (go_simp; done) | (go_simp; rfl)); (case hp => exact (Reps.one (show Kd.FK (Kd.slice 5 (Kd.int .u8)) _ _ t498 [.slice Ao45 t498.length co45] from Kd.FK_slice_mk (by exact (Kd.R_reads' HO500.out).2.1) (Kd.F_mono (Kd.C_F (Kd.heap_int .u8) (by repeat (first | exact (Kd.R_reads' HO500.out).2.2 | (with_reducible refine Kd.C_alloc ?_ _) | (with_reducible refine Kd.C_drewN ?_ _) | (with_reducible refine Kd.C_drew ?_)))) (fun _ _ => trivial))) (Reps.one (show Kd.FK (Kd.slice 5 (Kd.int .u8)) _ _ (l2.take (t491 : Int).toNat) [.slice A2 (l2.take (t491 : Int).toNat).length c2] from Kd.FK_slice_mk (by exact HC501.out) (Kd.F_mono (Kd.C_F (Kd.heap_int .u8) (by repeat (first | exact (Kd.C_below HR501.out HB.out) | (with_reducible refine Kd.C_alloc ?_ _) | (with_reducible refine Kd.C_drewN ?_ _) | (with_reducible refine Kd.C_drew ?_)))) (fun _ _ => trivial))) (Reps.none _ _))))
                intro vl505 w46 ho hb hg_ hnew_
                clear hg_ hnew_
                (first | rw [← Ny502.out] at ho | (simp only [Int.reduceToNat] at ho; rw [← Ny502.out] at ho))
                obtain ⟨Al505, cl505, el505⟩ := Kd.N_slice ho
                subst el505
                have hr := (Kd.N_reads' ho).2.2
                have hl := (Kd.N_reads' ho).2.1
                clear ho
                have n0_ := Aside0.mk (Kd.R_below (by (with_reducible repeat (first | apply Kd.R_alloc | apply Kd.R_drewN | apply Kd.R_drew)); exact HO500.out) hb)
                have n1_ := Aside0.mk (blk_below (g := gb490) (o := .cells #[.int .i64 0, .int .i64 0, .bool false, .slice none 0 0] 47 (0, 0)) (by (with_reducible repeat (first | refine blk_drewN ?_ _ | refine blk_drew ?_ | refine blk_alloc ?_ _)); exact BK490.out) hb)
                have n2_ := Aside0.mk (below_step (by repeat (first | (with_reducible first | exact HB.out | apply below_alloc | apply pw_below_drewN | apply below_drew1 | refine below_set ?_ GE490.out) | exact HB.out)) hb)
                have n3_ := Aside0.mk (hr)
                have n4_ := Aside0.mk (hl)
                clear HO500
                clear BK490
                clear HB
                have HO500 := n0_
                have BK490 := n1_
                have HB := n2_
                have HRl505 := n3_
                have HCl505 := n4_
                clear n0_ n1_ n2_ n3_ n4_
                clear hb hr hl
                refine hK.out _ _ trivial (fun hHeld => ?_)
                clear hK K
                refine norm_ (a' := ?_) ?_ ?_
                rotate_left
                · show Act.put _ (some 37) _ = _
                  simp only [Act.put, List.setIfInBounds_toArray, List.set_cons_zero, List.set_cons_succ, i64_w, i32_w]
                  rfl
                refine one_ (i := 11) (N := some 38) #[true, true, true, true, true, true, true, true, true, true, true, true, false, false] rfl rfl (one_of HT_.out (by kernel_rfl)) (by decide) (fun K hK => ?_)
                refine goes_ Try.func27 (by kernel_rfl) rfl #[.slice Al505 y502.length cl505] (by rfl) rfl rfl (by (try simp only [List.map_toArray, List.map_cons, List.map_nil]); first | done | rfl | (simp only [List.length_drop, List.length_take]; rfl)) ?_
                with_reducible refine (bailiwickref1_Sum.calls k _ _ y502 t506 _ ?side1 ?side2 A27.out).mono ?_
                (case side1 => repeat (first | exact (by repeat (first | (with_reducible exact HRl505.out) | (with_reducible refine Kd.C_alloc ?_ _) | (with_reducible refine Kd.C_drewN ?_ _) | (with_reducible refine Kd.C_drew ?_) | exact HRl505.out)) | (with_reducible refine Kd.C_alloc ?_ _) | (with_reducible refine Kd.C_drewN ?_ _) | (with_reducible refine Kd.C_drew ?_)))
                (case side2 => exact HCl505.out)
                rintro e w' ⟨rfl, ⟨nd, rfl⟩⟩
                refine ⟨_, rfl, ?_⟩
                refine hK.out _ _ trivial (fun hHeld => ?_)
                clear hK K
                refine norm_ (a' := ?_) ?_ ?_
                rotate_left
                · show Act.put _ (some 38) _ = _
                  simp only [Act.put, List.setIfInBounds_toArray, List.set_cons_zero, List.set_cons_succ, i64_w, i32_w]
                  rfl
                refine pure_ (i := 12) (N := some 39) (v := ?_) (a' := ?_) #[true, true, true, true, true, true, true, true, true, true, true, true, true, false] rfl rfl (any_of HT_.out (by kernel_rfl)) (fun _ _ _ h => h) (Or.inl ⟨by rfl, ?_⟩) ?_ ?_
                rotate_left
                · intro w'
                  go_simp
                  with_reducible rfl
                rotate_left
                · simp only [Act.put, List.setIfInBounds_toArray, List.set_cons_zero, List.set_cons_succ, i64_w, i32_w]
                  rfl
                refine pure_ (i := 13) (N := some 40) (v := ?_) (a' := ?_) #[true, true, true, true, true, true, true, true, true, true, true, true, true, true] rfl rfl (any_of HT_.out (by kernel_rfl)) (fun _ _ _ h => h) (Or.inl ⟨by rfl, ?_⟩) ?_ ?_
                rotate_left
                · intro w'
                  go_simp
                  with_reducible rfl
                rotate_left
                · simp only [Act.put, List.setIfInBounds_toArray, List.set_cons_zero, List.set_cons_succ, i64_w, i32_w]
                  rfl
                refine done_ (done_of HT_.out (by kernel_rfl)) ?_
                have hcz47_0 : w46.cell? ⟨gb490, 0, none⟩ = some (.int .i64 0) := (blk_cell BK490.out 0).trans rfl
                have hcz47_1 : w46.cell? ⟨gb490, 1, none⟩ = some (.int .i64 0) := (blk_cell BK490.out 1).trans rfl
                have hcz47_2 : w46.cell? ⟨gb490, 2, none⟩ = some (.bool false) := (blk_cell BK490.out 2).trans rfl
                have hcz47_3 : w46.cell? ⟨gb490, 3, none⟩ = some (.slice none 0 0) := (blk_cell BK490.out 3).trans rfl
                have hfz47_0 := blk_frozen BK490.out 0
                have hfz47_1 := blk_frozen BK490.out 1
                have hfz47_2 := blk_frozen BK490.out 2
                have hfz47_3 := blk_frozen BK490.out 3
                try go_wp2
                refine bodyPost_ret (results_ct rfl _ _ gb490 47 #[.int .i64 0, .int .i64 0, .bool false, .slice none 0 0] (0, 0) _ rfl (by (with_reducible repeat (first | refine blk_drewN ?_ _ | refine blk_drew ?_ | refine blk_alloc ?_ _)); refine blk_put (cs := #[.int .i64 0, .int .i64 0, .bool false, .slice none 0 0]) ?_ 3 _ rfl; (with_reducible repeat (first | refine blk_drewN ?_ _ | refine blk_drew ?_ | refine blk_alloc ?_ _)); refine blk_put (cs := #[.int .i64 0, .int .i64 0, .bool false, .slice none 0 0]) ?_ 2 _ rfl; (with_reducible repeat (first | refine blk_drewN ?_ _ | refine blk_drew ?_ | refine blk_alloc ?_ _)); refine blk_put (cs := #[.int .i64 0, .int .i64 0, .bool false, .slice none 0 0]) ?_ 1 _ rfl; (with_reducible repeat (first | refine blk_drewN ?_ _ | refine blk_drew ?_ | refine blk_alloc ?_ _)); refine blk_put (cs := #[.int .i64 0, .int .i64 0, .bool false, .slice none 0 0]) ?_ 0 _ rfl; (with_reducible repeat (first | refine blk_drewN ?_ _ | refine blk_drew ?_ | refine blk_alloc ?_ _)); exact BK490.out) Try.underlying47 rfl (by kernel_rfl)) rfl ?_
                exact ⟨_, by first | rfl | (simp [errW_none, errW_some] <;> rfl) | (simp [*, errW_none, errW_some] <;> rfl), by first | exact Kd.R_nil _ _ _ _ _ | exact Kd.N_nil _ _ _ _ _ | exact Kd.V_nil _ _ _ _ _ | exact Kd.Q_nil _ _ _ _ _ | exact Kd.S_nil _ _ _ _ _, by repeat (first | (with_reducible first | exact HB.out | apply below_alloc | apply pw_below_drewN | apply below_drew1 | refine below_set ?_ GE490.out) | exact HB.out)⟩
            · rw [if_neg c26] at H
              exact absurd H (by simp)
          · rw [if_neg c25] at H
            exact absurd H (by simp)

/-! ### bailiwickref3_BuildWord: function 48 -/
mutual
def bailiwickref3_BuildWord.j0 : Nat → Bool → Int → Int → Int → List Int → Option (List Int × Int)
  | 0, _, _, _, _, _ => none
  | k + 1, x16, x603000, x603001, x603002, x603003 => if x16 = true then (some (([] : List Int), 1)) else (if (x603003.length : Int) > 2020 then (some (([] : List Int), 3)) else ((bailiwickref1_Lay.f k (([(x603000) % 256, (x603001) % 256, 0, 0] : List Int)) 4 (IntKind.u64.wrap (x603002))).bind fun t608 => (bailiwickref3_BuildWord.l0 k t608 0 x603000 x603001 x603002 x603003)))
def bailiwickref3_BuildWord.l0 : Nat → List Int → Int → Int → Int → Int → List Int → Option (List Int × Int)
  | 0, _, _, _, _, _, _ => none
  | k + 1, x4, x5, x603000, x603001, x603002, x603003 => if x5 < (x603003.length : Int) then (if 0 ≤ x5 then (if x4.length < 140737488355328 then (bailiwickref3_BuildWord.l0 k (x4 ++ [rd x603003 x5]) (wrap64 (x5 + 1)) x603000 x603001 x603002 x603003) else (none)) else (none)) else ((bailiwickref1_One.f k x4).bind fun t615 => (if 2 < (x4.length : Int) then (if 3 < (x4.length : Int) then (some (((x4.set (2 : Int).toNat (((wrap64 (65535 - t615)) / 256) % 256)).set (3 : Int).toNat ((wrap64 (65535 - t615)) % 256)), 0)) else (none)) else (none)))
end
def bailiwickref3_BuildWord.f (k : Nat) (a0_0 : Int) (a0_1 : Int) (a0_2 : Int) (l0_3 : List Int) : Option (List Int × Int) := (bailiwickref3_in.f a0_0 255).bind fun t603 => (if t603 = true then ((bailiwickref3_in.f a0_1 255).bind fun t604 => (bailiwickref3_BuildWord.j0 k (!t604) a0_0 a0_1 a0_2 l0_3)) else (bailiwickref3_BuildWord.j0 k true a0_0 a0_1 a0_2 l0_3))
theorem bailiwickref3_BuildWord.mono_l : ∀ k, (∀ y0 y1 y2 y3 y4, LeO (bailiwickref3_BuildWord.j0 k y0 y1 y2 y3 y4) (bailiwickref3_BuildWord.j0 (k + 1) y0 y1 y2 y3 y4)) ∧ (∀ y0 y1 y2 y3 y4 y5, LeO (bailiwickref3_BuildWord.l0 k y0 y1 y2 y3 y4 y5) (bailiwickref3_BuildWord.l0 (k + 1) y0 y1 y2 y3 y4 y5))
  | 0 => ⟨fun _ _ _ _ _ r h => by simp [bailiwickref3_BuildWord.j0] at h, fun _ _ _ _ _ _ r h => by simp [bailiwickref3_BuildWord.l0] at h⟩
  | k + 1 => by
    obtain ⟨ih0, ih1⟩ := bailiwickref3_BuildWord.mono_l k
    refine ⟨?_, ?_⟩
    · intro y0 y1 y2 y3 y4
      unfold bailiwickref3_BuildWord.j0
      repeat' first
      | (with_reducible exact ih0 _ _ _ _ _)
      | (with_reducible exact ih1 _ _ _ _ _ _)
      | (with_reducible exact bailiwickref1_Lay.mono _ _ _ _)
      | (with_reducible exact bailiwickref1_One.mono _ _)
      | (with_reducible exact LeO.refl _)
      | (with_reducible exact LeO.none _)
      | (with_reducible refine LeO.ite ?_ ?_)
      | (with_reducible refine LeO.bind ?_ (fun _ => ?_))
      | exact ih0 _ _ _ _ _
      | exact ih1 _ _ _ _ _ _
      | exact bailiwickref1_Lay.mono _ _ _ _
      | exact bailiwickref1_One.mono _ _
      | exact LeO.none _
      | refine LeO.ite ?_ ?_
      | refine LeO.bind ?_ (fun _ => ?_)
    · intro y0 y1 y2 y3 y4 y5
      unfold bailiwickref3_BuildWord.l0
      repeat' first
      | (with_reducible exact ih0 _ _ _ _ _)
      | (with_reducible exact ih1 _ _ _ _ _ _)
      | (with_reducible exact bailiwickref1_Lay.mono _ _ _ _)
      | (with_reducible exact bailiwickref1_One.mono _ _)
      | (with_reducible exact LeO.refl _)
      | (with_reducible exact LeO.none _)
      | (with_reducible refine LeO.ite ?_ ?_)
      | (with_reducible refine LeO.bind ?_ (fun _ => ?_))
      | exact ih0 _ _ _ _ _
      | exact ih1 _ _ _ _ _ _
      | exact bailiwickref1_Lay.mono _ _ _ _
      | exact bailiwickref1_One.mono _ _
      | exact LeO.none _
      | refine LeO.ite ?_ ?_
      | refine LeO.bind ?_ (fun _ => ?_)
theorem bailiwickref3_BuildWord.mono : ∀ a0 a1 a2 a3 k, LeO (bailiwickref3_BuildWord.f k a0 a1 a2 a3) (bailiwickref3_BuildWord.f (k + 1) a0 a1 a2 a3) := by
  intro a0 a1 a2 a3 k
  obtain ⟨ih0, ih1⟩ := bailiwickref3_BuildWord.mono_l k
  unfold bailiwickref3_BuildWord.f
  repeat' first
      | (with_reducible exact ih0 _ _ _ _ _)
      | (with_reducible exact ih1 _ _ _ _ _ _)
      | (with_reducible exact bailiwickref1_Lay.mono _ _ _ _)
      | (with_reducible exact bailiwickref1_One.mono _ _)
      | (with_reducible exact LeO.refl _)
      | (with_reducible exact LeO.none _)
      | (with_reducible refine LeO.ite ?_ ?_)
      | (with_reducible refine LeO.bind ?_ (fun _ => ?_))
      | exact ih0 _ _ _ _ _
      | exact ih1 _ _ _ _ _ _
      | exact bailiwickref1_Lay.mono _ _ _ _
      | exact bailiwickref1_One.mono _ _
      | exact LeO.none _
      | refine LeO.ite ?_ ?_
      | refine LeO.bind ?_ (fun _ => ?_)
set_option maxHeartbeats 8000000 in
set_option maxRecDepth 100000 in
theorem bailiwickref3_BuildWord.calls (k : Nat) (a0_0 : Int) (a0_1 : Int) (a0_2 : Int) (A0_3 : Option Addr) (c0_3 : Nat) (l0_3 : List Int) (r1 : List Int) (r2 : Int) (w : World) (hr0_3 : Kd.C (Kd.int .u8) w A0_3 l0_3.length l0_3) (hc0_3 : l0_3.length ≤ c0_3) (h : bailiwickref3_BuildWord.f k a0_0 a0_1 a0_2 l0_3 = some (r1, r2)) :
    Calls Try.prog 48 #[.agg #[.int .i64 a0_0, .int .i64 a0_1, .int .u32 a0_2, .slice A0_3 l0_3.length c0_3]] w fun e w' => ∃ v0_ : Value, e = .returned (.tuple #[v0_, .int .i64 r2]) ∧ Kd.R (Kd.int .u8) 5 w' w.heap.size (fun _ => True) v0_ r1 ∧ Below w.heap.size w w' := by
  have hu66 := Try.underlying66
  have HR0_3 := Aside0.mk hr0_3
  have HC0_3 := Aside0.mk hc0_3
  clear hr0_3 hc0_3
  have HB := Aside0.mk (Below.refl w.heap.size w)
  have H : ((bailiwickref3_in.f a0_0 255).bind fun t603 => (if t603 = true then ((bailiwickref3_in.f a0_1 255).bind fun t604 => (bailiwickref3_BuildWord.j0 k (!t604) a0_0 a0_1 a0_2 l0_3)) else (bailiwickref3_BuildWord.j0 k true a0_0 a0_1 a0_2 l0_3))) = some (r1, r2) := h
  clear h
  have HC2 := Aside0.mk H
  clear H
  go_enter Try.func48, Try.ntmps48
  go_upto_region 1 with (first | ((with_reducible refine gate_dst (N := 1) rfl ?_); refine box_event ?hg (N := 1) ?hd (cs := #[.int .i64 a0_0, .int .i64 a0_1, .int .u32 a0_2, .slice A0_3 l0_3.length c0_3]) (t := 66) ?hr ?_; (case hd => rfl); (case hg => rfl); (case hr => first | (go_simp; done) | (go_simp; rfl)); intro gb602 hg w3 hbox hb; have n0_ := Aside0.mk (below_step (by repeat (first | (with_reducible first | exact HB.out | apply below_alloc | apply pw_below_drewN | apply below_drew1) | exact HB.out)) hb); have n1_ := Aside0.mk (hbox); have n2_ := Aside0.mk ((by rw [hg]; exact (below_size (by repeat (first | (with_reducible first | exact HB.out | apply below_alloc | apply pw_below_drewN | apply below_drew1) | exact HB.out))) : w.heap.size ≤ gb602)); have n3_ := Aside0.mk ((by rw [hg]; exact (below_size (by repeat (first | (with_reducible first | exact HB.out | apply below_alloc | apply pw_below_drewN | apply below_drew1) | exact HB.out))) : w.heap.size ≤ gb602)); clear HB; have HB := n0_; have BK602 := n1_; have GW602 := n2_; have GE602 := n3_; clear n0_ n1_ n2_ n3_; clear hb hbox hg))
  (try simp only [Act.put, List.setIfInBounds_toArray, List.set_cons_zero, List.set_cons_succ])
  go_cut [16] (fun v16 wc => ∃ (kq : Nat) (x16_1 : Bool), v16 = .bool x16_1 ∧ Aside0 (bailiwickref3_BuildWord.j0 kq x16_1 a0_0 a0_1 a0_2 l0_3 = some (r1, r2)) ∧ Aside0 (kq ≤ k) ∧ Aside0 (wc.heap[gb602]? = some (.cells #[.int .i64 a0_0, .int .i64 a0_1, .int .u32 a0_2, (.slice A0_3 l0_3.length c0_3)] 66 (0, 0))) ∧ Aside0 (Below w.heap.size w wc))
  case first =>
    have H := HC2.out
    clear HC2
    replace H := Option.bind_eq_some_iff.mp H
    obtain ⟨t603, A40, H⟩ := H
    replace H : (if t603 = true then ((bailiwickref3_in.f a0_1 255).bind fun t604 => (bailiwickref3_BuildWord.j0 k (!t604) a0_0 a0_1 a0_2 l0_3)) else (bailiwickref3_BuildWord.j0 k true a0_0 a0_1 a0_2 l0_3)) = some (r1, r2) := H
    have A4 := Aside0.mk A40
    clear A40
    by_cases c5 : t603 = true
    · subst c5
      have H1 : ((bailiwickref3_in.f a0_1 255).bind fun t604 => (bailiwickref3_BuildWord.j0 k (!t604) a0_0 a0_1 a0_2 l0_3)) = some (r1, r2) := by rw [if_pos rfl] at H; exact H
      clear H
      have H := H1
      clear H1
      replace H := Option.bind_eq_some_iff.mp H
      obtain ⟨t604, A60, H⟩ := H
      replace H : (bailiwickref3_BuildWord.j0 k (!t604) a0_0 a0_1 a0_2 l0_3) = some (r1, r2) := H
      have A6 := Aside0.mk A60
      clear A60
      have H' := Aside0.mk H
      clear H
      have hcz7_0 : w3.cell? ⟨gb602, 0, none⟩ = some (.int .i64 a0_0) := (blk_cell BK602.out 0).trans rfl
      have hcz7_1 : w3.cell? ⟨gb602, 1, none⟩ = some (.int .i64 a0_1) := (blk_cell BK602.out 1).trans rfl
      have hcz7_2 : w3.cell? ⟨gb602, 2, none⟩ = some (.int .u32 a0_2) := (blk_cell BK602.out 2).trans rfl
      have hcz7_3 : w3.cell? ⟨gb602, 3, none⟩ = some (.slice A0_3 l0_3.length c0_3) := (blk_cell BK602.out 3).trans rfl
      have hfz7_0 := blk_frozen BK602.out 0
      have hfz7_1 := blk_frozen BK602.out 1
      have hfz7_2 := blk_frozen BK602.out 2
      have hfz7_3 := blk_frozen BK602.out 3
      go_wp2_with (first | ((with_reducible refine gate_callee (f := 62) rfl ?_); refine goesL_ (some 9) rfl rfl Try.func62 (by kernel_rfl) rfl #[.int .i64 a0_0, .int .i64 255] rfl (by (try simp only [List.map_toArray, List.map_cons, List.map_nil]); first | done | rfl | (simp only [List.length_drop, List.length_take]; rfl)) ?_; (with_reducible refine (bailiwickref3_in.calls a0_0 255 true _ A4.out).mono ?_); rintro e w' ⟨rfl, ⟨nd, rfl⟩⟩; refine ⟨_, rfl, ?_⟩) | (go_at_call 62; (with_reducible refine (bailiwickref3_in.calls a0_1 255 t604 _ A6.out).mono ?_); rintro e w' ⟨rfl, ⟨nd, rfl⟩⟩))
      go_meet
      case rel => exact ⟨_, (!t604), (by first | rfl | (simp; done) | (simp [*]; done)), H', ⟨by first | omega | exact Nat.le_refl _⟩, ⟨by (with_reducible repeat (first | refine blk_drewN ?_ _ | refine blk_drew ?_ | refine blk_alloc ?_ _)); exact BK602.out⟩, ⟨by repeat (first | (with_reducible first | exact HB.out | apply below_alloc | apply pw_below_drewN | apply below_drew1 | refine below_set ?_ GE602.out) | exact HB.out)⟩⟩
    · replace c5 := Bool.eq_false_iff.mpr c5
      subst c5
      have H1 : (bailiwickref3_BuildWord.j0 k true a0_0 a0_1 a0_2 l0_3) = some (r1, r2) := by rw [if_neg (show ¬ (false = true) by decide)] at H; exact H
      clear H
      have H := H1
      clear H1
      have H' := Aside0.mk H
      clear H
      have hcz8_0 : w3.cell? ⟨gb602, 0, none⟩ = some (.int .i64 a0_0) := (blk_cell BK602.out 0).trans rfl
      have hcz8_1 : w3.cell? ⟨gb602, 1, none⟩ = some (.int .i64 a0_1) := (blk_cell BK602.out 1).trans rfl
      have hcz8_2 : w3.cell? ⟨gb602, 2, none⟩ = some (.int .u32 a0_2) := (blk_cell BK602.out 2).trans rfl
      have hcz8_3 : w3.cell? ⟨gb602, 3, none⟩ = some (.slice A0_3 l0_3.length c0_3) := (blk_cell BK602.out 3).trans rfl
      have hfz8_0 := blk_frozen BK602.out 0
      have hfz8_1 := blk_frozen BK602.out 1
      have hfz8_2 := blk_frozen BK602.out 2
      have hfz8_3 := blk_frozen BK602.out 3
      go_wp2_with (first | ((with_reducible refine gate_callee (f := 62) rfl ?_); refine goesL_ (some 9) rfl rfl Try.func62 (by kernel_rfl) rfl #[.int .i64 a0_0, .int .i64 255] rfl (by (try simp only [List.map_toArray, List.map_cons, List.map_nil]); first | done | rfl | (simp only [List.length_drop, List.length_take]; rfl)) ?_; (with_reducible refine (bailiwickref3_in.calls a0_0 255 false _ A4.out).mono ?_); rintro e w' ⟨rfl, ⟨nd, rfl⟩⟩; refine ⟨_, rfl, ?_⟩))
      go_meet
      case rel => exact ⟨_, (true), (by first | rfl | (simp; done) | (simp [*]; done)), H', ⟨by first | omega | exact Nat.le_refl _⟩, ⟨by (with_reducible repeat (first | refine blk_drewN ?_ _ | refine blk_drew ?_ | refine blk_alloc ?_ _)); exact BK602.out⟩, ⟨by repeat (first | (with_reducible first | exact HB.out | apply below_alloc | apply pw_below_drewN | apply below_drew1 | refine below_set ?_ GE602.out) | exact HB.out)⟩⟩
  case rest =>
    clear HC2
    try clear p2
    try clear c4
    try clear c5
    try clear c6
    try clear hcz7_0
    try clear hcz7_1
    try clear hcz7_2
    try clear hcz7_3
    try clear hcz8_0
    try clear hcz8_1
    try clear hcz8_2
    try clear hcz8_3
    try clear hfz7_0
    try clear hfz7_1
    try clear hfz7_2
    try clear hfz7_3
    try clear hfz8_0
    try clear hfz8_1
    try clear hfz8_2
    try clear hfz8_3
    obtain ⟨kq, x16_1, rfl, HA, HJ1, BK602, HB⟩ := hcut
    cases kq with
    | zero => exact absurd HA.out (by simp [bailiwickref3_BuildWord.j0])
    | succ kj1 =>
      have H := HA.out
      clear HA
      simp only [bailiwickref3_BuildWord.j0] at H
      by_cases c9 : x16_1 = true
      · subst c9
        have H1 : (some (([] : List Int), 1)) = some (r1, r2) := by rw [if_pos rfl] at H; exact H
        clear H
        have H := H1
        clear H1
        simp only [Option.some.injEq, Prod.mk.injEq] at H
        obtain ⟨rfl, rfl⟩ := H
        go_wp2
        go_ret2
        exact ⟨_, by first | rfl | (simp [errW_none, errW_some] <;> rfl) | (simp [*, errW_none, errW_some] <;> rfl), by first | exact Kd.R_nil _ _ _ _ _ | exact Kd.N_nil _ _ _ _ _ | exact Kd.V_nil _ _ _ _ _ | exact Kd.Q_nil _ _ _ _ _ | exact Kd.S_nil _ _ _ _ _, by repeat (first | (with_reducible first | exact HB.out | apply below_alloc | apply pw_below_drewN | apply below_drew1 | refine below_set ?_ GE602.out) | exact HB.out)⟩
      · replace c9 := Bool.eq_false_iff.mpr c9
        subst c9
        have H1 : (if (l0_3.length : Int) > 2020 then (some (([] : List Int), 3)) else ((bailiwickref1_Lay.f kj1 (([(a0_0) % 256, (a0_1) % 256, 0, 0] : List Int)) 4 (IntKind.u64.wrap (a0_2))).bind fun t608 => (bailiwickref3_BuildWord.l0 kj1 t608 0 a0_0 a0_1 a0_2 l0_3))) = some (r1, r2) := by rw [if_neg (show ¬ (false = true) by decide)] at H; exact H
        clear H
        have H := H1
        clear H1
        by_cases c10 : (l0_3.length : Int) > 2020
        · rw [if_pos c10] at H
          have c10b0 : decide (2020 < (l0_3.length : Int)) = true := decide_eq_true c10
          have c10b1 : decide (2020 < l0_3.length) = true := decide_eq_true (by omega)
          clear c10
          simp only [Option.some.injEq, Prod.mk.injEq] at H
          obtain ⟨rfl, rfl⟩ := H
          have hcz11_0 : wc.cell? ⟨gb602, 0, none⟩ = some (.int .i64 a0_0) := (blk_cell BK602.out 0).trans rfl
          have hcz11_1 : wc.cell? ⟨gb602, 1, none⟩ = some (.int .i64 a0_1) := (blk_cell BK602.out 1).trans rfl
          have hcz11_2 : wc.cell? ⟨gb602, 2, none⟩ = some (.int .u32 a0_2) := (blk_cell BK602.out 2).trans rfl
          have hcz11_3 : wc.cell? ⟨gb602, 3, none⟩ = some (.slice A0_3 l0_3.length c0_3) := (blk_cell BK602.out 3).trans rfl
          have hfz11_0 := blk_frozen BK602.out 0
          have hfz11_1 := blk_frozen BK602.out 1
          have hfz11_2 := blk_frozen BK602.out 2
          have hfz11_3 := blk_frozen BK602.out 3
          go_wp2
          go_ret2
          exact ⟨_, by first | rfl | (simp [errW_none, errW_some] <;> rfl) | (simp [*, errW_none, errW_some] <;> rfl), by first | exact Kd.R_nil _ _ _ _ _ | exact Kd.N_nil _ _ _ _ _ | exact Kd.V_nil _ _ _ _ _ | exact Kd.Q_nil _ _ _ _ _ | exact Kd.S_nil _ _ _ _ _, by repeat (first | (with_reducible first | exact HB.out | apply below_alloc | apply pw_below_drewN | apply below_drew1 | refine below_set ?_ GE602.out) | exact HB.out)⟩
        · rw [if_neg c10] at H
          have c10b0 : decide (2020 < (l0_3.length : Int)) = false := decide_eq_false c10
          have c10b1 : decide (2020 < l0_3.length) = false := decide_eq_false (by omega)
          clear c10
          obtain ⟨y605, hy605⟩ : ∃ y_ : List Int, y_ = (([(a0_0) % 256, (a0_1) % 256, 0, 0] : List Int)) := ⟨_, rfl⟩
          replace H : ((bailiwickref1_Lay.f kj1 y605 4 (IntKind.u64.wrap (a0_2))).bind fun t608 => (bailiwickref3_BuildWord.l0 kj1 t608 0 a0_0 a0_1 a0_2 l0_3)) = some (r1, r2) := by first | (rw [hy605]; with_reducible exact H) | (have H2_ := (Option.bind_some _ _).symm.trans H; rw [hy605]; with_reducible exact H2_) | (have H2_ := (Option.bind_some _ _).symm.trans H; with_reducible exact H2_) | with_reducible exact H | (rw [hy605]; exact H) | exact H
          have Ny605 := Aside0.mk hy605
          clear hy605
          replace H := Option.bind_eq_some_iff.mp H
          obtain ⟨t608, A120, H⟩ := H
          replace H : (bailiwickref3_BuildWord.l0 kj1 t608 0 a0_0 a0_1 a0_2 l0_3) = some (r1, r2) := H
          have A12 := Aside0.mk A120
          clear A120
          have H' := Aside0.mk H
          clear H
          have hcz13_0 : wc.cell? ⟨gb602, 0, none⟩ = some (.int .i64 a0_0) := (blk_cell BK602.out 0).trans rfl
          have hcz13_1 : wc.cell? ⟨gb602, 1, none⟩ = some (.int .i64 a0_1) := (blk_cell BK602.out 1).trans rfl
          have hcz13_2 : wc.cell? ⟨gb602, 2, none⟩ = some (.int .u32 a0_2) := (blk_cell BK602.out 2).trans rfl
          have hcz13_3 : wc.cell? ⟨gb602, 3, none⟩ = some (.slice A0_3 l0_3.length c0_3) := (blk_cell BK602.out 3).trans rfl
          have hfz13_0 := blk_frozen BK602.out 0
          have hfz13_1 := blk_frozen BK602.out 1
          have hfz13_2 := blk_frozen BK602.out 2
          have hfz13_3 := blk_frozen BK602.out 3
          go_wp2_with (first | ((with_reducible refine gate_dst (N := 27) rfl ?_); refine Kd.R_lit (Kd.int .u8) _ 5 ?hg (N := 27) ?hd (xs := ([(a0_0) % 256, (a0_1) % 256, 0, 0] : List Int)) (inner := [.int .u8 ((a0_0) % 256), .int .u8 ((a0_1) % 256), .int .u8 0, .int .u8 0]) (ok := fun _ => True) (okp := fun _ => True) ?hr ?hp (fun _ hk => hk) trivial (Below.refl _ _) (Nat.le_refl _) (by simp) ?_; (case hd => rfl); (case hg => rfl); (case hr => first | (go_simp; done) | (go_simp; rfl)); (case hp => exact (Reps.one (show Kd.M (Kd.int .u8) _ _ _ ((a0_0) % 256) [.int .u8 ((a0_0) % 256)] from rfl) (Reps.one (show Kd.M (Kd.int .u8) _ _ _ ((a0_1) % 256) [.int .u8 ((a0_1) % 256)] from rfl) (Reps.one (show Kd.M (Kd.int .u8) _ _ _ 0 [.int .u8 0] from rfl) (Reps.one (show Kd.M (Kd.int .u8) _ _ _ 0 [.int .u8 0] from rfl) (Reps.none _ _)))))); intro v606 w14 ho15 hb hg_ hnew_; clear hg_ hnew_; (first | rw [← Ny605.out] at ho15 | (simp only [Int.reduceToNat] at ho15; rw [← Ny605.out] at ho15)); have n0_ := Aside0.mk (Kd.R_lower ho15 (below_size (by repeat (first | (with_reducible first | exact HB.out | apply below_alloc | apply pw_below_drewN | apply below_drew1 | refine below_set ?_ GE602.out) | exact HB.out)))); have n1_ := Aside0.mk (blk_below (g := gb602) (o := .cells #[.int .i64 a0_0, .int .i64 a0_1, .int .u32 a0_2, .slice A0_3 l0_3.length c0_3] 66 (0, 0)) (by (with_reducible repeat (first | refine blk_drewN ?_ _ | refine blk_drew ?_ | refine blk_alloc ?_ _)); exact BK602.out) hb); have n2_ := Aside0.mk (below_step (by repeat (first | (with_reducible first | exact HB.out | apply below_alloc | apply pw_below_drewN | apply below_drew1 | refine below_set ?_ GE602.out) | exact HB.out)) hb); clear BK602; clear HB; have HO607 := n0_; have BK602 := n1_; have HB := n2_; clear n0_ n1_ n2_; clear hb ho15; have hcz16_0 : w14.cell? ⟨gb602, 0, none⟩ = some (.int .i64 a0_0) := (blk_cell BK602.out 0).trans rfl; have hcz16_1 : w14.cell? ⟨gb602, 1, none⟩ = some (.int .i64 a0_1) := (blk_cell BK602.out 1).trans rfl; have hcz16_2 : w14.cell? ⟨gb602, 2, none⟩ = some (.int .u32 a0_2) := (blk_cell BK602.out 2).trans rfl; have hcz16_3 : w14.cell? ⟨gb602, 3, none⟩ = some (.slice A0_3 l0_3.length c0_3) := (blk_cell BK602.out 3).trans rfl; have hfz16_0 := blk_frozen BK602.out 0; have hfz16_1 := blk_frozen BK602.out 1; have hfz16_2 := blk_frozen BK602.out 2; have hfz16_3 := blk_frozen BK602.out 3; obtain ⟨Ao17, co17, eo17⟩ := Kd.R_slice HO607.out; subst eo17) | ((with_reducible refine gate_callee (f := 63) rfl ?_); refine goesL_ (some 32) rfl rfl Try.func63 (by kernel_rfl) rfl #[.slice Ao17 y605.length co17, .int .i64 4, .int .u64 (IntKind.u64.wrap (a0_2))] rfl (by (try simp only [List.map_toArray, List.map_cons, List.map_nil]); first | done | rfl | (simp only [List.length_drop, List.length_take]; rfl)) ?_; (with_reducible refine (bailiwickref1_Lay.calls kj1 (fun k_ => some k_ = (.slice Ao17 y605.length co17 : Value).ownBlock) (.slice Ao17 y605.length co17) y605 4 (IntKind.u64.wrap (a0_2)) t608 w _ ?side1 ?side2 A12.out).mono ?_); (case side1 => repeat (first | (with_reducible first | exact HB.out | apply below_alloc | apply pw_below_drewN | apply below_drew1 | refine below_set ?_ GE602.out) | exact HB.out)); (case side2 => exact Kd.R_tight rfl HO607.out); rintro e w18 ⟨v609, rfl, ho0, hb, hkp⟩; refine ⟨_, rfl, ?_⟩; have n0_ := Aside0.mk (blk_kept (by (with_reducible repeat (first | refine blk_drewN ?_ _ | refine blk_drew ?_ | refine blk_alloc ?_ _)); exact BK602.out) hkp (fun hs_ => (fun e_ => (Kd.R_ne HO607.out BK602.out (by decide)) e_) hs_)); have n1_ := Aside0.mk (Kd.R_mono (ok' := fun k_ => True) ho0 (fun k_ hk_ => trivial)); have n2_ := Aside0.mk (hb); clear BK602; clear HB; clear HO607; have BK602 := n0_; have HO610 := n1_; have HB := n2_; clear n0_ n1_ n2_; (try clear hb); (try clear hkp); (try clear ho0)))
          go_loopg [4, 5] kj1 (fun kq v4 v5 w' => ∃ (x4_2 : List Int) (x5_2 : Int), v5 = .int .i64 x5_2 ∧ Aside0 (bailiwickref3_BuildWord.l0 kq x4_2 x5_2 a0_0 a0_1 a0_2 l0_3 = some (r1, r2)) ∧ Aside0 (kq ≤ kj1) ∧ Aside0 (Kd.R (Kd.int .u8) 5 w' w.heap.size (fun _ => True) v4 x4_2) ∧ Aside0 (w'.heap[gb602]? = some (.cells #[.int .i64 a0_0, .int .i64 a0_1, .int .u32 a0_2, (.slice A0_3 l0_3.length c0_3)] 66 (0, 0))) ∧ Aside0 (Below w.heap.size w w'))
          case atStart => exact ⟨(t608), (0), (by first | rfl | (simp; done) | (simp [*]; done)), H', ⟨Nat.le_refl _⟩, ⟨by (with_reducible repeat (first | apply Kd.R_alloc | apply Kd.R_drewN | apply Kd.R_drew)); exact HO610.out⟩, ⟨by (with_reducible repeat (first | refine blk_drewN ?_ _ | refine blk_drew ?_ | refine blk_alloc ?_ _)); exact BK602.out⟩, ⟨by repeat (first | (with_reducible first | exact HB.out | apply below_alloc | apply pw_below_drewN | apply below_drew1 | refine below_set ?_ GE602.out) | exact HB.out)⟩⟩
          case round =>
            clear H'
            try clear c1
            try clear p2
            try clear c4
            try clear c5
            try clear c6
            try clear c9
            try clear c10
            try clear c10b0
            try clear c10b1
            try clear hcz11_0
            try clear hcz11_1
            try clear hcz11_2
            try clear hcz11_3
            try clear hcz13_0
            try clear hcz13_1
            try clear hcz13_2
            try clear hcz13_3
            try clear hcz16_0
            try clear hcz16_1
            try clear hcz16_2
            try clear hcz16_3
            try clear hcz7_0
            try clear hcz7_1
            try clear hcz7_2
            try clear hcz7_3
            try clear hcz8_0
            try clear hcz8_1
            try clear hcz8_2
            try clear hcz8_3
            try clear hfz11_0
            try clear hfz11_1
            try clear hfz11_2
            try clear hfz11_3
            try clear hfz13_0
            try clear hfz13_1
            try clear hfz13_2
            try clear hfz13_3
            try clear hfz16_0
            try clear hfz16_1
            try clear hfz16_2
            try clear hfz16_3
            try clear hfz7_0
            try clear hfz7_1
            try clear hfz7_2
            try clear hfz7_3
            try clear hfz8_0
            try clear hfz8_1
            try clear hfz8_2
            try clear hfz8_3
            try clear p2
            obtain ⟨x4_2, x5_2, rfl, HA, HK2, HO_4, BK602, HB⟩ := hrel
            cases gk with
            | zero => exact absurd HA.out (by simp [bailiwickref3_BuildWord.l0])
            | succ k2 =>
              have H := HA.out
              clear HA
              simp only [bailiwickref3_BuildWord.l0] at H
              by_cases c19 : x5_2 < (l0_3.length : Int)
              · rw [if_pos c19] at H
                have c19b0 : decide (x5_2 < (l0_3.length : Int)) = true := decide_eq_true c19
                clear c19
                by_cases c20 : 0 ≤ x5_2
                · rw [if_pos c20] at H
                  have c20b0 : decide (0 ≤ x5_2) = true := decide_eq_true c20
                  clear c20
                  by_cases c21 : x4_2.length < 140737488355328
                  · rw [if_pos c21] at H
                    have LMc21 := Aside0.mk c21
                    clear c21
                    obtain ⟨y612, hy612⟩ : ∃ y_ : List Int, y_ = (x4_2 ++ [rd l0_3 x5_2]) := ⟨_, rfl⟩
                    replace H : (bailiwickref3_BuildWord.l0 k2 y612 (wrap64 (x5_2 + 1)) a0_0 a0_1 a0_2 l0_3) = some (r1, r2) := by first | (rw [hy612]; with_reducible exact H) | (have H2_ := (Option.bind_some _ _).symm.trans H; rw [hy612]; with_reducible exact H2_) | (have H2_ := (Option.bind_some _ _).symm.trans H; with_reducible exact H2_) | with_reducible exact H | (rw [hy612]; exact H) | exact H
                    have Ny612 := Aside0.mk hy612
                    clear hy612
                    have H' := Aside0.mk H
                    clear H
                    have hcz22_0 : wr.cell? ⟨gb602, 0, none⟩ = some (.int .i64 a0_0) := (blk_cell BK602.out 0).trans rfl
                    have hcz22_1 : wr.cell? ⟨gb602, 1, none⟩ = some (.int .i64 a0_1) := (blk_cell BK602.out 1).trans rfl
                    have hcz22_2 : wr.cell? ⟨gb602, 2, none⟩ = some (.int .u32 a0_2) := (blk_cell BK602.out 2).trans rfl
                    have hcz22_3 : wr.cell? ⟨gb602, 3, none⟩ = some (.slice A0_3 l0_3.length c0_3) := (blk_cell BK602.out 3).trans rfl
                    have hfz22_0 := blk_frozen BK602.out 0
                    have hfz22_1 := blk_frozen BK602.out 1
                    have hfz22_2 := blk_frozen BK602.out 2
                    have hfz22_3 := blk_frozen BK602.out 3
                    have p611 : 0 ≤ (x5_2 : Int) := of_decide_eq_true (by first | (with_reducible assumption) | assumption)
                    have q611 : x5_2 < (l0_3.length : Int) := of_decide_eq_true (by first | (with_reducible assumption) | assumption)
                    obtain ⟨ad611, e611, hx611_0⟩ := Kd.at_int HR0_3.out x5_2 p611 q611
                    cases e611
                    replace hx611_0 := (HB.out.cell (World.block_lt_of_cell? w _ hx611_0)).trans hx611_0
                    replace p611 := eq_true p611
                    replace q611 := eq_true q611
                    go_wp2_with (first | ((with_reducible refine gate_builtin (b := .append) (xs := #[.tmp 40, .tmp 46]) rfl ?_); at_builtin; refine Kd.R_append (Kd.int .u8) (w0 := w) w.heap.size rfl (.tmp 40) (.tmp 46) 22 5 (.int .u8 0) 1 rfl Try.underlying22 info5 rfl (by decide) (by omega) u4 x4_2 (rd l0_3 x5_2) [.int .u8 (rd l0_3 x5_2)] (fun _ => True) (fun _ => False) rfl rfl ?aP (fun _ hk => hk.elim) ?aF ?aO ?aB ?aS ?aL ?_; (case aP => exact rfl); (case aB => exact (by repeat (first | (with_reducible first | exact HB.out | apply below_alloc | apply pw_below_drewN | apply below_drew1 | refine below_set ?_ GE602.out) | exact HB.out))); (case aF => exact (fun _ _ => trivial)); (case aO => exact (by (with_reducible repeat (first | apply Kd.R_alloc | apply Kd.R_drewN | apply Kd.R_drew)); exact HO_4.out)); (case aS => exact (below_size (by repeat (first | (with_reducible first | exact HB.out | apply below_alloc | apply pw_below_drewN | apply below_drew1 | refine below_set ?_ GE602.out) | exact HB.out)))); (case aL => have := LMc21.out; omega); intro v613 w23 ho hb hg hat; rw [← Ny612.out] at ho; have n0_ := Aside0.mk (blk_grown (g := gb602) (o := .cells #[.int .i64 a0_0, .int .i64 a0_1, .int .u32 a0_2, .slice (some ad611) l0_3.length c0_3] 66 (0, 0)) (by (with_reducible repeat (first | refine blk_drewN ?_ _ | refine blk_drew ?_ | refine blk_alloc ?_ _)); exact BK602.out) hg (Kd.R_ne HO_4.out BK602.out (by decide))); have n1_ := Aside0.mk (hb); have n2_ := Aside0.mk (ho); clear BK602; clear HB; clear HO_4; have BK602 := n0_; have HB := n1_; have HO614 := n2_; clear n0_ n1_ n2_; clear ho hb hg hat))
                    go_roundg k2
                    case measure => have := HJ1.out; have := HK2.out; omega
                    case rel => exact ⟨(y612), (wrap64 (x5_2 + 1)), (by first | rfl | (simp; done) | (simp [*]; done)), H', ⟨by have := HJ1.out; have := HK2.out; omega⟩, ⟨by (with_reducible repeat (first | apply Kd.R_alloc | apply Kd.R_drewN | apply Kd.R_drew)); exact HO614.out⟩, ⟨by (with_reducible repeat (first | refine blk_drewN ?_ _ | refine blk_drew ?_ | refine blk_alloc ?_ _)); exact BK602.out⟩, ⟨by repeat (first | (with_reducible first | exact HB.out | apply below_alloc | apply pw_below_drewN | apply below_drew1 | refine below_set ?_ GE602.out) | exact HB.out)⟩⟩
                  · rw [if_neg c21] at H
                    exact absurd H (by simp)
                · rw [if_neg c20] at H
                  exact absurd H (by simp)
              · rw [if_neg c19] at H
                have c19b0 : decide (x5_2 < (l0_3.length : Int)) = false := decide_eq_false c19
                clear c19
                replace H := Option.bind_eq_some_iff.mp H
                obtain ⟨t615, A240, H⟩ := H
                replace H : (if 2 < (x4_2.length : Int) then (if 3 < (x4_2.length : Int) then (some (((x4_2.set (2 : Int).toNat (((wrap64 (65535 - t615)) / 256) % 256)).set (3 : Int).toNat ((wrap64 (65535 - t615)) % 256)), 0)) else (none)) else (none)) = some (r1, r2) := H
                have A24 := Aside0.mk A240
                clear A240
                by_cases c25 : 2 < (x4_2.length : Int)
                · rw [if_pos c25] at H
                  have c25b0 : decide (2 < (x4_2.length : Int)) = true := decide_eq_true c25
                  have c25b1 : decide (2 < x4_2.length) = true := decide_eq_true (by omega)
                  clear c25
                  obtain ⟨y616, hy616⟩ : ∃ y_ : List Int, y_ = (x4_2.set (2 : Int).toNat (((wrap64 (65535 - t615)) / 256) % 256)) := ⟨_, rfl⟩
                  replace H : (if 3 < (x4_2.length : Int) then (some ((y616.set (3 : Int).toNat ((wrap64 (65535 - t615)) % 256)), 0)) else (none)) = some (r1, r2) := by first | (rw [hy616]; with_reducible exact H) | (have H2_ := (Option.bind_some _ _).symm.trans H; rw [hy616]; with_reducible exact H2_) | (have H2_ := (Option.bind_some _ _).symm.trans H; with_reducible exact H2_) | with_reducible exact H | (rw [hy616]; exact H) | exact H
                  have Ny616 := Aside0.mk hy616
                  clear hy616
                  by_cases c27 : 3 < (x4_2.length : Int)
                  · rw [if_pos c27] at H
                    have c27b0 : decide (3 < (x4_2.length : Int)) = true := decide_eq_true c27
                    have c27b1 : decide (3 < x4_2.length) = true := decide_eq_true (by omega)
                    clear c27
                    obtain ⟨y617, hy617⟩ : ∃ y_ : List Int, y_ = (y616.set (3 : Int).toNat ((wrap64 (65535 - t615)) % 256)) := ⟨_, rfl⟩
                    replace H : (some (y617, 0)) = some (r1, r2) := by first | (rw [hy617]; with_reducible exact H) | (have H2_ := (Option.bind_some _ _).symm.trans H; rw [hy617]; with_reducible exact H2_) | (have H2_ := (Option.bind_some _ _).symm.trans H; with_reducible exact H2_) | with_reducible exact H | (rw [hy617]; exact H) | exact H
                    have Ny617 := Aside0.mk hy617
                    clear hy617
                    simp only [Option.some.injEq, Prod.mk.injEq] at H
                    obtain ⟨rfl, rfl⟩ := H
                    have hcz29_0 : wr.cell? ⟨gb602, 0, none⟩ = some (.int .i64 a0_0) := (blk_cell BK602.out 0).trans rfl
                    have hcz29_1 : wr.cell? ⟨gb602, 1, none⟩ = some (.int .i64 a0_1) := (blk_cell BK602.out 1).trans rfl
                    have hcz29_2 : wr.cell? ⟨gb602, 2, none⟩ = some (.int .u32 a0_2) := (blk_cell BK602.out 2).trans rfl
                    have hcz29_3 : wr.cell? ⟨gb602, 3, none⟩ = some (.slice A0_3 l0_3.length c0_3) := (blk_cell BK602.out 3).trans rfl
                    have hfz29_0 := blk_frozen BK602.out 0
                    have hfz29_1 := blk_frozen BK602.out 1
                    have hfz29_2 := blk_frozen BK602.out 2
                    have hfz29_3 := blk_frozen BK602.out 3
                    obtain ⟨Ao30, co30, eo30⟩ := Kd.R_slice HO_4.out
                    subst eo30
                    go_wp2_with (first | ((with_reducible refine gate_callee (f := 67) rfl ?_); refine goesL_ (some 49) rfl rfl Try.func67 (by kernel_rfl) rfl #[.slice Ao30 x4_2.length co30] rfl (by (try simp only [List.map_toArray, List.map_cons, List.map_nil]); first | done | rfl | (simp only [List.length_drop, List.length_take]; rfl)) ?_; (with_reducible refine (bailiwickref1_One.calls k2 _ _ x4_2 t615 _ ?side1 ?side2 A24.out).mono ?_); (case side1 => repeat (first | exact (Kd.R_reads' HO_4.out).2.2 | (with_reducible refine Kd.C_alloc ?_ _) | (with_reducible refine Kd.C_drewN ?_ _) | (with_reducible refine Kd.C_drew ?_))); (case side2 => exact (Kd.R_reads' HO_4.out).2.1); rintro e w31 ⟨rfl, hb⟩; refine ⟨_, rfl, ?_⟩; have n0_ := Aside0.mk (Kd.R_below (by (with_reducible repeat (first | apply Kd.R_alloc | apply Kd.R_drewN | apply Kd.R_drew)); exact HO_4.out) hb); have n1_ := Aside0.mk (blk_below (g := gb602) (o := .cells #[.int .i64 a0_0, .int .i64 a0_1, .int .u32 a0_2, .slice A0_3 l0_3.length c0_3] 66 (0, 0)) (by (with_reducible repeat (first | refine blk_drewN ?_ _ | refine blk_drew ?_ | refine blk_alloc ?_ _)); exact BK602.out) hb); have n2_ := Aside0.mk (below_step (by repeat (first | (with_reducible first | exact HB.out | apply below_alloc | apply pw_below_drewN | apply below_drew1 | refine below_set ?_ GE602.out) | exact HB.out)) hb); clear HO_4; clear BK602; clear HB; have HO_4 := n0_; have BK602 := n1_; have HB := n2_; clear n0_ n1_ n2_; (try clear hb); (try clear hb2); (try clear hk); (try clear hi); have p26 : 0 ≤ (2 : Int) := (by omega); have q26 : (2 : Int) < ((x4_2.length : Int) : Int) := of_decide_eq_true (by first | (with_reducible assumption) | assumption); have qi26 : (2 < x4_2.length) = True := eq_true (by omega); obtain ⟨go26, co26, eo26, gb26, gl26, cl26, HG26⟩ := Kd.R_form HO_4.out (by omega); (first | cases eo26 | (injection eo26 with ea_ en_ ec_; (first | subst ea_ | (injection ea_ with ea_; subst ea_)); subst ec_; clear en_)); have GB26 := Aside0.mk gb26; have GG26 := Aside0.mk HG26; clear gb26 gl26 HG26; obtain ⟨hx26_0, hf26_0⟩ := Kd.R_celln 0 HO_4.out (2 : Int) p26 q26; (try rw [show ((2 : Int)).toNat = 2 from rfl] at hx26_0); (try simp only [Nat.reduceMul, Nat.zero_mul, Nat.zero_add, Nat.reduceAdd] at hx26_0); (try rw [show ((2 : Int)).toNat = 2 from rfl] at hf26_0); (try simp only [Nat.reduceMul, Nat.zero_mul, Nat.zero_add, Nat.reduceAdd] at hf26_0); replace p26 := eq_true p26; replace q26 := eq_true q26; obtain ⟨hy32_, hz32_⟩ := Kd.R_celln 0 HO_4.out (2 : Int) (by omega) (of_decide_eq_true (by first | (with_reducible assumption) | assumption)); (try simp only [Int.reduceToNat, Int.toNat_zero, Int.toNat_ofNat, Nat.reduceMul, Nat.zero_mul, Nat.zero_add] at hy32_ hz32_); (try rw [show ((2 : Int)).toNat = 2 from rfl] at hy32_); (try rw [show ((2 : Int)).toNat = 2 from rfl] at hz32_); have HP32 := Kd.R_putg HO_4.out (2 : Int) (((wrap64 (65535 - t615)) / 256) % 256)) | ((with_reducible refine gate_store (t := 5) (p := 55) rfl ?_); refine store_event (t := 5) (p := 55) (v := ?vo_w33) (w1 := (w31.setCell ⟨go26, (2 : Int).toNat, none⟩ (.int .u8 (((wrap64 (65535 - t615)) / 256) % 256)))) ?hg ?ho ?hn ?hr ?_; (case ho => rfl); (case hg => rfl); (case hn => rfl); (case hr => first | (go_simp; done) | (go_simp; rfl)); intro w33 hw; have hg : w31.grownBy w33 (some go26) := (by rw [hw]; exact HP32.2); have hp_ : Kd.R (Kd.int .u8) 5 w33 w.heap.size (fun _ => True) (.slice (some ⟨go26, 0, none⟩) x4_2.length co30) y616 := (by rw [hw, Ny616.out]; exact HP32.1); clear HP32; have n0_ := Aside0.mk (hp_); have n1_ := Aside0.mk (blk_grown (g := gb602) (o := .cells #[.int .i64 a0_0, .int .i64 a0_1, .int .u32 a0_2, .slice A0_3 l0_3.length c0_3] 66 (0, 0)) (by (with_reducible repeat (first | refine blk_drewN ?_ _ | refine blk_drew ?_ | refine blk_alloc ?_ _)); exact BK602.out) hg (Kd.R_ne HO_4.out BK602.out (by decide))); have n2_ := Aside0.mk ((by rw [hw]; exact below_set (HB.out) GB26.out : Below w.heap.size w w33)); clear HO_4; clear BK602; clear HB; have HO_4 := n0_; have BK602 := n1_; have HB := n2_; clear n0_ n1_ n2_; clear hg hw hp_; have p28 : 0 ≤ (3 : Int) := (by omega); have q28 : (3 : Int) < ((x4_2.length : Int) : Int) := of_decide_eq_true (by first | (with_reducible assumption) | assumption); have qi28 : (3 < x4_2.length) = True := eq_true (by omega); obtain ⟨hx28_0, hf28_0⟩ := Kd.R_celln 0 HO_4.out (3 : Int) p28 q28; (try rw [show ((3 : Int)).toNat = 3 from rfl] at hx28_0); (try simp only [Nat.reduceMul, Nat.zero_mul, Nat.zero_add, Nat.reduceAdd] at hx28_0); (try rw [show ((3 : Int)).toNat = 3 from rfl] at hf28_0); (try simp only [Nat.reduceMul, Nat.zero_mul, Nat.zero_add, Nat.reduceAdd] at hf28_0); replace p28 := eq_true p28; replace q28 := eq_true q28; obtain ⟨hy34_, hz34_⟩ := Kd.R_celln 0 HO_4.out (3 : Int) (by omega) (of_decide_eq_true (by first | (with_reducible assumption) | assumption)); (try simp only [Int.reduceToNat, Int.toNat_zero, Int.toNat_ofNat, Nat.reduceMul, Nat.zero_mul, Nat.zero_add] at hy34_ hz34_); (try rw [show ((3 : Int)).toNat = 3 from rfl] at hy34_); (try rw [show ((3 : Int)).toNat = 3 from rfl] at hz34_); have HP34 := Kd.R_putg HO_4.out (3 : Int) ((wrap64 (65535 - t615)) % 256)) | ((with_reducible refine gate_store (t := 5) (p := 59) rfl ?_); refine store_event (t := 5) (p := 59) (v := ?vo_w35) (w1 := (w33.setCell ⟨go26, (3 : Int).toNat, none⟩ (.int .u8 ((wrap64 (65535 - t615)) % 256)))) ?hg ?ho ?hn ?hr ?_; (case ho => rfl); (case hg => rfl); (case hn => rfl); (case hr => first | (go_simp; done) | (go_simp; rfl)); intro w35 hw; have hg : w33.grownBy w35 (some go26) := (by rw [hw]; exact HP34.2); have hp_ : Kd.R (Kd.int .u8) 5 w35 w.heap.size (fun _ => True) (.slice (some ⟨go26, 0, none⟩) x4_2.length co30) y617 := (by rw [hw, Ny617.out]; exact HP34.1); clear HP34; have n0_ := Aside0.mk (hp_); have n1_ := Aside0.mk (blk_grown (g := gb602) (o := .cells #[.int .i64 a0_0, .int .i64 a0_1, .int .u32 a0_2, .slice A0_3 l0_3.length c0_3] 66 (0, 0)) (by (with_reducible repeat (first | refine blk_drewN ?_ _ | refine blk_drew ?_ | refine blk_alloc ?_ _)); exact BK602.out) hg (Kd.R_ne HO_4.out BK602.out (by decide))); have n2_ := Aside0.mk ((by rw [hw]; exact below_set (HB.out) GB26.out : Below w.heap.size w w35)); clear HO_4; clear BK602; clear HB; have HO_4 := n0_; have BK602 := n1_; have HB := n2_; clear n0_ n1_ n2_; clear hg hw hp_))
                    go_ret2
                    exact ⟨_, by first | rfl | (simp [errW_none, errW_some] <;> rfl) | (simp [*, errW_none, errW_some] <;> rfl), by (with_reducible repeat (first | apply Kd.R_alloc | apply Kd.R_drewN | apply Kd.R_drew)); exact HO_4.out, by repeat (first | (with_reducible first | exact HB.out | apply below_alloc | apply pw_below_drewN | apply below_drew1 | refine below_set ?_ GE602.out) | exact HB.out)⟩
                  · rw [if_neg c27] at H
                    exact absurd H (by simp)
                · rw [if_neg c25] at H
                  exact absurd H (by simp)

end Go.Proofs.Ytdppnkgblklmmaa.P
