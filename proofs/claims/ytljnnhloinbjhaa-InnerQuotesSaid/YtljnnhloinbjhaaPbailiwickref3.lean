-- Laid by a program (wip/tools/myprint.py) out of the translation. Not trusted: Lean checks it.
import Derived.Test.YtljnnhloinbjhaaP0
import Derived.Test.YtljnnhloinbjhaaPbailiwickref1
namespace Go.Proofs.Ytljnnhloinbjhaa.P
open Go.RowKit Go.Proofs.YtljnnhloinbjhaaW.PrintWords Go.Proofs.YtljnnhloinbjhaaW.PrintLast
set_option linter.unusedVariables false
set_option linter.unusedSimpArgs false

/-! ### bailiwickref3_in: function 100 -/
def bailiwickref3_in.f (a0 : Int) (a1 : Int) : Option (Bool) := if a0 ≥ 0 then (some (decide (a0 ≤ a1))) else (some false)
set_option maxHeartbeats 8000000 in
set_option maxRecDepth 100000 in
theorem bailiwickref3_in.calls (a0 : Int) (a1 : Int) (r : Bool) (w : World) (h : bailiwickref3_in.f a0 a1 = some r) :
    Calls Try.prog 100 #[.int .i64 a0, .int .i64 a1] w fun e w' => e = .returned (.bool r) ∧ Drawn0 w w' := by
  have H : (if a0 ≥ 0 then (some (decide (a0 ≤ a1))) else (some false)) = some r := h
  clear h
  by_cases c3 : a0 ≥ 0
  · rw [if_pos c3] at H
    have c3b0 : decide (0 ≤ a0) = true := decide_eq_true c3
    clear c3
    obtain rfl := Option.some.inj H
    go_enter Try.func100, Try.ntmps100
    go_wp2
    go_ret
    exact ⟨by first | rfl | (simp; done) | (simp [*]; done), by repeat (first | exact Drawn0.refl _ | apply Drawn0.step)⟩
  · rw [if_neg c3] at H
    have c3b0 : decide (0 ≤ a0) = false := decide_eq_false c3
    clear c3
    obtain rfl := Option.some.inj H
    go_enter Try.func100, Try.ntmps100
    go_wp2
    go_ret
    exact ⟨by first | rfl | (simp; done) | (simp [*]; done), by repeat (first | exact Drawn0.refl _ | apply Drawn0.step)⟩

/-! ### bailiwickref3_Pseudo: function 102 -/
def bailiwickref3_Pseudo.f (k : Nat) (a0 : Int) (a1 : Int) (a2 : Int) (a3 : Int) : Option (List Int) := (bailiwickref1_Lay.f k ([] : List Int) 4 (IntKind.u64.wrap (a0))).bind fun t209 => ((bailiwickref1_Lay.f k t209 4 (IntKind.u64.wrap (a1))).bind fun t212 => ((some (([0, (a2) % 256] : List Int) : List Int)).bind fun y215 => (if t212.length + y215.length < 140737488355328 then ((bailiwickref1_Lay.f k (t212 ++ y215) 2 (IntKind.u64.wrap (a3))).bind fun t221 => (some t221)) else (none))))
theorem bailiwickref3_Pseudo.mono : ∀ a0 a1 a2 a3 k, LeO (bailiwickref3_Pseudo.f k a0 a1 a2 a3) (bailiwickref3_Pseudo.f (k + 1) a0 a1 a2 a3) := by
 intro a0 a1 a2 a3 k
 unfold bailiwickref3_Pseudo.f
 repeat' first
   | (with_reducible exact bailiwickref1_Lay.mono _ _ _ _)
   | (with_reducible exact LeO.refl _)
   | (with_reducible exact LeO.none _)
   | (with_reducible refine LeO.ite ?_ ?_)
   | (with_reducible refine LeO.bind ?_ (fun _ => ?_))
   | exact bailiwickref1_Lay.mono _ _ _ _
   | exact LeO.none _
   | refine LeO.ite ?_ ?_
   | refine LeO.bind ?_ (fun _ => ?_)
set_option maxHeartbeats 8000000 in
set_option maxRecDepth 100000 in
theorem bailiwickref3_Pseudo.calls (k : Nat) (a0 : Int) (a1 : Int) (a2 : Int) (a3 : Int) (r : List Int) (w : World) (h : bailiwickref3_Pseudo.f k a0 a1 a2 a3 = some r) :
  Calls Try.prog 102 #[.int .u32 a0, .int .u32 a1, .int .i64 a2, .int .i64 a3] w fun e w' => ∃ v0_ : Value, e = .returned (v0_) ∧ Kd.R (Kd.int .u8) 5 w' w.heap.size (fun _ => True) v0_ r ∧ Below w.heap.size w w' := by
 have HB := Aside0.mk (Below.refl w.heap.size w)
 have H : ((bailiwickref1_Lay.f k ([] : List Int) 4 (IntKind.u64.wrap (a0))).bind fun t209 => ((bailiwickref1_Lay.f k t209 4 (IntKind.u64.wrap (a1))).bind fun t212 => ((some (([0, (a2) % 256] : List Int) : List Int)).bind fun y215 => (if t212.length + y215.length < 140737488355328 then ((bailiwickref1_Lay.f k (t212 ++ y215) 2 (IntKind.u64.wrap (a3))).bind fun t221 => (some t221)) else (none))))) = some r := h
 clear h
 replace H := Option.bind_eq_some_iff.mp H
 obtain ⟨t209, A50, H⟩ := H
 replace H : ((bailiwickref1_Lay.f k t209 4 (IntKind.u64.wrap (a1))).bind fun t212 => ((some (([0, (a2) % 256] : List Int) : List Int)).bind fun y215 => (if t212.length + y215.length < 140737488355328 then ((bailiwickref1_Lay.f k (t212 ++ y215) 2 (IntKind.u64.wrap (a3))).bind fun t221 => (some t221)) else (none)))) = some r := H
 have A5 := Aside0.mk A50
 clear A50
 replace H := Option.bind_eq_some_iff.mp H
 obtain ⟨t212, A60, H⟩ := H
 replace H : ((some (([0, (a2) % 256] : List Int) : List Int)).bind fun y215 => (if t212.length + y215.length < 140737488355328 then ((bailiwickref1_Lay.f k (t212 ++ y215) 2 (IntKind.u64.wrap (a3))).bind fun t221 => (some t221)) else (none))) = some r := H
 have A6 := Aside0.mk A60
 clear A60
 obtain ⟨y215, hy215⟩ : ∃ y_ : List Int, y_ = (([0, (a2) % 256] : List Int)) := ⟨_, rfl⟩
 replace H : (if t212.length + y215.length < 140737488355328 then ((bailiwickref1_Lay.f k (t212 ++ y215) 2 (IntKind.u64.wrap (a3))).bind fun t221 => (some t221)) else (none)) = some r := by first | (rw [hy215]; with_reducible exact H) | (have H2_ := (Option.bind_some _ _).symm.trans H; rw [hy215]; with_reducible exact H2_) | (have H2_ := (Option.bind_some _ _).symm.trans H; with_reducible exact H2_) | with_reducible exact H | (rw [hy215]; exact H) | exact H
 have Ny215 := Aside0.mk hy215
 clear hy215
 by_cases c7 : t212.length + y215.length < 140737488355328
 ·rw [if_pos c7] at H
  have LMc7 := Aside0.mk c7
  clear c7
  obtain ⟨y218, hy218⟩ : ∃ y_ : List Int, y_ = (t212 ++ y215) := ⟨_, rfl⟩
  replace H : ((bailiwickref1_Lay.f k y218 2 (IntKind.u64.wrap (a3))).bind fun t221 => (some t221)) = some r := by first | (rw [hy218]; with_reducible exact H) | (have H2_ := (Option.bind_some _ _).symm.trans H; rw [hy218]; with_reducible exact H2_) | (have H2_ := (Option.bind_some _ _).symm.trans H; with_reducible exact H2_) | with_reducible exact H | (rw [hy218]; exact H) | exact H
  have Ny218 := Aside0.mk hy218
  clear hy218
  replace H := Option.bind_eq_some_iff.mp H
  obtain ⟨t221, A80, H⟩ := H
  replace H : (some t221) = some r := H
  have A8 := Aside0.mk A80
  clear A80
  obtain rfl := Option.some.inj H
  go_enter Try.func102, Try.ntmps102
  go_wp2_with (first | ((with_reducible refine gate_callee (f := 60) rfl ?_); refine goesL_ (some 13) rfl rfl Try.func60 (by kernel_rfl) rfl #[.slice none 0 0, .int .i64 4, .int .u64 (IntKind.u64.wrap (a0))] rfl (by (try simp only [List.map_toArray, List.map_cons, List.map_nil]); first | done | rfl | (simp only [List.length_drop, List.length_take]; rfl)) ?_; (refine (bailiwickref1_Lay.calls k (fun k_ => some k_ = (.slice none 0 0 : Value).ownBlock) (.slice none 0 0) ([] : List Int) 4 (IntKind.u64.wrap (a0)) t209 w _ ?side1 ?side2 A5.out).mono ?_); (case side1 => repeat (first | (with_reducible first | exact HB.out | apply below_alloc | apply pw_below_drewN | apply below_drew1) | exact HB.out)); (case side2 => exact Kd.R_nil _ _ _ _ _); rintro e w9 ⟨v210, rfl, ho0, hb, hkp⟩; refine ⟨_, rfl, ?_⟩; have n0_ := Aside0.mk (Kd.R_mono (ok' := fun k_ => True) ho0 (fun k_ hk_ => trivial)); have n1_ := Aside0.mk (hb); clear HB; have HO211 := n0_; have HB := n1_; clear n0_ n1_; (try clear hb); (try clear hkp); (try clear ho0); obtain ⟨Ao10, co10, eo10⟩ := Kd.R_slice HO211.out; subst eo10) | ((with_reducible refine gate_callee (f := 60) rfl ?_); refine goesL_ (some 17) rfl rfl Try.func60 (by kernel_rfl) rfl #[.slice Ao10 t209.length co10, .int .i64 4, .int .u64 (IntKind.u64.wrap (a1))] rfl (by (try simp only [List.map_toArray, List.map_cons, List.map_nil]); first | done | rfl | (simp only [List.length_drop, List.length_take]; rfl)) ?_; (with_reducible refine (bailiwickref1_Lay.calls k (fun k_ => some k_ = (.slice Ao10 t209.length co10 : Value).ownBlock) (.slice Ao10 t209.length co10) t209 4 (IntKind.u64.wrap (a1)) t212 w _ ?side1 ?side2 A6.out).mono ?_); (case side1 => repeat (first | (with_reducible first | exact HB.out | apply below_alloc | apply pw_below_drewN | apply below_drew1) | exact HB.out)); (case side2 => exact Kd.R_tight rfl HO211.out); rintro e w11 ⟨v213, rfl, ho0, hb, hkp⟩; refine ⟨_, rfl, ?_⟩; have n0_ := Aside0.mk (Kd.R_mono (ok' := fun k_ => True) ho0 (fun k_ hk_ => trivial)); have n1_ := Aside0.mk (hb); clear HB; clear HO211; have HO214 := n0_; have HB := n1_; clear n0_ n1_; (try clear hb); (try clear hkp); (try clear ho0)) | ((with_reducible refine gate_dst (N := 21) rfl ?_); refine Kd.R_lit (Kd.int .u8) _ 5 ?hg (N := 21) ?hd (xs := ([0, (a2) % 256] : List Int)) (inner := [.int .u8 0, .int .u8 ((a2) % 256)]) (ok := fun _ => True) (okp := fun _ => True) ?hr ?hp (fun _ hk => hk) trivial (Below.refl _ _) (Nat.le_refl _) (by simp) ?_; (case hd => rfl); (case hg => rfl); (case hr => first | (go_simp; done) | (go_simp; rfl)); (case hp => exact (Reps.one (show Kd.M (Kd.int .u8) _ _ _ 0 [.int .u8 0] from rfl) (Reps.one (show Kd.M (Kd.int .u8) _ _ _ ((a2) % 256) [.int .u8 ((a2) % 256)] from rfl) (Reps.none _ _)))); intro v216 w12 ho13 hb hg_ hnew_; clear hg_ hnew_; (first | rw [← Ny215.out] at ho13 | (simp only [Int.reduceToNat] at ho13; rw [← Ny215.out] at ho13)); have n0_ := Aside0.mk (Kd.R_elder' (by (with_reducible repeat (first | apply Kd.R_alloc | apply Kd.R_drewN | apply Kd.R_drew)); exact HO214.out) (Kd.R_base ho13) hb); have n1_ := Aside0.mk (Kd.R_lower (Kd.R_new' ho13 (Kd.R_lt (by (with_reducible repeat (first | apply Kd.R_alloc | apply Kd.R_drewN | apply Kd.R_drew)); exact HO214.out))) (below_size (by repeat (first | (with_reducible first | exact HB.out | apply below_alloc | apply pw_below_drewN | apply below_drew1) | exact HB.out)))); have n2_ := Aside0.mk (below_step (by repeat (first | (with_reducible first | exact HB.out | apply below_alloc | apply pw_below_drewN | apply below_drew1) | exact HB.out)) hb); clear HO214; clear HB; have HO214 := n0_; have HO217 := n1_; have HB := n2_; clear n0_ n1_ n2_; clear hb ho13; obtain ⟨Ao15, co15, eo15⟩ := Kd.R_slice HO217.out; subst eo15) | ((with_reducible refine gate_builtin (b := .append) (xs := #[.tmp 18, .tmp 21]) rfl ?_); at_builtin; refine Kd.R_append_rows (Kd.int .u8) (w0 := w) w.heap.size rfl (.tmp 18) (.tmp 21) 23 5 (.int .u8 0) 1 rfl Try.underlying23 info5 rfl (by decide) (by omega) v213 t212 y215 _ _ _ (fun k_ => some k_ ≠ (.slice Ao15 y215.length co15 : Value).ownBlock) (fun _ => False) rfl rfl ?aO ?aR (fun _ _ h => h) (fun _ h => h.elim) ?aF ?aB ?aS ?aL ?_; (case aR => repeat (first | exact (Kd.R_reads' HO217.out).2.2 | (with_reducible refine Kd.C_alloc ?_ _) | (with_reducible refine Kd.C_drewN ?_ _) | (with_reducible refine Kd.C_drew ?_))); (case aB => exact (by repeat (first | (with_reducible first | exact HB.out | apply below_alloc | apply pw_below_drewN | apply below_drew1) | exact HB.out))); (case aF => exact (fun k_ hk => Kd.fresh' (Kd.R_lt (by (with_reducible repeat (first | apply Kd.R_alloc | apply Kd.R_drewN | apply Kd.R_drew)); exact HO217.out)) k_ hk)); (case aO => exact (by (with_reducible repeat (first | apply Kd.R_alloc | apply Kd.R_drewN | apply Kd.R_drew)); exact Kd.R_mono HO214.out (fun _ hk => hk.2))); (case aS => exact (below_size (by repeat (first | (with_reducible first | exact HB.out | apply below_alloc | apply pw_below_drewN | apply below_drew1) | exact HB.out)))); (case aL => have := LMc7.out; omega); intro v219 w14 ho hb hg hat; rw [← Ny218.out] at ho; have n0_ := Aside0.mk (Kd.R_after (ok := (fun _ => True)) (by (with_reducible repeat (first | apply Kd.R_alloc | apply Kd.R_drewN | apply Kd.R_drew)); exact HO217.out) hg hat); have n1_ := Aside0.mk (hb); have n2_ := Aside0.mk (ho); clear HO217; clear HB; clear HO214; have HO217 := n0_; have HB := n1_; have HO220 := n2_; clear n0_ n1_ n2_; clear ho hb hg hat; obtain ⟨Ao16, co16, eo16⟩ := Kd.R_slice HO220.out; subst eo16) | ((with_reducible refine gate_callee (f := 60) rfl ?_); refine goesL_ (some 26) rfl rfl Try.func60 (by kernel_rfl) rfl #[.slice Ao16 y218.length co16, .int .i64 2, .int .u64 (IntKind.u64.wrap (a3))] rfl (by (try simp only [List.map_toArray, List.map_cons, List.map_nil]); first | done | rfl | (simp only [List.length_drop, List.length_take]; rfl)) ?_; (with_reducible refine (bailiwickref1_Lay.calls k (fun k_ => some k_ = (.slice Ao16 y218.length co16 : Value).ownBlock) (.slice Ao16 y218.length co16) y218 2 (IntKind.u64.wrap (a3)) t221 w _ ?side1 ?side2 A8.out).mono ?_); (case side1 => repeat (first | (with_reducible first | exact HB.out | apply below_alloc | apply pw_below_drewN | apply below_drew1) | exact HB.out)); (case side2 => exact Kd.R_tight rfl HO220.out); rintro e w17 ⟨v222, rfl, ho0, hb, hkp⟩; refine ⟨_, rfl, ?_⟩; have n0_ := Aside0.mk (Kd.R_mono (ok' := fun k_ => some k_ ≠ (v222 : Value).ownBlock) (Kd.R_keptB (HO217.out) hkp (fun k_ hk_ hs_ => (hk_.2) hs_)) (fun k_ hk_ => fun e_ => Or.elim (ho0.1 k_ e_.symm) (fun hs_ => hk_.2.1 hs_) (fun hn_ => Nat.not_le.2 hk_.2.2 hn_))); have n1_ := Aside0.mk (Kd.R_mono (ok' := fun k_ => some k_ ≠ (.slice Ao15 y215.length co15 : Value).ownBlock) ho0 (fun k_ hk_ => Or.elim hk_ (fun hs_ => fun e_ => (((HO217.out).1 k_ e_.symm).2) hs_) (fun hn_ => (Kd.fresh' (Kd.R_lt (by (with_reducible repeat (first | apply Kd.R_alloc | apply Kd.R_drewN | apply Kd.R_drew)); exact HO217.out)) k_ hn_)))); have n2_ := Aside0.mk (hb); clear HO217; clear HB; clear HO220; have HO217 := n0_; have HO223 := n1_; have HB := n2_; clear n0_ n1_ n2_; (try clear hb); (try clear hkp); (try clear ho0)))
  go_ret
  exact ⟨_, by first | rfl | (simp [errW_none, errW_some] <;> rfl) | (simp [*, errW_none, errW_some] <;> rfl), by (with_reducible repeat (first | apply Kd.R_alloc | apply Kd.R_drewN | apply Kd.R_drew)); exact Kd.R_mono HO223.out (fun _ hk => trivial), by repeat (first | (with_reducible first | exact HB.out | apply below_alloc | apply pw_below_drewN | apply below_drew1) | exact HB.out)⟩
 ·rw [if_neg c7] at H
  exact absurd H (by simp)

end Go.Proofs.Ytljnnhloinbjhaa.P
