-- Laid by a program (wip/tools/myprint.py) out of the translation. Not trusted: Lean checks it.
import Derived.Test.YtljnnhloinbjhaaP0
import Derived.Test.YtljnnhloinbjhaaPbailiwickref1Same
import Derived.Test.YtljnnhloinbjhaaPinner
import Derived.Test.YtljnnhloinbjhaaPbailiwicklaw22awake
import Derived.Test.YtljnnhloinbjhaaPbailiwickref21Fault
namespace Go.Proofs.Ytljnnhloinbjhaa.P
open Go.RowKit Go.Proofs.YtljnnhloinbjhaaW.PrintWords Go.Proofs.YtljnnhloinbjhaaW.PrintLast
set_option linter.unusedVariables false
set_option linter.unusedSimpArgs false

/-! ### bailiwicklaw22_InnerFaults: function 15 -/
def bailiwicklaw22_InnerFaults.f (k : Nat) (a0 : Int) (a1 : Int) (l2 : List Int) : Option (Bool) := (bailiwicklaw22_awake.f).bind fun t985 => (if t985 = true then (if (l2.length : Int) > 5000 then (some true) else ((inner_Fault.f k a0 a1 167772161 l2).bind fun bt986 => ((bailiwickref21_Fault.f k a0 a1 167772161 l2).bind fun bt990 => (if bt986.2 = bt990.2 then ((bailiwickref1_Same.f k bt986.1 bt990.1).bind fun t994 => (some t994)) else (some false))))) else (some false))
theorem bailiwicklaw22_InnerFaults.mono : ∀ a0 a1 a2 k, LeO (bailiwicklaw22_InnerFaults.f k a0 a1 a2) (bailiwicklaw22_InnerFaults.f (k + 1) a0 a1 a2) := by
 intro a0 a1 a2 k
 unfold bailiwicklaw22_InnerFaults.f
 repeat' first
   | (with_reducible exact bailiwickref1_Same.mono _ _ _)
   | (with_reducible exact bailiwickref21_Fault.mono _ _ _ _ _)
   | (with_reducible exact inner_Fault.mono _ _ _ _ _)
   | (with_reducible exact LeO.refl _)
   | (with_reducible exact LeO.none _)
   | (with_reducible refine LeO.ite ?_ ?_)
   | (with_reducible refine LeO.bind ?_ (fun _ => ?_))
   | exact bailiwickref1_Same.mono _ _ _
   | exact bailiwickref21_Fault.mono _ _ _ _ _
   | exact inner_Fault.mono _ _ _ _ _
   | exact LeO.none _
   | refine LeO.ite ?_ ?_
   | refine LeO.bind ?_ (fun _ => ?_)
set_option maxHeartbeats 8000000 in
set_option maxRecDepth 100000 in
theorem bailiwicklaw22_InnerFaults.calls (k : Nat) (a0 : Int) (a1 : Int) (A2 : Option Addr) (c2 : Nat) (l2 : List Int) (r : Bool) (hT : r = true) (w : World) (hr2 : Kd.C (Kd.int .u8) w A2 l2.length l2) (hc2 : l2.length ≤ c2) (h : bailiwicklaw22_InnerFaults.f k a0 a1 l2 = some r) :
  Calls Try.prog 15 #[.int .i64 a0, .int .i64 a1, .slice A2 l2.length c2] w fun e w' => e = .returned (.bool r) ∧ Below w.heap.size w w' := by
 have HR2 := Aside0.mk hr2
 have HC2 := Aside0.mk hc2
 clear hr2 hc2
 have HB := Aside0.mk (Below.refl w.heap.size w)
 have H : ((bailiwicklaw22_awake.f).bind fun t985 => (if t985 = true then (if (l2.length : Int) > 5000 then (some true) else ((inner_Fault.f k a0 a1 167772161 l2).bind fun bt986 => ((bailiwickref21_Fault.f k a0 a1 167772161 l2).bind fun bt990 => (if bt986.2 = bt990.2 then ((bailiwickref1_Same.f k bt986.1 bt990.1).bind fun t994 => (some t994)) else (some false))))) else (some false))) = some r := h
 clear h
 replace H := Option.bind_eq_some_iff.mp H
 obtain ⟨t985, A40, H⟩ := H
 replace H : (if t985 = true then (if (l2.length : Int) > 5000 then (some true) else ((inner_Fault.f k a0 a1 167772161 l2).bind fun bt986 => ((bailiwickref21_Fault.f k a0 a1 167772161 l2).bind fun bt990 => (if bt986.2 = bt990.2 then ((bailiwickref1_Same.f k bt986.1 bt990.1).bind fun t994 => (some t994)) else (some false))))) else (some false)) = some r := H
 have A4 := Aside0.mk A40
 clear A40
 by_cases c5 : t985 = true
 ·subst c5
  have H1 : (if (l2.length : Int) > 5000 then (some true) else ((inner_Fault.f k a0 a1 167772161 l2).bind fun bt986 => ((bailiwickref21_Fault.f k a0 a1 167772161 l2).bind fun bt990 => (if bt986.2 = bt990.2 then ((bailiwickref1_Same.f k bt986.1 bt990.1).bind fun t994 => (some t994)) else (some false))))) = some r := by rw [if_pos rfl] at H; exact H
  clear H
  have H := H1
  clear H1
  by_cases c6 : (l2.length : Int) > 5000
  ·rw [if_pos c6] at H
   have c6b0 : decide (5000 < (l2.length : Int)) = true := decide_eq_true c6
   have c6b1 : decide (5000 < l2.length) = true := decide_eq_true (by omega)
   clear c6
   obtain rfl := Option.some.inj H
   go_enter Try.func15, Try.ntmps15
   go_wp2_with (first | ((with_reducible refine gate_callee (f := 46) rfl ?_); refine goesL_ (some 11) rfl rfl Try.func46 (by kernel_rfl) rfl #[] rfl (by (try simp only [List.map_toArray, List.map_cons, List.map_nil]); first | done | rfl | (simp only [List.length_drop, List.length_take]; rfl)) ?_; (with_reducible refine (bailiwicklaw22_awake.calls  true _ A4.out).mono ?_); rintro e w7 ⟨rfl, hb⟩; refine ⟨_, rfl, ?_⟩; have n0_ := Aside0.mk (below_step (by repeat (first | (with_reducible first | exact HB.out | apply below_alloc | apply pw_below_drewN | apply below_drew1) | exact HB.out)) hb); clear HB; have HB := n0_; clear n0_; (try clear hb); (try clear hb2); (try clear hk); (try clear hi)))
   go_ret
   exact ⟨by first | rfl | (simp [errW_none, errW_some] <;> rfl) | (simp [*, errW_none, errW_some] <;> rfl), by repeat (first | (with_reducible first | exact HB.out | apply below_alloc | apply pw_below_drewN | apply below_drew1) | exact HB.out)⟩
  ·rw [if_neg c6] at H
   have c6b0 : decide (5000 < (l2.length : Int)) = false := decide_eq_false c6
   have c6b1 : decide (5000 < l2.length) = false := decide_eq_false (by omega)
   clear c6
   replace H := Option.bind_eq_some_iff.mp H
   obtain ⟨⟨t986, t987⟩, A80, H⟩ := H
   replace H : ((bailiwickref21_Fault.f k a0 a1 167772161 l2).bind fun bt990 => (if t987 = bt990.2 then ((bailiwickref1_Same.f k t986 bt990.1).bind fun t994 => (some t994)) else (some false))) = some r := H
   have A8 := Aside0.mk A80
   clear A80
   replace H := Option.bind_eq_some_iff.mp H
   obtain ⟨⟨t990, t991⟩, A90, H⟩ := H
   replace H : (if t987 = t991 then ((bailiwickref1_Same.f k t986 t990).bind fun t994 => (some t994)) else (some false)) = some r := H
   have A9 := Aside0.mk A90
   clear A90
   by_cases c10 : t987 = t991
   ·rw [if_pos c10] at H
    have c10b0 : (t987 == t991) = true := beq_iff_eq.mpr c10
    have c10b1 : (t987 != t991) = false := bne_eq_false_iff_eq.mpr c10
    clear c10
    replace H := Option.bind_eq_some_iff.mp H
    obtain ⟨t994, A110, H⟩ := H
    replace H : (some t994) = some r := H
    have A11 := Aside0.mk A110
    clear A110
    obtain rfl := Option.some.inj H
    go_enter Try.func15, Try.ntmps15
    go_wp2_with (first | ((with_reducible refine gate_callee (f := 46) rfl ?_); refine goesL_ (some 11) rfl rfl Try.func46 (by kernel_rfl) rfl #[] rfl (by (try simp only [List.map_toArray, List.map_cons, List.map_nil]); first | done | rfl | (simp only [List.length_drop, List.length_take]; rfl)) ?_; (with_reducible refine (bailiwicklaw22_awake.calls  true _ A4.out).mono ?_); rintro e w12 ⟨rfl, hb⟩; refine ⟨_, rfl, ?_⟩; have n0_ := Aside0.mk (below_step (by repeat (first | (with_reducible first | exact HB.out | apply below_alloc | apply pw_below_drewN | apply below_drew1) | exact HB.out)) hb); clear HB; have HB := n0_; clear n0_; (try clear hb); (try clear hb2); (try clear hk); (try clear hi)) | ((with_reducible refine gate_callee (f := 47) rfl ?_); refine goesL_ (some 20) rfl rfl Try.func47 (by kernel_rfl) rfl #[.int .i64 a0, .int .i64 a1, .int .u32 167772161, .slice A2 l2.length c2] rfl (by (try simp only [List.map_toArray, List.map_cons, List.map_nil]); first | done | rfl | (simp only [List.length_drop, List.length_take]; rfl)) ?_; (with_reducible refine (inner_Fault.calls k a0 a1 167772161 _ _ l2 t986 t987 _ ?side1 ?side2 A8.out).mono ?_); (case side1 => repeat (first | exact (Kd.C_below HR2.out HB.out) | (with_reducible refine Kd.C_alloc ?_ _) | (with_reducible refine Kd.C_drewN ?_ _) | (with_reducible refine Kd.C_drew ?_))); (case side2 => exact HC2.out); rintro e w13 ⟨v988, rfl, ho0, hb⟩; refine ⟨_, rfl, ?_⟩; have n0_ := Aside0.mk (Kd.R_lower ho0 (below_size (by repeat (first | (with_reducible first | exact HB.out | apply below_alloc | apply pw_below_drewN | apply below_drew1) | exact HB.out)))); have n1_ := Aside0.mk (below_step (by repeat (first | (with_reducible first | exact HB.out | apply below_alloc | apply pw_below_drewN | apply below_drew1) | exact HB.out)) hb); clear HB; have HO989 := n0_; have HB := n1_; clear n0_ n1_; (try clear hb); (try clear hb2); (try clear hk); (try clear hi); (try clear ho0)) | ((with_reducible refine gate_callee (f := 48) rfl ?_); refine goesL_ (some 27) rfl rfl Try.func48 (by kernel_rfl) rfl #[.int .i64 a0, .int .i64 a1, .int .u32 167772161, .slice A2 l2.length c2] rfl (by (try simp only [List.map_toArray, List.map_cons, List.map_nil]); first | done | rfl | (simp only [List.length_drop, List.length_take]; rfl)) ?_; (with_reducible refine (bailiwickref21_Fault.calls k a0 a1 167772161 _ _ l2 t990 t991 _ ?side1 ?side2 A9.out).mono ?_); (case side1 => repeat (first | exact (Kd.C_below HR2.out HB.out) | (with_reducible refine Kd.C_alloc ?_ _) | (with_reducible refine Kd.C_drewN ?_ _) | (with_reducible refine Kd.C_drew ?_))); (case side2 => exact HC2.out); rintro e w14 ⟨v992, rfl, ho0, hb⟩; refine ⟨_, rfl, ?_⟩; have n0_ := Aside0.mk (Kd.R_elder' (by (with_reducible repeat (first | apply Kd.R_alloc | apply Kd.R_drewN | apply Kd.R_drew)); exact HO989.out) (Kd.R_base ho0) hb); have n1_ := Aside0.mk (Kd.R_lower (Kd.R_new' ho0 (Kd.R_lt (by (with_reducible repeat (first | apply Kd.R_alloc | apply Kd.R_drewN | apply Kd.R_drew)); exact HO989.out))) (below_size (by repeat (first | (with_reducible first | exact HB.out | apply below_alloc | apply pw_below_drewN | apply below_drew1) | exact HB.out)))); have n2_ := Aside0.mk (below_step (by repeat (first | (with_reducible first | exact HB.out | apply below_alloc | apply pw_below_drewN | apply below_drew1) | exact HB.out)) hb); clear HO989; clear HB; have HO989 := n0_; have HO993 := n1_; have HB := n2_; clear n0_ n1_ n2_; (try clear hb); (try clear hb2); (try clear hk); (try clear hi); (try clear ho0); obtain ⟨Ao15, co15, eo15⟩ := Kd.R_slice HO989.out; subst eo15; obtain ⟨Ao16, co16, eo16⟩ := Kd.R_slice HO993.out; subst eo16) | (go_at_call 37; (with_reducible refine (bailiwickref1_Same.calls k _ _ t986 _ _ t990 t994 _ ?side1 ?side2 ?side3 ?side4 A11.out).mono ?_); (case side1 => repeat (first | exact (Kd.R_reads' HO989.out).2.2 | (with_reducible refine Kd.C_alloc ?_ _) | (with_reducible refine Kd.C_drewN ?_ _) | (with_reducible refine Kd.C_drew ?_))); (case side2 => exact (Kd.R_reads' HO989.out).2.1); (case side3 => repeat (first | exact (Kd.R_reads' HO993.out).2.2 | (with_reducible refine Kd.C_alloc ?_ _) | (with_reducible refine Kd.C_drewN ?_ _) | (with_reducible refine Kd.C_drew ?_))); (case side4 => exact (Kd.R_reads' HO993.out).2.1); rintro e w' ⟨rfl, ⟨nd, rfl⟩⟩))
    go_ret
    exact ⟨by first | rfl | (simp [errW_none, errW_some] <;> rfl) | (simp [*, errW_none, errW_some] <;> rfl), by repeat (first | (with_reducible first | exact HB.out | apply below_alloc | apply pw_below_drewN | apply below_drew1) | exact HB.out)⟩
   ·rw [if_neg c10] at H
    have c10b0 : (t987 == t991) = false := beq_eq_false_iff_ne.mpr c10
    have c10b1 : (t987 != t991) = true := bne_iff_ne.mpr c10
    exact absurd ((Option.some.inj H).trans hT) (by decide)
 ·replace c5 := Bool.eq_false_iff.mpr c5
  subst c5
  have H1 : (some false) = some r := by rw [if_neg (show ¬ (false = true) by decide)] at H; exact H
  clear H
  have H := H1
  clear H1
  exact absurd ((Option.some.inj H).trans hT) (by decide)
def bailiwicklaw22_InnerFaults.Pure : Prop := ∀ (a0 : Int) (a1 : Int) (l2 : List Int), (Lit.int .i64 a0).wf = true → (Lit.int .i64 a1).wf = true → (l2.length ≤ maxLen ∧ l2.length * 1 ≤ 140737488351232 ∧ ∀ a_ ∈ l2, (Lit.int .u8 a_).wf = true) → ∃ k, bailiwicklaw22_InnerFaults.f k a0 a1 l2 = some true

end Go.Proofs.Ytljnnhloinbjhaa.P
