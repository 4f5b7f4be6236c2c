-- Laid by a program (wip/tools/myprint.py) out of the translation. Not trusted: Lean checks it.
import Derived.Test.YtljnnhloinbjhaaP0
import Derived.Test.YtljnnhloinbjhaaPbailiwickref1
namespace Go.Proofs.Ytljnnhloinbjhaa.P
open Go.RowKit Go.Proofs.YtljnnhloinbjhaaW.PrintWords Go.Proofs.YtljnnhloinbjhaaW.PrintLast
set_option linter.unusedVariables false
set_option linter.unusedSimpArgs false

/-! ### bailiwickref1_Plus: function 149 -/
def bailiwickref1_Plus.f (k : Nat) (a0 : Int) (a1 : Int) : Option (Int) := (bailiwickref1_fold.f k (IntKind.u64.wrap ((IntKind.u64.wrap (Go.bits .and .i64 a0 65535)) + (IntKind.u64.wrap (Go.bits .and .i64 a1 65535))))).bind fun t1151 => (some t1151)
theorem bailiwickref1_Plus.mono : ∀ a0 a1 k, LeO (bailiwickref1_Plus.f k a0 a1) (bailiwickref1_Plus.f (k + 1) a0 a1) := by
  intro a0 a1 k
  unfold bailiwickref1_Plus.f
  repeat' first
      | (with_reducible exact bailiwickref1_fold.mono _ _)
      | (with_reducible exact LeO.refl _)
      | (with_reducible exact LeO.none _)
      | (with_reducible refine LeO.ite ?_ ?_)
      | (with_reducible refine LeO.bind ?_ (fun _ => ?_))
      | exact bailiwickref1_fold.mono _ _
      | exact LeO.none _
      | refine LeO.ite ?_ ?_
      | refine LeO.bind ?_ (fun _ => ?_)
set_option maxHeartbeats 8000000 in
set_option maxRecDepth 100000 in
theorem bailiwickref1_Plus.calls (k : Nat) (a0 : Int) (a1 : Int) (r : Int) (w : World) (h : bailiwickref1_Plus.f k a0 a1 = some r) :
    Calls Try.prog 149 #[.int .i64 a0, .int .i64 a1] w fun e w' => e = .returned (.int .i64 r) ∧ Drawn0 w w' := by
  have H : ((bailiwickref1_fold.f k (IntKind.u64.wrap ((IntKind.u64.wrap (Go.bits .and .i64 a0 65535)) + (IntKind.u64.wrap (Go.bits .and .i64 a1 65535))))).bind fun t1151 => (some t1151)) = some r := h
  clear h
  replace H := Option.bind_eq_some_iff.mp H
  obtain ⟨t1151, A30, H⟩ := H
  replace H : (some t1151) = some r := H
  have A3 := Aside0.mk A30
  clear A30
  obtain rfl := Option.some.inj H
  go_enter Try.func149, Try.ntmps149
  go_wp2_with (first | ((with_reducible refine gate_callee (f := 132) rfl ?_); refine goesL_ (some 12) rfl rfl Try.func132 (by kernel_rfl) rfl #[.int .u64 (IntKind.u64.wrap ((IntKind.u64.wrap (Go.bits .and .i64 a0 65535)) + (IntKind.u64.wrap (Go.bits .and .i64 a1 65535))))] rfl (by (try simp only [List.map_toArray, List.map_cons, List.map_nil]); first | done | rfl | (simp only [List.length_drop, List.length_take]; rfl)) ?_; (with_reducible refine (bailiwickref1_fold.calls k (IntKind.u64.wrap ((IntKind.u64.wrap (Go.bits .and .i64 a0 65535)) + (IntKind.u64.wrap (Go.bits .and .i64 a1 65535)))) t1151 _ A3.out).mono ?_); rintro e w' ⟨rfl, ⟨nd, rfl⟩⟩; refine ⟨_, rfl, ?_⟩))
  go_ret
  exact ⟨by first | rfl | (simp; done) | (simp [*]; done), by repeat (first | exact Drawn0.refl _ | apply Drawn0.step)⟩

end Go.Proofs.Ytljnnhloinbjhaa.P
