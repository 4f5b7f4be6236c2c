-- Laid by a program (wip/tools/myprint.py) out of the translation. Not trusted: Lean checks it.
import Derived.Test.YtljnnhloinbjhaaP0
import Derived.Test.YtljnnhloinbjhaaPbailiwickref1Plus
namespace Go.Proofs.Ytljnnhloinbjhaa.P
open Go.RowKit Go.Proofs.YtljnnhloinbjhaaW.PrintWords Go.Proofs.YtljnnhloinbjhaaW.PrintLast
set_option linter.unusedVariables false
set_option linter.unusedSimpArgs false

/-! ### bailiwickref1_Update: function 143 -/
def bailiwickref1_Update.f (k : Nat) (a0 : Int) (a1 : Int) (a2 : Int) : Option (Int) := (bailiwickref1_Plus.f k (wrap64 (65535 - (Go.bits .and .i64 a0 65535))) (wrap64 (65535 - (Go.bits .and .i64 a1 65535)))).bind fun t1152 => ((bailiwickref1_Plus.f k t1152 a2).bind fun t1153 => (some (wrap64 (65535 - t1153))))
theorem bailiwickref1_Update.mono : ∀ a0 a1 a2 k, LeO (bailiwickref1_Update.f k a0 a1 a2) (bailiwickref1_Update.f (k + 1) a0 a1 a2) := by
  intro a0 a1 a2 k
  unfold bailiwickref1_Update.f
  repeat' first
      | (with_reducible exact bailiwickref1_Plus.mono _ _ _)
      | (with_reducible exact LeO.refl _)
      | (with_reducible exact LeO.none _)
      | (with_reducible refine LeO.ite ?_ ?_)
      | (with_reducible refine LeO.bind ?_ (fun _ => ?_))
      | exact bailiwickref1_Plus.mono _ _ _
      | exact LeO.none _
      | refine LeO.ite ?_ ?_
      | refine LeO.bind ?_ (fun _ => ?_)
set_option maxHeartbeats 8000000 in
set_option maxRecDepth 100000 in
theorem bailiwickref1_Update.calls (k : Nat) (a0 : Int) (a1 : Int) (a2 : Int) (r : Int) (w : World) (h : bailiwickref1_Update.f k a0 a1 a2 = some r) :
    Calls Try.prog 143 #[.int .i64 a0, .int .i64 a1, .int .i64 a2] w fun e w' => e = .returned (.int .i64 r) ∧ Drawn0 w w' := by
  have H : ((bailiwickref1_Plus.f k (wrap64 (65535 - (Go.bits .and .i64 a0 65535))) (wrap64 (65535 - (Go.bits .and .i64 a1 65535)))).bind fun t1152 => ((bailiwickref1_Plus.f k t1152 a2).bind fun t1153 => (some (wrap64 (65535 - t1153))))) = some r := h
  clear h
  replace H := Option.bind_eq_some_iff.mp H
  obtain ⟨t1152, A40, H⟩ := H
  replace H : ((bailiwickref1_Plus.f k t1152 a2).bind fun t1153 => (some (wrap64 (65535 - t1153)))) = some r := H
  have A4 := Aside0.mk A40
  clear A40
  replace H := Option.bind_eq_some_iff.mp H
  obtain ⟨t1153, A50, H⟩ := H
  replace H : (some (wrap64 (65535 - t1153))) = some r := H
  have A5 := Aside0.mk A50
  clear A50
  obtain rfl := Option.some.inj H
  go_enter Try.func143, Try.ntmps143
  go_wp2_with (first | ((with_reducible refine gate_callee (f := 149) rfl ?_); refine goesL_ (some 13) rfl rfl Try.func149 (by kernel_rfl) rfl #[.int .i64 (wrap64 (65535 - (Go.bits .and .i64 a0 65535))), .int .i64 (wrap64 (65535 - (Go.bits .and .i64 a1 65535)))] rfl (by (try simp only [List.map_toArray, List.map_cons, List.map_nil]); first | done | rfl | (simp only [List.length_drop, List.length_take]; rfl)) ?_; (with_reducible refine (bailiwickref1_Plus.calls k (wrap64 (65535 - (Go.bits .and .i64 a0 65535))) (wrap64 (65535 - (Go.bits .and .i64 a1 65535))) t1152 _ A4.out).mono ?_); rintro e w' ⟨rfl, ⟨nd, rfl⟩⟩; refine ⟨_, rfl, ?_⟩) | ((with_reducible refine gate_callee (f := 149) rfl ?_); refine goesL_ (some 15) rfl rfl Try.func149 (by kernel_rfl) rfl #[.int .i64 t1152, .int .i64 a2] rfl (by (try simp only [List.map_toArray, List.map_cons, List.map_nil]); first | done | rfl | (simp only [List.length_drop, List.length_take]; rfl)) ?_; (with_reducible refine (bailiwickref1_Plus.calls k t1152 a2 t1153 _ A5.out).mono ?_); rintro e w' ⟨rfl, ⟨nd, rfl⟩⟩; refine ⟨_, rfl, ?_⟩))
  go_ret
  exact ⟨by first | rfl | (simp; done) | (simp [*]; done), by repeat (first | exact Drawn0.refl _ | apply Drawn0.step)⟩

end Go.Proofs.Ytljnnhloinbjhaa.P
