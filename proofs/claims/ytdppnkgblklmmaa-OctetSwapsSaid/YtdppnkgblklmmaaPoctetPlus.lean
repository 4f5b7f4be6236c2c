-- Laid by a program (wip/tools/myprint.py) out of the translation. Not trusted: Lean checks it.
import Derived.Test.YtdppnkgblklmmaaP0
import Derived.Test.YtdppnkgblklmmaaPoctetfold
namespace Go.Proofs.Ytdppnkgblklmmaa.P
open Go.RowKit Go.Proofs.YtdppnkgblklmmaaW.PrintWords Go.Proofs.YtdppnkgblklmmaaW.PrintLast Go.Proofs.YtdppnkgblklmmaaW.PrintMore
attribute [local go_sem] max2_int min2_int max_two min_two max_three min_three max_four min_four   -- for this text's walks alone
set_option linter.unusedVariables false
set_option linter.unusedSimpArgs false

/-! ### octet_Plus: function 29 -/
def octet_Plus.f (k : Nat) (a0 : Int) (a1 : Int) : Option (Int) := (octet_fold.f k (IntKind.u64.wrap ((IntKind.u64.wrap (Go.bits .and .i64 a0 65535)) + (IntKind.u64.wrap (Go.bits .and .i64 a1 65535))))).bind fun t188 => (some t188)
theorem octet_Plus.mono : ∀ a0 a1 k, LeO (octet_Plus.f k a0 a1) (octet_Plus.f (k + 1) a0 a1) := by
  intro a0 a1 k
  unfold octet_Plus.f
  repeat' first
      | (with_reducible exact octet_fold.mono _ _)
      | (with_reducible exact LeO.refl _)
      | (with_reducible exact LeO.none _)
      | (with_reducible refine LeO.ite ?_ ?_)
      | (with_reducible refine LeO.bind ?_ (fun _ => ?_))
      | exact octet_fold.mono _ _
      | exact LeO.none _
      | refine LeO.ite ?_ ?_
      | refine LeO.bind ?_ (fun _ => ?_)
set_option maxHeartbeats 8000000 in
set_option maxRecDepth 100000 in
theorem octet_Plus.calls (k : Nat) (a0 : Int) (a1 : Int) (r : Int) (w : World) (h : octet_Plus.f k a0 a1 = some r) :
    Calls Try.prog 29 #[.int .i64 a0, .int .i64 a1] w fun e w' => e = .returned (.int .i64 r) ∧ Drawn0 w w' := by
  have H : ((octet_fold.f k (IntKind.u64.wrap ((IntKind.u64.wrap (Go.bits .and .i64 a0 65535)) + (IntKind.u64.wrap (Go.bits .and .i64 a1 65535))))).bind fun t188 => (some t188)) = some r := h
  clear h
  replace H := Option.bind_eq_some_iff.mp H
  obtain ⟨t188, A30, H⟩ := H
  replace H : (some t188) = some r := H
  have A3 := Aside0.mk A30
  clear A30
  obtain rfl := Option.some.inj H
  go_enter Try.func29, Try.ntmps29
  go_wp2_with (first | ((with_reducible refine gate_callee (f := 57) rfl ?_); refine goesL_ (some 12) rfl rfl Try.func57 (by kernel_rfl) rfl #[.int .u64 (IntKind.u64.wrap ((IntKind.u64.wrap (Go.bits .and .i64 a0 65535)) + (IntKind.u64.wrap (Go.bits .and .i64 a1 65535))))] rfl (by (try simp only [List.map_toArray, List.map_cons, List.map_nil]); first | done | rfl | (simp only [List.length_drop, List.length_take]; rfl)) ?_; (with_reducible refine (octet_fold.calls k (IntKind.u64.wrap ((IntKind.u64.wrap (Go.bits .and .i64 a0 65535)) + (IntKind.u64.wrap (Go.bits .and .i64 a1 65535)))) t188 _ A3.out).mono ?_); rintro e w' ⟨rfl, ⟨nd, rfl⟩⟩; refine ⟨_, rfl, ?_⟩))
  go_ret
  exact ⟨by first | rfl | (simp; done) | (simp [*]; done), by repeat (first | exact Drawn0.refl _ | apply Drawn0.step)⟩

end Go.Proofs.Ytdppnkgblklmmaa.P
