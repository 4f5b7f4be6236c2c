/- Plain lemmas on the reference for udp. No program in sight. -/
import Derived.Test.YthnhpbplglmmmaaPureLibU
import Derived.Test.YthnhpbplglmmmaaPureLib5R
import Derived.Test.YthnhpbplglmmmaaPbailiwickref3
namespace Go.Proofs.Ythnhpbplglmmmaa.Pure
open Go.RowKit Go.Proofs.Ythnhpbplglmmmaa.P Go.Proofs.YthnhpbplglmmmaaW.PrintWords Go.Proofs.YthnhpbplglmmmaaW.PrintLast Go.Proofs.YthnhpbplglmmmaaW.PrintMore
set_option linter.unusedVariables false
set_option linter.unusedSimpArgs false
theorem refPseudo_to (s d p n : Int) (hs : 0 ≤ s ∧ s < 4294967296) (hd : 0 ≤ d ∧ d < 4294967296) (k : Nat) (hk : 10 ≤ k) : bailiwickref3_Pseudo.f k s d p n = some (pseudo s d p n) := by
  unfold bailiwickref3_Pseudo.f
  have es : IntKind.u64.wrap s = s := by rw [wrap_u64, Int.emod_eq_of_lt (by omega) (by omega)]
  have ed : IntKind.u64.wrap d = d := by rw [wrap_u64, Int.emod_eq_of_lt (by omega) (by omega)]
  rw [es, ed, refLay4 _ _ (by simp) k (by omega), Option.bind_some, refLay4 _ _ (by simp) k (by omega), Option.bind_some, Option.bind_some, if_pos (by simp), refLay2 _ _ (by simp) k (by omega), Option.bind_some, wrap_u64]
  unfold pseudo
  rw [show n % 18446744073709551616 / 256 % 256 = n / 256 % 256 by omega, show n % 18446744073709551616 % 256 = n % 256 by omega]
  rfl
end Go.Proofs.Ythnhpbplglmmmaa.Pure
