/- Plain lemma: two equal segments are told equal. No program in sight. -/
import Derived.Test.YthnhpbplglmmmaaPureLib3
import Derived.Test.YthnhpbplglmmmaaPbailiwickref3SamePiece
namespace Go.Proofs.Ythnhpbplglmmmaa.Pure
open Go.RowKit Go.Proofs.Ythnhpbplglmmmaa.P Go.Proofs.YthnhpbplglmmmaaW.PrintWords Go.Proofs.YthnhpbplglmmmaaW.PrintLast Go.Proofs.YthnhpbplglmmmaaW.PrintMore
set_option linter.unusedVariables false
set_option linter.unusedSimpArgs false
theorem samePiece_to (a b c d e f g : Int) (l m : List Int) (hl : l.length ≤ 1000000) (hm : m.length ≤ 1000000) (k : Nat) (hk : 1000001 ≤ k) : bailiwickref3_SamePiece.f k a b c d e f g l m a b c d e f g l m = some true := by
  unfold bailiwickref3_SamePiece.f
  rw [if_pos rfl, if_pos rfl, if_pos rfl, if_pos rfl, if_pos rfl, if_pos rfl, if_pos rfl, same_to l (by omega) k (by omega), Option.bind_some, if_pos rfl, same_to m (by omega) k (by omega), Option.bind_some]
end Go.Proofs.Ythnhpbplglmmmaa.Pure
