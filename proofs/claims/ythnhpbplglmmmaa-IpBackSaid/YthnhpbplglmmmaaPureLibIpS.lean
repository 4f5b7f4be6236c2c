/- Plain lemma: two equal datagrams are told equal. No program in sight. -/
import Derived.Test.YthnhpbplglmmmaaPureLib3
import Derived.Test.YthnhpbplglmmmaaPbailiwickref2B
namespace Go.Proofs.Ythnhpbplglmmmaa.Pure
open Go.RowKit Go.Proofs.Ythnhpbplglmmmaa.P Go.Proofs.YthnhpbplglmmmaaW.PrintWords Go.Proofs.YthnhpbplglmmmaaW.PrintLast Go.Proofs.YthnhpbplglmmmaaW.PrintMore
set_option linter.unusedVariables false
set_option linter.unusedSimpArgs false
theorem sameIp_to (a b : Int) (c d : Bool) (e f g x y : Int) (l m : List Int) (hl : l.length ≤ 1000000) (hm : m.length ≤ 1000000) (k : Nat) (hk : 1000001 ≤ k) : bailiwickref2_Same.f k a b c d e f g x y l m a b c d e f g x y l m = some true := by
  unfold bailiwickref2_Same.f
  rw [if_pos rfl, if_pos rfl, if_pos (by simp), if_pos (by simp), if_pos rfl, if_pos rfl, if_pos rfl, if_pos rfl, if_pos rfl, same_to l (by omega) k (by omega), Option.bind_some, if_pos rfl, same_to m (by omega) k (by omega), Option.bind_some]
end Go.Proofs.Ythnhpbplglmmmaa.Pure
