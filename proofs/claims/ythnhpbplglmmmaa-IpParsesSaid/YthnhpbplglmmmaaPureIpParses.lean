/- IpParses: of any bytes the datagram that stands there, or the first thing that is wrong, is the document's. No condition. -/
import Derived.Test.YthnhpbplglmmmaaPureLibIpR
import Derived.Test.YthnhpbplglmmmaaPureLibIpS
import Derived.Test.YthnhpbplglmmmaaPbailiwicklaw2IpParses
namespace Go.Proofs.Ythnhpbplglmmmaa.Pure
open Go.RowKit Go.Proofs.Ythnhpbplglmmmaa.P Go.Proofs.YthnhpbplglmmmaaW.PrintWords Go.Proofs.YthnhpbplglmmmaaW.PrintLast
set_option linter.unusedVariables false
set_option linter.unusedSimpArgs false
theorem ipOf_len (l : List Int) : (ipOf l).2.2.2.2.2.2.2.2.2.1.length ≤ l.length ∧ (ipOf l).2.2.2.2.2.2.2.2.2.2.1.length ≤ l.length := by
  unfold ipOf izero
  repeat' split
  all_goals simp
  all_goals omega
theorem IpParses : bailiwicklaw2_IpParses.Pure := by
  intro l hl
  refine ⟨1000100, ?_⟩
  have hB := bytes_of hl.2.2
  unfold bailiwicklaw2_IpParses.f
  rw [show bailiwicklaw2_awake.f = some true from by decide +kernel, Option.bind_some, if_pos rfl]
  by_cases h : (l.length : Int) > 5000
  · rw [if_pos h, ipParse_to l hB, Option.bind_some]
    unfold ipOf
    rw [if_pos (by omega)]
    rfl
  have hp := ipOf_len l
  rw [if_neg h, ipParse_to l hB, Option.bind_some, rParse_to l hB (by omega) _ (by decide), Option.bind_some, if_pos rfl, sameIp_to _ _ _ _ _ _ _ _ _ _ _ (by omega) (by omega) _ (by decide)]
  rfl
end Go.Proofs.Ythnhpbplglmmmaa.Pure
