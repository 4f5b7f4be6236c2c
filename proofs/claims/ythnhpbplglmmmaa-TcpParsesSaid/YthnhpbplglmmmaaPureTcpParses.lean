/- TcpParses: of any bytes the segment that stands there, or the first thing that is wrong, is the document's. No condition. -/
import Derived.Test.YthnhpbplglmmmaaPureLibTR
import Derived.Test.YthnhpbplglmmmaaPureLibTS
import Derived.Test.YthnhpbplglmmmaaPbailiwicklaw4TcpParses
namespace Go.Proofs.Ythnhpbplglmmmaa.Pure
open Go.RowKit Go.Proofs.Ythnhpbplglmmmaa.P Go.Proofs.YthnhpbplglmmmaaW.PrintWords Go.Proofs.YthnhpbplglmmmaaW.PrintLast
set_option linter.unusedVariables false
set_option linter.unusedSimpArgs false
theorem tParse_len (s d : Int) (l : List Int) : (tParse s d l).2.2.2.2.2.2.2.1.length ≤ l.length ∧ (tParse s d l).2.2.2.2.2.2.2.2.1.length ≤ l.length := by
  unfold tParse
  repeat' split
  all_goals simp
  all_goals omega
theorem TcpParses : bailiwicklaw4_TcpParses.Pure := by
  intro s d l hs hd hl
  refine ⟨1000100, ?_⟩
  have hS := u32_wf hs
  have hD := u32_wf hd
  have hB := bytes_of hl.2.2
  unfold bailiwicklaw4_TcpParses.f
  rw [show bailiwicklaw4_awake.f = some true from by decide +kernel, Option.bind_some, if_pos rfl]
  by_cases h : (l.length : Int) > 5000
  · rw [if_pos h]
  have hp := tParse_len s d l
  rw [if_neg h, tParse_to s d l hS hD hB (by omega), Option.bind_some, refPiece_to s d l hS hD hB (by omega) _ (by decide), Option.bind_some, if_pos rfl, samePiece_to _ _ _ _ _ _ _ _ _ (by omega) (by omega) _ (by decide)]
  rfl
end Go.Proofs.Ythnhpbplglmmmaa.Pure
