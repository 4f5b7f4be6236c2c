/- IcmpParses: of any bytes the message that stands there, or the first thing that is wrong, is the document's. No condition. -/
import Derived.Test.YtdppnkgblklmmaaPureLibI
import Derived.Test.YtdppnkgblklmmaaPbailiwicklaw5IcmpParses
namespace Go.Proofs.Ytdppnkgblklmmaa.Pure
open Go.RowKit Go.Proofs.Ytdppnkgblklmmaa.P Go.Proofs.YtdppnkgblklmmaaW.PrintWords Go.Proofs.YtdppnkgblklmmaaW.PrintLast
set_option linter.unusedVariables false
set_option linter.unusedSimpArgs false
theorem iParse_len (l : List Int) : (iParse l).2.2.2.1.length ≤ l.length := by
  unfold iParse
  split
  · simp
  · split <;> simp
theorem IcmpParses : bailiwicklaw5_IcmpParses.Pure := by
  intro l hl
  refine ⟨1000001, ?_⟩
  have hB := bytes_of hl.2.2
  unfold bailiwicklaw5_IcmpParses.f
  rw [awake5 1000001 (by decide), Option.bind_some, if_pos rfl]
  by_cases h : (l.length : Int) > 100000
  · rw [if_pos h]
  have hp := iParse_len l
  rw [if_neg h, iParse_to l hB (by omega), Option.bind_some, refWord_to l hB (by omega) _ (by decide), Option.bind_some, if_pos rfl, sameWord_to _ _ _ _ (by omega) _ (by decide)]
  rfl
end Go.Proofs.Ytdppnkgblklmmaa.Pure
