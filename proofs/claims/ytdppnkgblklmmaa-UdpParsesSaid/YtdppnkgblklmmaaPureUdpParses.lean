/- UdpParses: of any bytes the datagram that stands there, or the first thing that is wrong, is the document's. No condition. -/
import Derived.Test.YtdppnkgblklmmaaPureLibU
import Derived.Test.YtdppnkgblklmmaaPbailiwicklaw3UdpParses
namespace Go.Proofs.Ytdppnkgblklmmaa.Pure
open Go.RowKit Go.Proofs.Ytdppnkgblklmmaa.P Go.Proofs.YtdppnkgblklmmaaW.PrintWords Go.Proofs.YtdppnkgblklmmaaW.PrintLast
set_option linter.unusedVariables false
set_option linter.unusedSimpArgs false
theorem uParse_len (s d : Int) (l : List Int) : (uParse s d l).2.2.2.1.length ≤ l.length := by
  unfold uParse
  repeat' split
  all_goals simp
  all_goals omega
theorem UdpParses : bailiwicklaw3_UdpParses.Pure := by
  intro s d l hs hd hl
  refine ⟨1000100, ?_⟩
  have hS := u32_wf hs
  have hD := u32_wf hd
  have hB := bytes_of hl.2.2
  unfold bailiwicklaw3_UdpParses.f
  rw [show bailiwicklaw3_awake.f = some true from rfl, Option.bind_some, if_pos rfl]
  by_cases h : (l.length : Int) > 70000
  · rw [if_pos h]
  have hp := uParse_len s d l
  rw [if_neg h, uParse_to s d l hS hD hB (by omega) _ (by decide), Option.bind_some, refDatagram_to s d l hS hD hB (by omega) _ (by decide), Option.bind_some, if_pos rfl, sameDatagram_to _ _ _ _ (by omega) _ (by decide)]
  rfl
end Go.Proofs.Ytdppnkgblklmmaa.Pure
