/- UdpBuilds: a datagram's bytes, or what may not be, are the document's. No condition. -/
import Derived.Test.YtdppnkgblklmmaaPureLibU
import Derived.Test.YtdppnkgblklmmaaPbailiwicklaw3UdpBuilds
namespace Go.Proofs.Ytdppnkgblklmmaa.Pure
open Go.RowKit Go.Proofs.Ytdppnkgblklmmaa.P Go.Proofs.YtdppnkgblklmmaaW.PrintWords Go.Proofs.YtdppnkgblklmmaaW.PrintLast
set_option linter.unusedVariables false
set_option linter.unusedSimpArgs false
theorem uBuild_len (s d sp dp : Int) (bare : Bool) (data : List Int) : (uBuild s d sp dp bare data).1.length ≤ data.length + 8 := by
  unfold uBuild uBytes
  split
  · split <;> simp [uMsg_len]
  · simp
theorem UdpBuilds : bailiwicklaw3_UdpBuilds.Pure := by
  intro s d sp dp bare data hs hd hsp hdp hl
  refine ⟨11000, ?_⟩
  have hS := u32_wf hs
  have hD := u32_wf hd
  have hB := bytes_of hl.2.2
  unfold bailiwicklaw3_UdpBuilds.f
  rw [show bailiwicklaw3_awake.f = some true from rfl, Option.bind_some, if_pos rfl]
  by_cases h : (data.length : Int) > 5000
  · rw [if_pos h]
  have hn := uBuild_len s d sp dp bare data
  rw [if_neg h, uBuild_to s d sp dp bare data hS hD hB (by omega) _ (by decide), Option.bind_some, refBuildDatagram_to s d sp dp bare data hS hD hB (by omega) _ (by decide), Option.bind_some, if_pos rfl, same_to _ (by omega) _ (by omega)]
  rfl
end Go.Proofs.Ytdppnkgblklmmaa.Pure
