/- IcmpBuilds: a message's bytes, or what may not be, are the document's. No condition. -/
import Derived.Test.YtdppnkgblklmmaaPureLibI
import Derived.Test.YtdppnkgblklmmaaPbailiwicklaw5IcmpBuilds
namespace Go.Proofs.Ytdppnkgblklmmaa.Pure
open Go.RowKit Go.Proofs.Ytdppnkgblklmmaa.P Go.Proofs.YtdppnkgblklmmaaW.PrintWords Go.Proofs.YtdppnkgblklmmaaW.PrintLast
set_option linter.unusedVariables false
set_option linter.unusedSimpArgs false
theorem iBuild_len (t c r : Int) (d : List Int) : (iBuild t c r d).1.length ≤ d.length + 8 := by
  unfold iBuild iBytes
  split
  · split <;> simp [iMsg_len]
  · simp
theorem u32_of {r : Int} (h : (Lit.int .u32 r).wf = true) : 0 ≤ r ∧ r < 4294967296 := by
  simp [Lit.wf, IntKind.min, IntKind.max, IntKind.bits, IntKind.signed] at h
  omega
theorem IcmpBuilds : bailiwicklaw5_IcmpBuilds.Pure := by
  intro t c r d ht hc hr hd
  refine ⟨11000, ?_⟩
  have hB := bytes_of hd.2.2
  have hR := u32_of hr
  unfold bailiwicklaw5_IcmpBuilds.f
  rw [awake5 11000 (by decide), Option.bind_some, if_pos rfl]
  by_cases h : (d.length : Int) > 5000
  · rw [if_pos h]
  have hl := iBuild_len t c r d
  rw [if_neg h, iBuild_to t c r d hB (by omega) _ (by decide), Option.bind_some, refBuildWord_to t c r d hB (by omega) hR.1 hR.2 _ (by decide), Option.bind_some, if_pos rfl, same_to _ (by omega) _ (by omega)]
  rfl
end Go.Proofs.Ytdppnkgblklmmaa.Pure
