/- TcpBuilds: a segment's bytes, or what may not be, are the document's. No condition. -/
import Derived.Test.YthnhpbplglmmmaaPureLibTR
import Derived.Test.YthnhpbplglmmmaaPbailiwicklaw4TcpBuilds
namespace Go.Proofs.Ythnhpbplglmmmaa.Pure
open Go.RowKit Go.Proofs.Ythnhpbplglmmmaa.P Go.Proofs.YthnhpbplglmmmaaW.PrintWords Go.Proofs.YthnhpbplglmmmaaW.PrintLast
set_option linter.unusedVariables false
set_option linter.unusedSimpArgs false
theorem tBuild_len (s d sp dp seq ack fl wi ur : Int) (opts data : List Int) : (tBuild s d sp dp seq ack fl wi ur opts data).1.length ≤ 20 + opts.length + data.length := by
  unfold tBuild tBytes
  split
  · split <;> simp [tMsg_len]
  · simp
theorem TcpBuilds : bailiwicklaw4_TcpBuilds.Pure := by
  intro s d sp dp seq ack fl wi ur opts data hs hd hsp hdp hseq hack hfl hwi hur ho hl
  refine ⟨12000, ?_⟩
  have hS := u32_wf hs
  have hD := u32_wf hd
  have hSQ := u32_wf hseq
  have hAK := u32_wf hack
  have hO := bytes_of ho.2.2
  have hB := bytes_of hl.2.2
  unfold bailiwicklaw4_TcpBuilds.f
  rw [show bailiwicklaw4_awake.f = some true from by decide +kernel, Option.bind_some, if_pos rfl]
  unfold bailiwicklaw4_small.f
  by_cases h1 : (data.length : Int) ≤ 5000
  · rw [if_pos h1, Option.bind_some]
    by_cases h2 : (opts.length : Int) ≤ 5000
    · have hn := tBuild_len s d sp dp seq ack fl wi ur opts data
      rw [if_pos (decide_eq_true h2), tBuild_to s d sp dp seq ack fl wi ur opts data hS hD hSQ hAK hO hB, Option.bind_some, refBuildPiece_to s d sp dp seq ack fl wi ur opts data hS hD hSQ hAK hO hB (by omega) (by omega) _ (by decide), Option.bind_some, if_pos rfl, same_to _ (by omega) _ (by omega)]
      rfl
    · rw [decide_eq_false h2, if_neg (by decide)]
  · rw [if_neg h1, Option.bind_some, if_neg (by decide)]
end Go.Proofs.Ythnhpbplglmmmaa.Pure
