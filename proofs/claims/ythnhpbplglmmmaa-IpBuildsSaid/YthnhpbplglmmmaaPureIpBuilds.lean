/- IpBuilds: a datagram's bytes, or what may not be, are the document's. No condition. -/
import Derived.Test.YthnhpbplglmmmaaPureLibIpR
import Derived.Test.YthnhpbplglmmmaaPbailiwicklaw2IpBuilds
namespace Go.Proofs.Ythnhpbplglmmmaa.Pure
open Go.RowKit Go.Proofs.Ythnhpbplglmmmaa.P Go.Proofs.YthnhpbplglmmmaaW.PrintWords Go.Proofs.YthnhpbplglmmmaaW.PrintLast
set_option linter.unusedVariables false
set_option linter.unusedSimpArgs false
theorem ibuild_len (tos id : Int) (df mf : Bool) (off ttl proto src dst : Int) (opts body : List Int) : (ibuild tos id df mf off ttl proto src dst opts body).1.length ≤ 20 + opts.length + body.length := by
  unfold ibuild
  split
  · split <;> simp [ibytes_len]
  · simp
theorem IpBuilds : bailiwicklaw2_IpBuilds.Pure := by
  intro tos id df mf off ttl proto src dst opts body ht hi hof htt hpr hs hd ho hl
  refine ⟨12000, ?_⟩
  have hT := (i64_wf2 ht).2
  have hI := (i64_wf2 hi).2
  have hOF := (i64_wf2 hof).2
  have hTT := (i64_wf2 htt).2
  have hPR := (i64_wf2 hpr).2
  have hS := u32_wf2 hs
  have hD := u32_wf2 hd
  have hO := bytes_of ho.2.2
  unfold bailiwicklaw2_IpBuilds.f
  rw [show bailiwicklaw2_awake.f = some true from by decide +kernel, Option.bind_some, if_pos rfl]
  unfold bailiwicklaw2_small.f
  by_cases h1 : (body.length : Int) ≤ 5000
  · rw [if_pos h1, Option.bind_some]
    by_cases h2 : (opts.length : Int) ≤ 5000
    · have hn := ibuild_len tos id df mf off ttl proto src dst opts body
      rw [if_pos (decide_eq_true h2), ibuild_to tos id df mf off ttl proto src dst opts body hT hI hOF hTT hPR hS hD hO, Option.bind_some, rBuild_to tos id df mf off ttl proto src dst opts body hS hD hO (by omega) (by omega) _ (by decide), Option.bind_some, if_pos rfl, same_to _ (by omega) _ (by omega)]
      rfl
    · rw [decide_eq_false h2, if_neg (by decide)]
  · rw [if_neg h1, Option.bind_some, if_neg (by decide)]
end Go.Proofs.Ythnhpbplglmmmaa.Pure
