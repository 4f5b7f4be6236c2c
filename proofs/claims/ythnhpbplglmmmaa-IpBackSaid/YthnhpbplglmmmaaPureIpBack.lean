/- IpBack: what was built is read back, whatever stands behind, and built again it is the same. No condition. -/
import Derived.Test.YthnhpbplglmmmaaPureLibIpB
import Derived.Test.YthnhpbplglmmmaaPureLibIpS
import Derived.Test.YthnhpbplglmmmaaPbailiwicklaw2IpBack
namespace Go.Proofs.Ythnhpbplglmmmaa.Pure
open Go.RowKit Go.Proofs.Ythnhpbplglmmmaa.P Go.Proofs.YthnhpbplglmmmaaW.PrintWords Go.Proofs.YthnhpbplglmmmaaW.PrintLast
set_option linter.unusedVariables false
set_option linter.unusedSimpArgs false
theorem IpBack : bailiwicklaw2_IpBack.Pure := by
  intro tos id df mf off ttl proto src dst opts body more ht hi hof htt hpr hs hd ho hl hmo
  refine ⟨1000110, ?_⟩
  have hT := (i64_wf2 ht).2
  have hI := (i64_wf2 hi).2
  have hOF := (i64_wf2 hof).2
  have hTT := (i64_wf2 htt).2
  have hPR := (i64_wf2 hpr).2
  have hS := u32_wf2 hs
  have hD := u32_wf2 hd
  have hO := bytes_of ho.2.2
  have hB := bytes_of hl.2.2
  have hM := bytes_of hmo.2.2
  unfold bailiwicklaw2_IpBack.f
  rw [show bailiwicklaw2_awake.f = some true from by decide +kernel, Option.bind_some, if_pos rfl]
  unfold bailiwicklaw2_small.f
  by_cases h1 : (body.length : Int) ≤ 5000
  case neg => rw [if_neg h1, Option.bind_some, if_neg (by decide), bailiwicklaw2_IpBack.j0, if_pos rfl]
  rw [if_pos h1, Option.bind_some]
  by_cases h2 : (opts.length : Int) ≤ 5000
  case neg => rw [decide_eq_false h2, if_neg (by decide), bailiwicklaw2_IpBack.j0, if_pos rfl]
  rw [if_pos (decide_eq_true h2)]
  by_cases h3 : (more.length : Int) > 5000
  · rw [decide_eq_true h3, bailiwicklaw2_IpBack.j0, if_pos rfl]
  rw [decide_eq_false h3, bailiwicklaw2_IpBack.j0, if_neg (by decide), ibuild_to tos id df mf off ttl proto src dst opts body hT hI hOF hTT hPR hS hD hO, Option.bind_some]
  by_cases h4 : iok tos id off ttl proto opts
  case neg => rw [show ibuild tos id df mf off ttl proto src dst opts body = ([], 1) by unfold ibuild; rw [if_neg h4]]; rfl
  by_cases h5 : (body.length : Int) > 2028 - (opts.length : Int)
  · rw [show ibuild tos id df mf off ttl proto src dst opts body = ([], 3) by unfold ibuild; rw [if_pos h4, if_pos h5]]; rfl
  have e : ibuild tos id df mf off ttl proto src dst opts body = (ibytes tos id df mf off ttl proto src dst opts body, 0) := by unfold ibuild; rw [if_pos h4, if_neg h5]
  have hn := ibytes_len tos id df mf off ttl proto src dst opts body
  have hb : Bytes (ibytes tos id df mf off ttl proto src dst opts body) := Bytes.append (ihd_bytes _ _ _ _ _ _ _ _ _ _ _ _ hO) hB
  rw [e]
  dsimp only
  rw [if_pos rfl, copy_to _ (by omega) _ (by omega), Option.bind_some, if_pos (by omega), Option.bind_some]
  have tail : ∀ m : List Int, Bytes m → 20 + opts.length + body.length + m.length ≤ 2048 → bailiwicklaw2_IpBack.j1 1000109 (ibytes tos id df mf off ttl proto src dst opts body) (ibytes tos id df mf off ttl proto src dst opts body ++ m) tos id df mf off ttl proto src dst opts body = some true := by
    intro m hbm hm
    rw [bailiwicklaw2_IpBack.j1, ipParse_to _ (hb.append hbm), Option.bind_some, i_read tos id df mf off ttl proto src dst opts body m h4 (by omega) hS hD hO hm]
    dsimp only
    rw [ibuild_to tos id df mf off ttl proto src dst opts body hT hI hOF hTT hPR hS hD hO, Option.bind_some, e]
    dsimp only
    rw [if_pos rfl, if_pos rfl, sameIp_to _ _ _ _ _ _ _ _ _ _ _ (by omega) (by omega) _ (by decide), Option.bind_some, if_pos rfl, same_to _ (by omega) _ (by omega)]
    rfl
  by_cases h6 : ((ibytes tos id df mf off ttl proto src dst opts body ++ more).length : Int) > 2048
  · rw [if_pos h6, if_pos (by omega), show (2048 : Int).toNat = 2048 from rfl, List.take_append, List.take_of_length_le (by omega)]
    exact tail _ (hM.take2 _) (by rw [List.length_take]; omega)
  · rw [if_neg h6]
    rw [List.length_append] at h6
    exact tail more hM (by omega)
end Go.Proofs.Ythnhpbplglmmmaa.Pure
