/- TcpBack: what was built is read back, and built again it is the same bytes. No condition. -/
import Derived.Test.YthnhpbplglmmmaaPureLibTB
import Derived.Test.YthnhpbplglmmmaaPureLibTS
import Derived.Test.YthnhpbplglmmmaaPbailiwicklaw4TcpBack
namespace Go.Proofs.Ythnhpbplglmmmaa.Pure
open Go.RowKit Go.Proofs.Ythnhpbplglmmmaa.P Go.Proofs.YthnhpbplglmmmaaW.PrintWords Go.Proofs.YthnhpbplglmmmaaW.PrintLast
set_option linter.unusedVariables false
set_option linter.unusedSimpArgs false
theorem TcpBack : bailiwicklaw4_TcpBack.Pure := by
  intro s d sp dp seq ack fl wi ur opts data hs hd hsp hdp hseq hack hfl hwi hur ho hl
  refine ⟨1000100, ?_⟩
  have hS := u32_wf hs
  have hD := u32_wf hd
  have hSQ := u32_wf hseq
  have hAK := u32_wf hack
  have hO := bytes_of ho.2.2
  have hB := bytes_of hl.2.2
  unfold bailiwicklaw4_TcpBack.f
  rw [show bailiwicklaw4_awake.f = some true from by decide +kernel, Option.bind_some, if_pos rfl]
  unfold bailiwicklaw4_small.f
  by_cases h1 : (data.length : Int) ≤ 5000
  case neg => rw [if_neg h1, Option.bind_some, if_neg (by decide)]
  rw [if_pos h1, Option.bind_some]
  by_cases h2 : (opts.length : Int) ≤ 5000
  case neg => rw [decide_eq_false h2, if_neg (by decide)]
  rw [if_pos (decide_eq_true h2), tBuild_to s d sp dp seq ack fl wi ur opts data hS hD hSQ hAK hO hB, Option.bind_some]
  by_cases h3 : tOk sp dp fl wi ur opts
  case neg => rw [show tBuild s d sp dp seq ack fl wi ur opts data = ([], 1) by unfold tBuild; rw [if_neg h3]]; rfl
  by_cases h4 : (data.length : Int) > 2008 - (opts.length : Int)
  · rw [show tBuild s d sp dp seq ack fl wi ur opts data = ([], 3) by unfold tBuild; rw [if_pos h3, if_pos h4]]; rfl
  have e : tBuild s d sp dp seq ack fl wi ur opts data = (tBytes s d sp dp seq ack fl wi ur opts data, 0) := by unfold tBuild; rw [if_pos h3, if_neg h4]
  have hn : (tBytes s d sp dp seq ack fl wi ur opts data).length = 20 + opts.length + data.length := tMsg_len ..
  rw [e]
  dsimp only
  rw [if_pos rfl, tParse_to s d _ hS hD (show Bytes (tBytes s d sp dp seq ack fl wi ur opts data) from tMsg_bytes _ _ _ _ _ _ _ _ _ _ hO hB) (by omega), Option.bind_some, t_read s d sp dp seq ack fl wi ur opts data h3 (by omega) hSQ hAK hO hB]
  dsimp only
  rw [tBuild_to s d sp dp seq ack fl wi ur opts data hS hD hSQ hAK hO hB, Option.bind_some, e]
  dsimp only
  rw [if_pos rfl, if_pos rfl, samePiece_to _ _ _ _ _ _ _ _ _ (by omega) (by omega) _ (by decide), Option.bind_some, if_pos rfl, same_to _ (by omega) _ (by omega)]
  rfl
end Go.Proofs.Ythnhpbplglmmmaa.Pure
