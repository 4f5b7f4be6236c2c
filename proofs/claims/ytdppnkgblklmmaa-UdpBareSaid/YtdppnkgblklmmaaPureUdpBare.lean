/- UdpBare: a check is 0 just of one that is bare; it never is of another. No condition. -/
import Derived.Test.YtdppnkgblklmmaaPureLibU
import Derived.Test.YtdppnkgblklmmaaPbailiwicklaw3UdpBare
namespace Go.Proofs.Ytdppnkgblklmmaa.Pure
open Go.RowKit Go.Proofs.Ytdppnkgblklmmaa.P Go.Proofs.YtdppnkgblklmmaaW.PrintWords Go.Proofs.YtdppnkgblklmmaaW.PrintLast
set_option linter.unusedVariables false
set_option linter.unusedSimpArgs false
theorem UdpBare : bailiwicklaw3_UdpBare.Pure := by
  intro s d sp dp bare data hs hd hsp hdp hl
  refine ⟨11000, ?_⟩
  have hS := u32_wf hs
  have hD := u32_wf hd
  have hB := bytes_of hl.2.2
  unfold bailiwicklaw3_UdpBare.f
  rw [show bailiwicklaw3_awake.f = some true from rfl, Option.bind_some, if_pos rfl]
  by_cases h : (data.length : Int) > 5000
  · rw [if_pos h]
  rw [if_neg h, uBuild_to s d sp dp bare data hS hD hB (by omega) _ (by decide), Option.bind_some]
  by_cases h1 : ¬ (0 ≤ sp ∧ sp ≤ 65535 ∧ 0 ≤ dp ∧ dp ≤ 65535)
  · rw [show uBuild s d sp dp bare data = ([], 1) by unfold uBuild; rw [if_neg h1]]; rfl
  replace h1 := Classical.not_not.1 h1
  by_cases h2 : (data.length : Int) > 2020
  · rw [show uBuild s d sp dp bare data = ([], 3) by unfold uBuild; rw [if_pos h1, if_pos h2]]; rfl
  rw [show uBuild s d sp dp bare data = (uBytes s d sp dp bare data, 0) by unfold uBuild; rw [if_pos h1, if_neg h2]]
  have hb := uCheck_bound s d sp dp data
  unfold uBytes
  cases bare
  · rw [if_neg (show ¬ (false = true) by decide)]
    generalize uCheck s d sp dp data = c at *
    show (if (0 : Int) = 0 then (if 6 < ((uMsg sp dp (8 + data.length) c data).length : Int) then (if c / 256 % 256 = 0 then (if 7 < ((uMsg sp dp (8 + data.length) c data).length : Int) then some ((c % 256 == 0) == false) else none) else some (false == false)) else none) else some true) = some true
    rw [if_pos rfl, uMsg_len, if_pos (by omega)]
    by_cases h0 : c / 256 % 256 = 0
    · rw [if_pos h0, if_pos (by omega), beq_eq_false_iff_ne.2 (by omega : c % 256 ≠ 0)]; rfl
    · rw [if_neg h0]; rfl
  · rw [if_pos (show true = true from rfl)]
    show (if (0 : Int) = 0 then (if 6 < ((uMsg sp dp (8 + data.length) 0 data).length : Int) then (if (0 : Int) = 0 then (if 7 < ((uMsg sp dp (8 + data.length) 0 data).length : Int) then some (((0 : Int) == 0) == true) else none) else some (false == true)) else none) else some true) = some true
    rw [if_pos rfl, uMsg_len, if_pos (by omega), if_pos rfl, if_pos (by omega)]
    rfl
end Go.Proofs.Ytdppnkgblklmmaa.Pure
