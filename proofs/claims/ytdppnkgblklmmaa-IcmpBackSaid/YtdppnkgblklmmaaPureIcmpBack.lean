/- IcmpBack: what was built is read back; one bit that is turned is found. No condition. -/
import Derived.Test.YtdppnkgblklmmaaPureLibI
import Derived.Test.YtdppnkgblklmmaaPbailiwicklaw5IcmpBack
namespace Go.Proofs.Ytdppnkgblklmmaa.Pure
open Go.RowKit Go.Proofs.Ytdppnkgblklmmaa.P Go.Proofs.YtdppnkgblklmmaaW.PrintWords Go.Proofs.YtdppnkgblklmmaaW.PrintLast Go.Proofs.YtdppnkgblklmmaaW.PrintMore
set_option linter.unusedVariables false
set_option linter.unusedSimpArgs false
theorem iBytes_len (t c r : Int) (d : List Int) : (iBytes t c r d).length = d.length + 8 := by simp [iBytes, iMsg_len]
theorem iBytes_bytes (t c r : Int) (d : List Int) (h : Bytes d) : Bytes (iBytes t c r d) :=
  bytes_set (bytes_set (iMsg_bytes t c r d h) _ _ (by omega) (by omega)) _ _ (by omega) (by omega)
theorem iBytes_sum (t c r : Int) (d : List Int) (h : Bytes d) : sumOf (iBytes t c r d) = 65535 := by
  have hm := iMsg_bytes t c r d h
  have hl := iMsg_len t c r d
  have b := wsum_bound _ false hm
  have g2 : (iMsg t c r d).getD 2 0 = 0 := rfl
  have g3 : (iMsg t c r d).getD 3 0 = 0 := rfl
  have s0 := sumOf_bound (iMsg t c r d)
  have e : wsum false (iBytes t c r d) = wsum false (iMsg t c r d) + (65535 - sumOf (iMsg t c r d)) := by
    unfold iBytes
    have w2 : wt false 2 = 256 := by decide
    have w3 : wt false 3 = 1 := by decide
    rw [wsum_set _ _ _ _ (by simp; omega), wsum_set _ _ _ _ (by omega), getD_set _ _ _ _ (by omega), if_neg (by decide), g2, g3, w2, w3]
    omega
  unfold sumOf at *
  rw [e]
  exact fold_full _ b.1
theorem iBack (t c r : Int) (d : List Int) (h : Bytes d) (ht0 : 0 ≤ t) (ht1 : t ≤ 255) (hc0 : 0 ≤ c) (hc1 : c ≤ 255) (hr0 : 0 ≤ r) (hr1 : r < 4294967296) : iParse (iBytes t c r d) = (t, c, r, d, 0) := by
  unfold iParse
  have hl := iBytes_len t c r d
  rw [if_neg (by omega), if_pos (iBytes_sum t c r d h)]
  have e0 : rd (iBytes t c r d) 0 = t % 256 := rfl
  have e1 : rd (iBytes t c r d) 1 = c % 256 := rfl
  have e4 : four (iBytes t c r d) 4 = r / 16777216 % 256 * 16777216 + r / 65536 % 256 * 65536 + r / 256 % 256 * 256 + r % 256 := rfl
  have e8 : (iBytes t c r d).drop 8 = d := rfl
  rw [e0, e1, e4, e8]
  rw [show t % 256 = t by omega, show c % 256 = c by omega, show r / 16777216 % 256 * 16777216 + r / 65536 % 256 * 65536 + r / 256 % 256 * 256 + r % 256 = r by omega]
theorem IcmpBack : bailiwicklaw5_IcmpBack.Pure := by
  intro t c r d at_ ht hc hr hd ha
  refine ⟨1000002, ?_⟩
  have hB := bytes_of hd.2.2
  have hR : 0 ≤ r ∧ r < 4294967296 := by
    simp [Lit.wf, IntKind.min, IntKind.max, IntKind.bits, IntKind.signed] at hr
    omega
  have hA : -9223372036854775808 ≤ at_ ∧ at_ ≤ 9223372036854775807 := by
    simp [Lit.wf, IntKind.min, IntKind.max, IntKind.bits, IntKind.signed] at ha
    omega
  unfold bailiwicklaw5_IcmpBack.f
  rw [awake5 1000002 (by decide), Option.bind_some, if_pos rfl]
  by_cases h : (d.length : Int) > 5000
  · rw [if_pos h]
  rw [if_neg h, iBuild_to t c r d hB (by omega) _ (by decide), Option.bind_some]
  by_cases h1 : ¬ (0 ≤ t ∧ t ≤ 255 ∧ 0 ≤ c ∧ c ≤ 255)
  · rw [show iBuild t c r d = ([], 1) by unfold iBuild; rw [if_neg h1]]; rfl
  replace h1 := Classical.not_not.1 h1
  by_cases h2 : (d.length : Int) > 2020
  · rw [show iBuild t c r d = ([], 3) by unfold iBuild; rw [if_pos h1, if_pos h2]]; rfl
  rw [show iBuild t c r d = (iBytes t c r d, 0) by unfold iBuild; rw [if_pos h1, if_neg h2]]
  have hl := iBytes_len t c r d
  have hb := iBytes_bytes t c r d hB
  have hs := iBytes_sum t c r d hB
  have hk := iBack t c r d hB h1.1 h1.2.1 h1.2.2.1 h1.2.2.2 hR.1 hR.2
  show (if (0 : Int) = 0 then _ else _) = _
  rw [if_pos rfl]
  show (icmp_Parse.f (iBytes t c r d)).bind _ = _
  rw [iParse_to _ hb (by omega), Option.bind_some, hk]
  show (if (0 : Int) = 0 then (bailiwickref3_SameWord.f 1000002 t c r d t c r d).bind (fun t714 => bailiwicklaw5_IcmpBack.j0 1000002 at_ (iBytes t c r d) (!t714)) else _) = _
  rw [if_pos rfl, sameWord_to _ _ _ _ (by omega) _ (by decide), Option.bind_some, bailiwicklaw5_IcmpBack.j0, if_neg (by decide)]
  by_cases h3 : at_ < 0
  · rw [if_pos h3]
  rw [if_neg h3, Int.tdiv_eq_ediv_of_nonneg (by omega), Int.tmod_eq_emod_of_nonneg (by omega), w64 (x := at_ / 8) (by omega) (by omega)]
  by_cases h4 : at_ / 8 ≥ ((iBytes t c r d).length : Int)
  · rw [if_pos h4]
  have ew : 0 ≤ IntKind.u64.wrap (at_ % 8) := by rw [wrap_u64]; omega
  rw [if_neg h4, if_pos (by omega), if_pos (by omega), if_pos ew]
  obtain ⟨i, hi⟩ := Int.eq_ofNat_of_zero_le (by omega : 0 ≤ at_ / 8)
  rw [hi, Int.toNat_natCast]
  have g := hb.get i (by omega)
  obtain ⟨f0, f1, f2⟩ := flip_byte (rd (iBytes t c r d) (i : Int)) (at_ % 8) g.1 g.2 (by omega) (by omega)
  generalize Go.bits .xor .u8 (rd (iBytes t c r d) (i : Int)) (shl .u8 1 (IntKind.u64.wrap (at_ % 8))) = v at *
  obtain ⟨n0, n1⟩ := flip_sum (iBytes t c r d) i v hb (by omega) hs f0 f1 f2
  rw [iParse_to _ n0 (by simp; omega), Option.bind_some]
  unfold iParse
  rw [if_neg (by simp; omega), if_neg n1]
  rfl
end Go.Proofs.Ytdppnkgblklmmaa.Pure
