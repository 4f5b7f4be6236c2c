/- Plain lemmas: a datagram that was built is read back; its header's sum is right; single bits. No program in sight. -/
import Derived.Test.YthnhpbplglmmmaaPureLibIpP
namespace Go.Proofs.Ythnhpbplglmmmaa.Pure
open Go.RowKit Go.Proofs.Ythnhpbplglmmmaa.P Go.Proofs.YthnhpbplglmmmaaW.PrintWords Go.Proofs.YthnhpbplglmmmaaW.PrintLast
set_option linter.unusedVariables false
set_option linter.unusedSimpArgs false
theorem nat_and_two_pow (n i : Nat) : n &&& 2 ^ i = n / 2 ^ i % 2 * 2 ^ i := by
  apply Nat.eq_of_testBit_eq
  intro j
  rw [Nat.testBit_and, Nat.testBit_two_pow, Nat.testBit_mul_two_pow]
  by_cases h : i = j
  · subst h
    rw [Nat.sub_self, Nat.testBit_eq_decide_div_mod_eq, Nat.testBit_eq_decide_div_mod_eq]
    simp
  · rw [decide_eq_false h, Bool.and_false]
    by_cases h2 : i ≤ j
    · rw [decide_eq_true h2, Bool.true_and, Nat.testBit_lt_two_pow]
      have : 2 ^ 1 ≤ 2 ^ (j - i) := Nat.pow_le_pow_right (by decide) (by omega)
      omega
    · rw [decide_eq_false h2, Bool.false_and]
theorem and_bit (p : Int) (i : Nat) (h0 : 0 ≤ p) (h1 : p < 65536) (hi : i ≤ 15) : Go.bits .and .i64 p (2 ^ i) = p / 2 ^ i % 2 * 2 ^ i := by
  obtain ⟨n, rfl⟩ := Int.eq_ofNat_of_zero_le h0
  have hp : 2 ^ i ≤ 2 ^ 15 := Nat.pow_le_pow_right (by decide) hi
  have e2 : ((2 : Int) ^ i) = ((2 ^ i : Nat) : Int) := by simp
  rw [e2]
  simp only [Go.bits, BitVec.toNat_and, BitVec.ofInt_natCast, BitVec.toNat_ofNat]
  rw [Nat.mod_eq_of_lt (Nat.lt_of_lt_of_le (show n < 65536 by omega) (show 65536 ≤ 2 ^ IntKind.i64.bits by decide)), Nat.mod_eq_of_lt (Nat.lt_of_le_of_lt hp (show 2 ^ 15 < 2 ^ IntKind.i64.bits by decide)), nat_and_two_pow, IntKind.wrap_i64]
  have hm : n / 2 ^ i % 2 ≤ 1 := by omega
  have hmul : n / 2 ^ i % 2 * 2 ^ i ≤ 2 ^ 15 := Nat.le_trans (Nat.mul_le_mul hm hp) (by omega)
  have hlt : ((n / 2 ^ i % 2 * 2 ^ i : Nat) : Int) ≤ ((32768 : Nat) : Int) := Int.ofNat_le.mpr hmul
  have hge : (0 : Int) ≤ ((n / 2 ^ i % 2 * 2 ^ i : Nat) : Int) := Int.natCast_nonneg _
  have he : ((n / 2 ^ i % 2 * 2 ^ i : Nat) : Int) = (n : Int) / ((2 ^ i : Nat) : Int) % 2 * ((2 ^ i : Nat) : Int) := by rw [Int.natCast_mul, Int.natCast_emod, Int.natCast_ediv]; rfl
  rw [← he]
  generalize ((n / 2 ^ i % 2 * 2 ^ i : Nat) : Int) = z at *
  omega
theorem and_15 (p : Int) (h0 : 0 ≤ p) (h1 : p < 65536) : Go.bits .and .i64 p 32768 = p / 32768 % 2 * 32768 := by
  have := and_bit p 15 h0 h1 (by decide)
  rwa [show ((2 : Int) ^ 15) = 32768 by decide] at this
theorem and_14 (p : Int) (h0 : 0 ≤ p) (h1 : p < 65536) : (Go.bits .and .i64 p 16384 != 0) = decide (p / 16384 % 2 = 1) := by
  have := and_bit p 14 h0 h1 (by decide)
  rw [show ((2 : Int) ^ 14) = 16384 by decide] at this
  rw [this, Bool.eq_iff_iff]
  simp only [bne_iff_ne, ne_eq, decide_eq_true_eq]
  omega
theorem and_13 (p : Int) (h0 : 0 ≤ p) (h1 : p < 65536) : (Go.bits .and .i64 p 8192 != 0) = decide (p / 8192 % 2 = 1) := by
  have := and_bit p 13 h0 h1 (by decide)
  rw [show ((2 : Int) ^ 13) = 8192 by decide] at this
  rw [this, Bool.eq_iff_iff]
  simp only [bne_iff_ne, ne_eq, decide_eq_true_eq]
  omega
theorem and_8191 (p : Int) (h0 : 0 ≤ p) (h1 : p < 65536) : Go.bits .and .i64 p 8191 = p % 8192 := by
  have := and_mask .i64 13 (by decide) p
  rw [show ((2 : Int) ^ 13 - 1) = 8191 by decide, show ((2 : Int) ^ 13) = 8192 by decide] at this
  rw [this, IntKind.wrap_i64]
  omega
theorem ipart_bound (df mf : Bool) (off : Int) (h : 0 ≤ off ∧ off < 8192) : 0 ≤ ipart df mf off ∧ ipart df mf off < 32768 := by
  unfold ipart
  cases df <;> cases mf <;> simp <;> omega
theorem ipart_bits (df mf : Bool) (off : Int) (h : 0 ≤ off ∧ off < 8192) : ipart df mf off / 16384 % 2 = (if df = true then 1 else 0) ∧ ipart df mf off / 8192 % 2 = (if mf = true then 1 else 0) ∧ ipart df mf off % 8192 = off := by
  unfold ipart
  cases df <;> cases mf <;> simp <;> omega
theorem wsum_ihd (tos id : Int) (df mf : Bool) (off ttl proto src dst c : Int) (opts body : List Int) (h0 : 0 ≤ c) (h1 : c ≤ 65535) : wsum false (ihd tos id df mf off ttl proto src dst c opts body) = wsum false (ihd tos id df mf off ttl proto src dst 0 opts body) + c := by
  unfold ihd iHead
  simp only [List.cons_append, List.nil_append, wsum, Bool.not_false, Bool.not_true, if_true, Bool.false_eq_true, if_false]
  omega
theorem i_full (tos id : Int) (df mf : Bool) (off ttl proto src dst : Int) (opts body : List Int) (ho : Bytes opts) : sumOf (ihd tos id df mf off ttl proto src dst (icheck tos id df mf off ttl proto src dst opts body) opts body) = 65535 := by
  have hc := icheck_bound tos id df mf off ttl proto src dst opts body
  have hw := wsum_ihd tos id df mf off ttl proto src dst (icheck tos id df mf off ttl proto src dst opts body) opts body hc.1 hc.2
  have hm := (wsum_bound _ false (ihd_bytes tos id df mf off ttl proto src dst 0 opts body ho)).1
  have hf := fold_full (wsum false (ihd tos id df mf off ttl proto src dst 0 opts body)) hm
  unfold sumOf
  rw [hw]
  exact hf
theorem i_read (tos id : Int) (df mf : Bool) (off ttl proto src dst : Int) (opts body more : List Int) (h : iok tos id off ttl proto opts) (hl : (body.length : Int) ≤ 2028 - (opts.length : Int)) (hs : 0 ≤ src ∧ src < 4294967296) (hd : 0 ≤ dst ∧ dst < 4294967296) (ho : Bytes opts) (hm : 20 + opts.length + body.length + more.length ≤ 2048) :
    ipOf (ibytes tos id df mf off ttl proto src dst opts body ++ more) = (tos, id, df, mf, off, ttl, proto, src, dst, opts, body, 0) := by
  obtain ⟨h1, h2, h3, h4, h5, h6, h7⟩ := h
  have hn : (ibytes tos id df mf off ttl proto src dst opts body ++ more).length = 20 + opts.length + body.length + more.length := by rw [List.length_append, ibytes_len]
  have hf := i_full tos id df mf off ttl proto src dst opts body ho
  have hpb := ipart_bound df mf off h5
  have hpp := ipart_bits df mf off h5
  have e0 : rd (ibytes tos id df mf off ttl proto src dst opts body ++ more) 0 = 64 + (20 + (opts.length : Int)) / 4 := by
    show (64 + (20 + (opts.length : Int)) / 4) % 256 = _
    omega
  have e1 : rd (ibytes tos id df mf off ttl proto src dst opts body ++ more) 1 = tos := by
    show tos % 256 = tos
    omega
  have e8 : rd (ibytes tos id df mf off ttl proto src dst opts body ++ more) 8 = ttl := by
    show ttl % 256 = ttl
    omega
  have e9 : rd (ibytes tos id df mf off ttl proto src dst opts body ++ more) 9 = proto := by
    show proto % 256 = proto
    omega
  have f2 : two (ibytes tos id df mf off ttl proto src dst opts body ++ more) 2 = 20 + opts.length + body.length := by
    show (20 + (opts.length : Int) + (body.length : Int)) / 256 % 256 * 256 + (20 + (opts.length : Int) + (body.length : Int)) % 256 = _
    omega
  have f4 : two (ibytes tos id df mf off ttl proto src dst opts body ++ more) 4 = id := by
    show id / 256 % 256 * 256 + id % 256 = id
    omega
  have f6 : two (ibytes tos id df mf off ttl proto src dst opts body ++ more) 6 = ipart df mf off := by
    show ipart df mf off / 256 % 256 * 256 + ipart df mf off % 256 = ipart df mf off
    omega
  have f12 : four (ibytes tos id df mf off ttl proto src dst opts body ++ more) 12 = src := by
    show src / 16777216 % 256 * 16777216 + src / 65536 % 256 * 65536 + src / 256 % 256 * 256 + src % 256 = src
    omega
  have f16 : four (ibytes tos id df mf off ttl proto src dst opts body ++ more) 16 = dst := by
    show dst / 16777216 % 256 * 16777216 + dst / 65536 % 256 * 65536 + dst / 256 % 256 * 256 + dst % 256 = dst
    omega
  have eh : ihead (ibytes tos id df mf off ttl proto src dst opts body ++ more) = 20 + opts.length := by unfold ihead; rw [e0]; omega
  have et : (ibytes tos id df mf off ttl proto src dst opts body ++ more).take (20 + opts.length) = ihd tos id df mf off ttl proto src dst (icheck tos id df mf off ttl proto src dst opts body) opts body := by
    unfold ibytes
    rw [List.append_assoc, List.take_left' (ihd_len ..)]
  have eo : (ihd tos id df mf off ttl proto src dst (icheck tos id df mf off ttl proto src dst opts body) opts body).drop 20 = opts := List.drop_left' (iHead_len ..)
  have eb : ((ibytes tos id df mf off ttl proto src dst opts body ++ more).take (20 + opts.length + body.length)).drop (20 + opts.length) = body := by
    rw [List.take_left' (ibytes_len ..)]
    unfold ibytes
    rw [List.drop_left' (ihd_len ..)]
  unfold ipOf
  rw [hn, if_neg (by omega), if_neg (by omega), eh, if_neg (by rw [e0]; omega), if_neg (by omega), f2, f6, and_15 _ (by omega) (by omega), if_neg (by omega), if_neg (by omega), show (20 + (opts.length : Int)).toNat = 20 + opts.length by omega, et, if_neg (Classical.not_not.2 hf), e1, f4, and_14 _ (by omega) (by omega), and_13 _ (by omega) (by omega), and_8191 _ (by omega) (by omega), e8, e9, f12, f16, eo, show (20 + (opts.length : Int) + (body.length : Int)).toNat = 20 + opts.length + body.length by omega, eb, hpp.1, hpp.2.1, hpp.2.2]
  cases df <;> cases mf <;> rfl
end Go.Proofs.Ythnhpbplglmmmaa.Pure
