/- IpAgain: of any bytes that are a datagram: built again they are the bytes up to its total length, but that a check of 65535 is 0 then. No condition. -/
import Derived.Test.YthnhpbplglmmmaaPureLibIpB
import Derived.Test.YthnhpbplglmmmaaPbailiwicklaw2IpAgain
namespace Go.Proofs.Ythnhpbplglmmmaa.Pure
open Go.RowKit Go.Proofs.Ythnhpbplglmmmaa.P Go.Proofs.YthnhpbplglmmmaaW.PrintWords Go.Proofs.YthnhpbplglmmmaaW.PrintLast
set_option linter.unusedVariables false
set_option linter.unusedSimpArgs false
theorem iagain_part (p : Int) (h0 : 0 ≤ p) (h1 : p < 32768) : ipart (Go.bits .and .i64 p 16384 != 0) (Go.bits .and .i64 p 8192 != 0) (Go.bits .and .i64 p 8191) = p := by
  rw [and_14 p h0 (by omega), and_13 p h0 (by omega), and_8191 p h0 (by omega)]
  unfold ipart
  simp only [decide_eq_true_eq]
  split <;> split <;> omega
theorem fold_check (M c : Int) (hM : 1 ≤ M) (h0 : 0 ≤ c) (h1 : c ≤ 65535) (h : fold16 (M + c) = 65535) : 65535 - fold16 M = if c = 65535 then 0 else c := by
  unfold fold16 at *
  rw [if_neg (by omega)] at *
  split <;> omega
/-- The header of bytes that are a datagram is the one that would be built, its check laid in. -/
theorem i_head (l : List Int) (hb : Bytes l) (h20 : 20 ≤ l.length) (h4 : rd l 0 / 16 = 4) (hh : 20 ≤ ihead l) (hp : two l 6 < 32768) (tot : Int) (ht : two l 2 = tot) :
    l.take 20 = iHead (rd l 1) (two l 4) (two l 6) (rd l 8) (rd l 9) (four l 12) (four l 16) (ihead l - 20) tot (two l 10) := by
  subst ht
  rcases l with _ | ⟨a0, l⟩
  · simp at h20
  rcases l with _ | ⟨a1, l⟩
  · simp at h20
  rcases l with _ | ⟨a2, l⟩
  · simp at h20
  rcases l with _ | ⟨a3, l⟩
  · simp at h20
  rcases l with _ | ⟨a4, l⟩
  · simp at h20
  rcases l with _ | ⟨a5, l⟩
  · simp at h20
  rcases l with _ | ⟨a6, l⟩
  · simp at h20
  rcases l with _ | ⟨a7, l⟩
  · simp at h20
  rcases l with _ | ⟨a8, l⟩
  · simp at h20
  rcases l with _ | ⟨a9, l⟩
  · simp at h20
  rcases l with _ | ⟨a10, l⟩
  · simp at h20
  rcases l with _ | ⟨a11, l⟩
  · simp at h20
  rcases l with _ | ⟨a12, l⟩
  · simp at h20
  rcases l with _ | ⟨a13, l⟩
  · simp at h20
  rcases l with _ | ⟨a14, l⟩
  · simp at h20
  rcases l with _ | ⟨a15, l⟩
  · simp at h20
  rcases l with _ | ⟨a16, l⟩
  · simp at h20
  rcases l with _ | ⟨a17, l⟩
  · simp at h20
  rcases l with _ | ⟨a18, l⟩
  · simp at h20
  rcases l with _ | ⟨a19, l⟩
  · simp at h20
  have g : ∀ x, x ∈ (a0 :: a1 :: a2 :: a3 :: a4 :: a5 :: a6 :: a7 :: a8 :: a9 :: a10 :: a11 :: a12 :: a13 :: a14 :: a15 :: a16 :: a17 :: a18 :: a19 :: l) → 0 ≤ x ∧ x < 256 := hb
  have g0 := g a0 (by simp)
  have g1 := g a1 (by simp)
  have g2 := g a2 (by simp)
  have g3 := g a3 (by simp)
  have g4 := g a4 (by simp)
  have g5 := g a5 (by simp)
  have g6 := g a6 (by simp)
  have g7 := g a7 (by simp)
  have g8 := g a8 (by simp)
  have g9 := g a9 (by simp)
  have g10 := g a10 (by simp)
  have g11 := g a11 (by simp)
  have g12 := g a12 (by simp)
  have g13 := g a13 (by simp)
  have g14 := g a14 (by simp)
  have g15 := g a15 (by simp)
  have g16 := g a16 (by simp)
  have g17 := g a17 (by simp)
  have g18 := g a18 (by simp)
  have g19 := g a19 (by simp)
  change a0 / 16 = 4 at h4
  change 20 ≤ a0 % 16 * 4 at hh
  show [a0, a1, a2, a3, a4, a5, a6, a7, a8, a9, a10, a11, a12, a13, a14, a15, a16, a17, a18, a19] = [(64 + (20 + (a0 % 16 * 4 - 20)) / 4) % 256, a1 % 256, (a2 * 256 + a3) / 256 % 256, (a2 * 256 + a3) % 256, (a4 * 256 + a5) / 256 % 256, (a4 * 256 + a5) % 256, (a6 * 256 + a7) / 256 % 256, (a6 * 256 + a7) % 256, a8 % 256, a9 % 256, (a10 * 256 + a11) / 256 % 256, (a10 * 256 + a11) % 256,
    (a12 * 16777216 + a13 * 65536 + a14 * 256 + a15) / 16777216 % 256, (a12 * 16777216 + a13 * 65536 + a14 * 256 + a15) / 65536 % 256, (a12 * 16777216 + a13 * 65536 + a14 * 256 + a15) / 256 % 256, (a12 * 16777216 + a13 * 65536 + a14 * 256 + a15) % 256, (a16 * 16777216 + a17 * 65536 + a18 * 256 + a19) / 16777216 % 256, (a16 * 16777216 + a17 * 65536 + a18 * 256 + a19) / 65536 % 256, (a16 * 16777216 + a17 * 65536 + a18 * 256 + a19) / 256 % 256, (a16 * 16777216 + a17 * 65536 + a18 * 256 + a19) % 256]
  have hlist : ∀ (p0 p1 p2 p3 p4 p5 p6 p7 p8 p9 p10 p11 p12 p13 p14 p15 p16 p17 p18 p19 : Int), a0 = p0 → a1 = p1 → a2 = p2 → a3 = p3 → a4 = p4 → a5 = p5 → a6 = p6 → a7 = p7 → a8 = p8 → a9 = p9 → a10 = p10 → a11 = p11 → a12 = p12 → a13 = p13 → a14 = p14 → a15 = p15 → a16 = p16 → a17 = p17 → a18 = p18 → a19 = p19 → [a0, a1, a2, a3, a4, a5, a6, a7, a8, a9, a10, a11, a12, a13, a14, a15, a16, a17, a18, a19] = [p0, p1, p2, p3, p4, p5, p6, p7, p8, p9, p10, p11, p12, p13, p14, p15, p16, p17, p18, p19] := by
    intros
    subst_vars
    rfl
  apply hlist <;> omega
theorem IpAgain : bailiwicklaw2_IpAgain.Pure := by
  intro l hl
  refine ⟨10000, ?_⟩
  have hB := bytes_of hl.2.2
  unfold bailiwicklaw2_IpAgain.f
  rw [show bailiwicklaw2_awake.f = some true from by decide +kernel, Option.bind_some, if_pos rfl]
  by_cases h0 : (l.length : Int) > 5000
  · rw [if_pos h0]
  rw [if_neg h0, ipParse_to l hB, Option.bind_some]
  by_cases hz : (ipOf l).2.2.2.2.2.2.2.2.2.2.2 = 0
  case neg => rw [if_neg hz]
  rw [if_pos hz]
  unfold ipOf izero at hz ⊢
  by_cases h1 : (l.length : Int) > 2048
  · rw [if_pos h1] at hz; exact absurd hz (by decide)
  rw [if_neg h1] at hz ⊢
  by_cases h2 : (l.length : Int) < 20
  · rw [if_pos h2] at hz; exact absurd hz (by decide)
  rw [if_neg h2] at hz ⊢
  by_cases h3 : rd l 0 / 16 ≠ 4 ∨ ihead l < 20
  · rw [if_pos h3] at hz; exact absurd hz (by decide)
  rw [if_neg h3] at hz ⊢
  by_cases h4 : (l.length : Int) < ihead l
  · rw [if_pos h4] at hz; exact absurd hz (by decide)
  rw [if_neg h4] at hz ⊢
  by_cases h5 : two l 2 < ihead l ∨ Go.bits .and .i64 (two l 6) 32768 ≠ 0
  · rw [if_pos h5] at hz; exact absurd hz (by decide)
  rw [if_neg h5] at hz ⊢
  by_cases h6 : two l 2 > (l.length : Int)
  · rw [if_pos h6] at hz; exact absurd hz (by decide)
  rw [if_neg h6] at hz ⊢
  by_cases h7 : sumOf (l.take (ihead l).toNat) ≠ 65535
  · rw [if_pos h7] at hz; exact absurd hz (by decide)
  rw [if_neg h7]
  clear hz
  replace h7 := Classical.not_not.1 h7
  have t6 := two_bound l 6 hB (by omega)
  have t10 := two_bound l 10 hB (by omega)
  have t4 := two_bound l 4 hB (by omega)
  have f12 := four_bound l 12 hB (by omega)
  have f16 := four_bound l 16 hB (by omega)
  have b0 := hB.get 0 (by omega)
  have b1 := hB.get 1 (by omega)
  have b8 := hB.get 8 (by omega)
  have b9 := hB.get 9 (by omega)
  rw [show ((0 : Nat) : Int) = 0 from rfl] at b0
  rw [show ((1 : Nat) : Int) = 1 from rfl] at b1
  rw [show ((8 : Nat) : Int) = 8 from rfl] at b8
  rw [show ((9 : Nat) : Int) = 9 from rfl] at b9
  have hp : two l 6 < 32768 := by
    rw [and_15 _ t6.1 t6.2] at h5
    omega
  have eih : ihead l = rd l 0 % 16 * 4 := rfl
  have eh := i_head l hB (by omega) (by omega) (by omega) hp (two l 2) rfl
  have epart := iagain_part (two l 6) t6.1 hp
  have hoff : 0 ≤ Go.bits .and .i64 (two l 6) 8191 ∧ Go.bits .and .i64 (two l 6) 8191 < 8192 := by rw [and_8191 _ t6.1 (by omega)]; omega
  obtain ⟨hn, hhn⟩ := Int.eq_ofNat_of_zero_le (show 0 ≤ ihead l by omega)
  obtain ⟨tn, htn⟩ := Int.eq_ofNat_of_zero_le (show 0 ≤ two l 2 by omega)
  rw [hhn, htn] at h5
  rw [htn] at h6
  rw [hhn] at h3 h4 h7 eh eih
  rw [htn] at eh
  rw [hhn, htn]
  simp only [Int.toNat_natCast] at h7 ⊢
  have lo : ((l.take hn).drop 20).length = hn - 20 := by rw [List.length_drop, List.length_take]; omega
  have lb : ((l.take tn).drop hn).length = tn - hn := by rw [List.length_drop, List.length_take]; omega
  have hbo : Bytes ((l.take hn).drop 20) := fun c hc => hB c (List.mem_of_mem_take (List.mem_of_mem_drop hc))
  have hok : iok (rd l 1) (two l 4) (Go.bits .and .i64 (two l 6) 8191) (rd l 8) (rd l 9) ((l.take hn).drop 20) := ⟨b1, b8, b9, t4, hoff, by rw [lo]; omega, by rw [lo]; omega⟩
  have hcut : l.take tn = l.take 20 ++ (l.take hn).drop 20 ++ (l.take tn).drop hn := by
    have q1 : l.take hn = l.take 20 ++ (l.take hn).drop 20 := by
      conv => lhs; rw [← List.take_append_drop 20 (l.take hn)]
      rw [List.take_take, Nat.min_eq_left (by omega)]
    have q2 : l.take tn = l.take hn ++ (l.take tn).drop hn := by
      conv => lhs; rw [← List.take_append_drop hn (l.take tn)]
      rw [List.take_take, Nat.min_eq_left (by omega)]
    rw [← q1, ← q2]
  have hihd : ∀ c, ihd (rd l 1) (two l 4) (Go.bits .and .i64 (two l 6) 16384 != 0) (Go.bits .and .i64 (two l 6) 8192 != 0) (Go.bits .and .i64 (two l 6) 8191) (rd l 8) (rd l 9) (four l 12) (four l 16) c ((l.take hn).drop 20) ((l.take tn).drop hn) = iHead (rd l 1) (two l 4) (two l 6) (rd l 8) (rd l 9) (four l 12) (four l 16) ((hn : Int) - 20) tn c ++ (l.take hn).drop 20 := by
    intro c
    unfold ihd
    rw [epart, lo, lb, show ((hn - 20 : Nat) : Int) = (hn : Int) - 20 by omega, show (20 + ((hn : Int) - 20) + ((tn - hn : Nat) : Int)) = (tn : Int) by omega]
  have hhd : l.take hn = iHead (rd l 1) (two l 4) (two l 6) (rd l 8) (rd l 9) (four l 12) (four l 16) ((hn : Int) - 20) tn (two l 10) ++ (l.take hn).drop 20 := by
    rw [← eh]
    conv => lhs; rw [← List.take_append_drop 20 (l.take hn)]
    rw [List.take_take, Nat.min_eq_left (by omega)]
  have hw := wsum_ihd (rd l 1) (two l 4) (Go.bits .and .i64 (two l 6) 16384 != 0) (Go.bits .and .i64 (two l 6) 8192 != 0) (Go.bits .and .i64 (two l 6) 8191) (rd l 8) (rd l 9) (four l 12) (four l 16) (two l 10) ((l.take hn).drop 20) ((l.take tn).drop hn) t10.1 (by omega)
  have hsum : sumOf (ihd (rd l 1) (two l 4) (Go.bits .and .i64 (two l 6) 16384 != 0) (Go.bits .and .i64 (two l 6) 8192 != 0) (Go.bits .and .i64 (two l 6) 8191) (rd l 8) (rd l 9) (four l 12) (four l 16) (two l 10) ((l.take hn).drop 20) ((l.take tn).drop hn)) = 65535 := by
    rw [hihd, ← hhd]
    exact h7
  have hpos : 1 ≤ wsum false (ihd (rd l 1) (two l 4) (Go.bits .and .i64 (two l 6) 16384 != 0) (Go.bits .and .i64 (two l 6) 8192 != 0) (Go.bits .and .i64 (two l 6) 8191) (rd l 8) (rd l 9) (four l 12) (four l 16) 0 ((l.take hn).drop 20) ((l.take tn).drop hn)) := by
    have hz := (wsum_bound _ false (ihd_bytes (rd l 1) (two l 4) (Go.bits .and .i64 (two l 6) 16384 != 0) (Go.bits .and .i64 (two l 6) 8192 != 0) (Go.bits .and .i64 (two l 6) 8191) (rd l 8) (rd l 9) (four l 12) (four l 16) 0 ((l.take hn).drop 20) ((l.take tn).drop hn) hbo)).1
    rcases Int.lt_or_eq_of_le hz with h | h
    · omega
    · have := (wsum_zero _ false (ihd_bytes (rd l 1) (two l 4) (Go.bits .and .i64 (two l 6) 16384 != 0) (Go.bits .and .i64 (two l 6) 8192 != 0) (Go.bits .and .i64 (two l 6) 8191) (rd l 8) (rd l 9) (four l 12) (four l 16) 0 ((l.take hn).drop 20) ((l.take tn).drop hn) hbo)).1 h.symm ((64 + (20 + (((l.take hn).drop 20).length : Int)) / 4) % 256) (by simp [ihd, iHead])
      rw [lo] at this
      omega
  unfold sumOf at hsum
  rw [hw] at hsum
  have hchk := fold_check _ _ hpos t10.1 (by omega) hsum
  have ebt : ibytes (rd l 1) (two l 4) (Go.bits .and .i64 (two l 6) 16384 != 0) (Go.bits .and .i64 (two l 6) 8192 != 0) (Go.bits .and .i64 (two l 6) 8191) (rd l 8) (rd l 9) (four l 12) (four l 16) ((l.take hn).drop 20) ((l.take tn).drop hn) = iHead (rd l 1) (two l 4) (two l 6) (rd l 8) (rd l 9) (four l 12) (four l 16) ((hn : Int) - 20) tn (if two l 10 = 65535 then 0 else two l 10) ++ (l.take hn).drop 20 ++ (l.take tn).drop hn := by
    unfold ibytes
    rw [hihd]
    unfold icheck sumOf
    rw [hchk]
  rw [ibuild_to _ _ _ _ _ _ _ _ _ _ _ (by omega) (by omega) (by omega) (by omega) (by omega) f12 f16 hbo, Option.bind_some]
  unfold ibuild
  have hbl : ¬ ((((l.take tn).drop hn).length : Int) > 2028 - (((l.take hn).drop 20).length : Int)) := by rw [lo, lb]; omega
  rw [if_pos hok, if_neg hbl]
  dsimp only
  rw [if_pos rfl, ebt]
  have hlen : (iHead (rd l 1) (two l 4) (two l 6) (rd l 8) (rd l 9) (four l 12) (four l 16) ((hn : Int) - 20) tn (if two l 10 = 65535 then 0 else two l 10) ++ (l.take hn).drop 20 ++ (l.take tn).drop hn).length = tn := by
    rw [List.length_append, List.length_append, iHead_len, lo, lb]
    omega
  rw [hlen, decide_eq_false (by omega), bailiwicklaw2_IpAgain.j0, if_neg (by decide), hlen]
  have hpt := part_to l 0 tn (by omega) (by omega) (by omega) 9999 (by omega)
  rw [show ((0 : Nat) : Int) = 0 from rfl, List.drop_zero] at hpt
  have r10 : rd (l.take tn) 10 = rd l 10 := by
    rw [show (10 : Int) = ((10 : Nat) : Int) from rfl, rd_getD, rd_getD, List.getD_eq_getElem?_getD, List.getD_eq_getElem?_getD, List.getElem?_take_of_lt (by omega)]
  have r11 : rd (l.take tn) 11 = rd l 11 := by
    rw [show (11 : Int) = ((11 : Nat) : Int) from rfl, rd_getD, rd_getD, List.getD_eq_getElem?_getD, List.getD_eq_getElem?_getD, List.getElem?_take_of_lt (by omega)]
  have et10 : two l 10 = rd l 10 * 256 + rd l 11 := rfl
  have b10 := hB.get 10 (by omega)
  have b11 := hB.get 11 (by omega)
  rw [show ((10 : Nat) : Int) = 10 from rfl] at b10
  rw [show ((11 : Nat) : Int) = 11 from rfl] at b11
  have hlt : (l.take tn).length = tn := by rw [List.length_take]; omega
  rw [hpt, Option.bind_some, hlt, if_pos (by omega), r10, r11]
  have hsame : iHead (rd l 1) (two l 4) (two l 6) (rd l 8) (rd l 9) (four l 12) (four l 16) ((hn : Int) - 20) tn (two l 10) ++ (l.take hn).drop 20 ++ (l.take tn).drop hn = l.take tn := by
    rw [← eh, ← hcut]
  by_cases q1 : rd l 10 = 255
  · rw [if_pos q1, if_pos (by omega)]
    by_cases q2 : rd l 11 = 255
    · rw [if_pos q2, if_pos (show two l 10 = 65535 by omega)]
      have : ∀ R : List Int, ((iHead (rd l 1) (two l 4) (two l 6) (rd l 8) (rd l 9) (four l 12) (four l 16) ((hn : Int) - 20) tn (two l 10) ++ (l.take hn).drop 20 ++ R).set (10 : Int).toNat 0).set (11 : Int).toNat 0 = iHead (rd l 1) (two l 4) (two l 6) (rd l 8) (rd l 9) (four l 12) (four l 16) ((hn : Int) - 20) tn 0 ++ (l.take hn).drop 20 ++ R := fun R => rfl
      have e2 : ((l.take tn).set (10 : Int).toNat 0).set (11 : Int).toNat 0 = iHead (rd l 1) (two l 4) (two l 6) (rd l 8) (rd l 9) (four l 12) (four l 16) ((hn : Int) - 20) tn 0 ++ (l.take hn).drop 20 ++ (l.take tn).drop hn := by
        conv =>
          lhs
          rw [← hsame]
        exact this _
      rw [e2, same_to _ (by rw [List.length_append, List.length_append, iHead_len, lo, lb]; omega) _ (by rw [List.length_append, List.length_append, iHead_len, lo, lb]; omega)]
      rfl
    · rw [if_neg q2, if_neg (show ¬ two l 10 = 65535 by omega), hsame, same_to _ (by omega) _ (by omega)]
      rfl
  · rw [if_neg q1, if_neg (show ¬ two l 10 = 65535 by omega), hsame, same_to _ (by omega) _ (by omega)]
    rfl
end Go.Proofs.Ythnhpbplglmmmaa.Pure
