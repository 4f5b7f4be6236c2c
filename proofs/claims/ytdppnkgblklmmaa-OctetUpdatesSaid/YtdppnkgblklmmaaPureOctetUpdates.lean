/- OctetUpdates: a check that is brought along with a word that changes is the check of the bytes as they are then, unless all of them are 0. No condition. -/
import Derived.Test.YtdppnkgblklmmaaPureOctetPuts
import Derived.Test.YtdppnkgblklmmaaPureOctetSwaps
import Derived.Test.YtdppnkgblklmmaaPbailiwicklaw1OctetUpdates
namespace Go.Proofs.Ytdppnkgblklmmaa.Pure
open Go.RowKit Go.Proofs.Ytdppnkgblklmmaa.P Go.Proofs.YtdppnkgblklmmaaW.PrintWords Go.Proofs.YtdppnkgblklmmaaW.PrintLast
set_option linter.unusedVariables false
set_option linter.unusedSimpArgs false
/-- The blank loop: are all bytes 0? then the last test. -/
theorem updates_loop (m : List Int) (x : Int) (hm : m.length ≤ 100000) (hb : Bytes m) (hx : x = 65535 - sumOf m ∨ (∀ c ∈ m, c = 0) ∧ x = 0) (rem : Nat) : ∀ (k i : Nat) (bl : Bool), i + rem = m.length → (bl = true ↔ ∀ c ∈ m.take i, c = 0) → rem < k →
    bailiwicklaw1_OctetUpdates.l0 k m true x bl i = some true := by
  induction rem with
  | zero =>
    intro k i bl h hbl hk
    obtain ⟨k, rfl⟩ : ∃ q, k = q + 1 := ⟨k - 1, by omega⟩
    rw [bailiwicklaw1_OctetUpdates.l0, if_neg (by omega), if_pos rfl, check_one m hb (by omega)]
    simp only [Option.bind_some]
    rw [List.take_of_length_le (by omega)] at hbl
    by_cases hxx : x = 65535 - sumOf m
    · rw [if_pos hxx]
    · obtain ⟨hz, rfl⟩ := hx.resolve_left hxx
      rw [if_neg hxx, if_pos (hbl.2 hz)]
      rfl
  | succ rem ih =>
    intro k i bl h hbl hk
    obtain ⟨k, rfl⟩ : ∃ q, k = q + 1 := ⟨k - 1, by omega⟩
    have e : wrap64 ((i : Int) + 1) = ((i + 1 : Nat) : Int) := by rw [w64 (by omega) (by omega)]; simp
    have hs : m.take (i + 1) = m.take i ++ [rd m (i : Int)] := by
      rw [List.take_succ_eq_append_getElem (by omega), rd_nat m i (by omega)]
    rw [bailiwicklaw1_OctetUpdates.l0, if_pos (by omega), e]
    by_cases hbt : bl = true
    · rw [if_pos hbt, if_pos (by omega)]
      refine ih k (i + 1) _ (by omega) ?_ (by omega)
      rw [hs, beq_iff_eq]
      constructor
      · intro h0 c hc
        rcases List.mem_append.1 hc with hc | hc
        · exact hbl.1 hbt c hc
        · simp at hc; rw [hc]; exact h0
      · intro hz; exact hz _ (by simp)
    · rw [if_neg hbt]
      refine ih k (i + 1) _ (by omega) ?_ (by omega)
      constructor
      · intro h0; cases h0
      · intro hz
        exact absurd (hbl.2 (fun c hc => hz c (by rw [hs]; exact List.mem_append_left _ hc))) hbt
theorem update_law (s o n s2 : Int) (hs : 0 ≤ s) (ho : 0 ≤ o ∧ o ≤ 65535) (hn : 0 ≤ n ∧ n ≤ 65535) (hs2 : s2 = s - o + n) (h2 : 0 ≤ s2) (hz : s = 0 → o = 0) : update (65535 - fold16 s) o n = 65535 - fold16 s2 ∨ s2 = 0 ∧ update (65535 - fold16 s) o n = 0 := by
  have hb := fold16_bound s
  unfold update plus
  rw [Int.emod_eq_of_lt (a := 65535 - fold16 s) (by omega) (by omega), Int.emod_eq_of_lt (a := o) (by omega) (by omega), Int.emod_eq_of_lt (a := 65535 - (65535 - fold16 s)) (by omega) (by omega), Int.emod_eq_of_lt (a := 65535 - o) (by omega) (by omega), Int.emod_eq_of_lt (a := n) (by omega) (by omega)]
  have hb2 := fold16_bound (65535 - (65535 - fold16 s) + (65535 - o))
  rw [Int.emod_eq_of_lt (a := fold16 (65535 - (65535 - fold16 s) + (65535 - o))) (by omega) (by omega)]
  clear hb hb2
  subst hs2
  unfold fold16
  by_cases h0 : s = 0
  · subst h0
    have := hz rfl
    subst this
    by_cases hn0 : n = 0
    · subst hn0; right; decide
    · left
      rw [if_pos rfl, if_neg (by omega), if_neg (by omega), if_neg (by omega)]
      omega
  · by_cases h20 : s - o + n = 0
    · right
      refine ⟨h20, ?_⟩
      rw [if_neg h0, if_neg (by omega), if_neg (by omega)]
      omega
    · left
      rw [if_neg h0, if_neg h20]
      split <;> split <;> omega
theorem get_two (l : List Int) (a : Nat) (hb : Bytes l) (h : a + 2 ≤ l.length) : octet_Get.f l a 2 = some (l.getD a 0 * 256 + l.getD (a + 1) 0, true) := by
  unfold octet_Get.f
  rw [if_pos (by omega), show ((a : Int) + 2).toNat = a + 2 by omega, Int.toNat_natCast]
  have e : (l.take (a + 2)).drop a = [l.getD a 0, l.getD (a + 1) 0] := by
    rw [drop_rd _ a (by simp; omega), drop_rd _ (a + 1) (by simp; omega), List.drop_of_length_le (by simp; omega), rd_getD, rd_getD]
    simp [List.getD, List.getElem?_take]
  rw [e]
  have g : ∀ q, q < l.length → 0 ≤ l.getD q 0 ∧ l.getD q 0 < 256 := fun q hq => by
    have : l.getD q 0 = l[q] := by simp [hq]
    rw [this]; exact hb _ (List.getElem_mem hq)
  have := (be_val [l.getD a 0, l.getD (a + 1) 0] 0 (by
    intro c hc
    simp only [List.mem_cons, List.not_mem_nil, or_false] at hc
    rcases hc with rfl | rfl
    · exact g _ (by omega)
    · exact g _ (by omega)) (by omega) (by simp)).1
  rw [this]
  simp [beVal]
theorem OctetUpdates : bailiwicklaw1_OctetUpdates.Pure := by
  intro l a n hl ha hn
  obtain ⟨h1, h2, h3⟩ := hl
  have hB := bytes_of h3
  refine ⟨100010, ?_⟩
  unfold bailiwicklaw1_OctetUpdates.f
  rw [awake1]
  simp only [Option.bind_some, if_true]
  by_cases g1 : (l.length : Int) > 100000
  · rw [if_pos g1]; rfl
  rw [if_neg g1]
  by_cases g2 : a < 0
  · rw [if_pos g2]; rfl
  rw [if_neg g2]
  by_cases g3 : Int.tmod a 2 = 0
  · rw [if_pos g3, w64 (by omega) (by omega)]
    by_cases g4 : a > (l.length : Int) - 2
    · rw [if_pos g4]; rfl
    rw [if_neg g4]
    by_cases g5 : n < 0
    · rw [if_pos g5]; rfl
    rw [if_neg g5]
    by_cases g6 : n > 65535
    · rw [decide_eq_true g6]; rfl
    rw [decide_eq_false g6]
    obtain ⟨a, rfl⟩ := Int.eq_ofNat_of_zero_le (by omega : 0 ≤ a)
    have g3' : a % 2 = 0 := by
      rw [Int.tmod_eq_emod_of_nonneg (by omega)] at g3
      omega
    have g : ∀ q, q < l.length → 0 ≤ l.getD q 0 ∧ l.getD q 0 < 256 := fun q hq => by
      have : l.getD q 0 = l[q] := by simp [hq]
      rw [this]; exact hB _ (List.getElem_mem hq)
    have ga := g a (by omega)
    have ga1 := g (a + 1) (by omega)
    rw [bailiwicklaw1_OctetUpdates.j0, if_neg (by decide), get_two l a hB (by omega), put_to l a 2 _ (by omega) _ (by omega), check_one l hB (by omega)]
    simp only [Option.bind_some]
    rw [w64 (by omega) (by omega), wrap_u64, Int.emod_eq_of_lt (by omega) (by omega), update_to _ (by omega)]
    simp only [Option.bind_some]
    unfold put
    rw [if_pos (by omega)]
    simp only [Int.toNat_natCast]
    have hlb := lay_bytes a (2 : Int).toNat l n hB
    have hll := lay_length a (2 : Int).toNat l n
    have hsum : wsum false (lay l a (2 : Int).toNat n) = wsum false l - (l.getD a 0 * 256 + l.getD (a + 1) 0) + n := by
      show wsum false ((l.set (a + 1) (n % 256)).set (a + 0) (n / 256 % 256)) = _
      have w0 : wt false a = 256 := by unfold wt; rw [if_neg (by simp [g3'])]
      have w1 : wt false (a + 1) = 1 := by unfold wt; rw [if_pos (by simp; omega)]
      rw [wsum_set _ _ _ _ (by simp; omega), wsum_set _ _ _ _ (by omega), getD_set _ _ _ _ (by omega), if_neg (by omega)]
      simp only [Nat.add_zero]
      rw [w0, w1]
      omega
    refine updates_loop _ _ (by omega) hlb ?_ (lay l a (2 : Int).toNat n).length _ 0 true (by omega) (by simp) (by omega)
    have b1 := wsum_bound l false hB
    have b2 := wsum_bound _ false hlb
    have := update_law (wsum false l) (l.getD a 0 * 256 + l.getD (a + 1) 0) n (wsum false (lay l a (2 : Int).toNat n)) b1.1 (by omega) (by omega) hsum b2.1 (fun hz => by
      have hz2 := (wsum_zero l false hB).1 hz
      have e : ∀ q, q < l.length → l.getD q 0 = 0 := fun q hq => by simp [hq]; exact hz2 _ (List.getElem_mem hq)
      rw [e a (by omega), e (a + 1) (by omega)]; rfl)
    rcases this with h | ⟨hz, h⟩
    · exact .inl h
    · exact .inr ⟨(wsum_zero _ false hlb).1 hz, h⟩
  · rw [if_neg g3]; rfl
end Go.Proofs.Ytdppnkgblklmmaa.Pure
