/- Plain lemmas on chapter 1's functions: what is printed of them comes to simple functions of lists. No program in sight. -/
import Derived.Test.YtdppnkgblklmmaaPbailiwicklaw1
import Derived.Test.YtdppnkgblklmmaaPbailiwickref1
namespace Go.Proofs.Ytdppnkgblklmmaa.Pure
open Go.RowKit Go.Proofs.Ytdppnkgblklmmaa.P Go.Proofs.YtdppnkgblklmmaaW.PrintWords Go.Proofs.YtdppnkgblklmmaaW.PrintLast
set_option linter.unusedVariables false
set_option linter.unusedSimpArgs false
theorem awake1 : bailiwicklaw1_awake.f = some true := by decide +kernel
theorem w64 {x : Int} (h0 : -9223372036854775808 ≤ x) (h1 : x ≤ 9223372036854775807) : wrap64 x = x := by
  unfold wrap64
  omega
theorem rd_nat (l : List Int) (i : Nat) (h : i < l.length) : rd l (i : Int) = l[i] := by
  simp [rd, h]
theorem rd_getD (l : List Int) (i : Nat) : rd l (i : Int) = l.getD i 0 := by
  unfold rd
  rw [Int.toNat_natCast]
theorem drop_rd (l : List Int) (i : Nat) (h : i < l.length) : l.drop i = rd l (i : Int) :: l.drop (i + 1) := by
  rw [rd_nat l i h, List.drop_eq_getElem_cons h]
/-- The reference's loop. -/
theorem refGet_loop (l : List Int) (a n : Nat) (hl : l.length ≤ maxLen) (hn : n ≤ 8) (ha : a + n ≤ l.length) (d : Nat) : ∀ (k i : Nat) (x : Int), i + d = n → d < k →
    bailiwickref1_Get.l0 k l a n x i = some (octet_Get.be x ((l.take (a + n)).drop (a + i)), true) := by
  unfold maxLen at hl
  induction d with
  | zero =>
    intro k i x hi hk
    obtain ⟨k, rfl⟩ : ∃ m, k = m + 1 := ⟨k - 1, by omega⟩
    simp only [bailiwickref1_Get.l0]
    rw [if_neg (by omega), List.drop_of_length_le (by simp; omega)]
    rfl
  | succ d ih =>
    intro k i x hi hk
    obtain ⟨k, rfl⟩ : ∃ m, k = m + 1 := ⟨k - 1, by omega⟩
    simp only [bailiwickref1_Get.l0]
    have e1 : wrap64 ((a : Int) + (i : Int)) = ((a + i : Nat) : Int) := by rw [w64 (by omega) (by omega)]; simp
    have e2 : wrap64 ((i : Int) + 1) = ((i + 1 : Nat) : Int) := by rw [w64 (by omega) (by omega)]; simp
    rw [e1, e2, if_pos (by omega), if_pos (by omega), if_pos (by omega), ih k (i + 1) _ (by omega) (by omega)]
    rw [drop_rd (l.take (a + n)) (a + i) (by simp; omega)]
    have e3 : rd (l.take (a + n)) ((a + i : Nat) : Int) = rd l ((a + i : Nat) : Int) := by
      rw [rd_nat _ _ (by simp; omega), rd_nat _ _ (by omega), List.getElem_take]
    rw [e3]
    rfl
theorem refGet (l : List Int) (a n : Int) (hl : l.length ≤ maxLen) (hw : (Lit.int .i64 a).wf = true) (hw2 : (Lit.int .i64 n).wf = true) (k : Nat) (hk : 12 ≤ k) : bailiwickref1_Get.f k l a n = octet_Get.f l a n := by
  obtain ⟨k, rfl⟩ : ∃ m, k = m + 1 := ⟨k - 1, by omega⟩
  have hl' := hl
  unfold maxLen at hl
  unfold bailiwickref1_Get.f octet_Get.f
  by_cases h1 : n < 1
  · rw [if_pos h1, if_neg (by omega)]; rfl
  by_cases h2 : n > 8
  · rw [if_neg h1, if_pos h2, if_neg (by omega)]; rfl
  by_cases h3 : a < 0
  · rw [if_neg h1, if_neg h2, if_pos h3, if_neg (by omega)]; rfl
  rw [if_neg h1, if_neg h2, if_neg h3, w64 (x := (l.length : Int) - n) (by omega) (by omega)]
  by_cases h4 : a > (l.length : Int) - n
  · rw [if_neg (by omega), decide_eq_true h4]; rfl
  · rw [if_pos (by omega), decide_eq_false h4]
    simp only [bailiwickref1_Get.j0]
    rw [if_neg (by decide)]
    obtain ⟨a, rfl⟩ := Int.eq_ofNat_of_zero_le (by omega : 0 ≤ a)
    obtain ⟨n, rfl⟩ := Int.eq_ofNat_of_zero_le (by omega : 0 ≤ n)
    have := refGet_loop l a n hl' (by omega) (by omega) n k 0 0 (by omega) (by omega)
    simp only [Nat.add_zero] at this
    rw [show ((0 : Nat) : Int) = 0 from rfl] at this
    rw [this]
    congr 3
end Go.Proofs.Ytdppnkgblklmmaa.Pure
