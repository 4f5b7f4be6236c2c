/- Plain lemmas: a number laid into bytes, and read out of them. No program in sight. -/
import Derived.Test.YtdppnkgblklmmaaPureLib3
import Derived.Test.YtdppnkgblklmmaaPoctet
import Derived.Test.YtdppnkgblklmmaaPbailiwickref1
namespace Go.Proofs.Ytdppnkgblklmmaa.Pure
open Go.RowKit Go.Proofs.Ytdppnkgblklmmaa.P Go.Proofs.YtdppnkgblklmmaaW.PrintWords Go.Proofs.YtdppnkgblklmmaaW.PrintLast
set_option linter.unusedVariables false
set_option linter.unusedSimpArgs false
/-- The bytes behind n rounds of laying x from place a + n - 1 down to a. -/
def lay (l : List Int) (a : Nat) : Nat → Int → List Int
  | 0, _ => l
  | n + 1, x => lay (l.set (a + n) (x % 256)) a n (x / 256)
theorem lay_length (a : Nat) : ∀ (n : Nat) (l : List Int) (x : Int), (lay l a n x).length = l.length
  | 0, _, _ => rfl
  | n + 1, l, x => by rw [lay, lay_length a n]; simp
theorem put_loop (l : List Int) (a : Nat) (n : Nat) (hl : l.length ≤ 140737488351232) (hn : a + n ≤ l.length) : ∀ (k : Nat) (m : List Int) (x : Int), m.length = l.length → n < k → octet_Put.l0 k a x m ((n : Int) - 1) = some (lay m a n x, true) := by
  induction n with
  | zero =>
    intro k m x hm hk
    obtain ⟨k, rfl⟩ : ∃ q, k = q + 1 := ⟨k - 1, by omega⟩
    rw [octet_Put.l0, if_neg (by omega)]
    rfl
  | succ n ih =>
    intro k m x hm hk
    obtain ⟨k, rfl⟩ : ∃ q, k = q + 1 := ⟨k - 1, by omega⟩
    have e1 : wrap64 ((a : Int) + (((n + 1 : Nat) : Int) - 1)) = ((a + n : Nat) : Int) := by rw [w64 (by omega) (by omega)]; omega
    have e2 : wrap64 (((n + 1 : Nat) : Int) - 1 - 1) = (n : Int) - 1 := by rw [w64 (by omega) (by omega)]; omega
    rw [octet_Put.l0, e1, e2, if_pos (by omega), if_pos (by omega), if_pos (by omega), ih (by omega) k _ _ (by simp [hm]) (by omega)]
    rfl
theorem refPut_loop (l : List Int) (a : Nat) (n : Nat) (hl : l.length ≤ 140737488351232) (hn : a + n ≤ l.length) : ∀ (k : Nat) (m : List Int) (x : Int), m.length = l.length → n < k → bailiwickref1_Put.l0 k a x m ((n : Int) - 1) = some (lay m a n x, true) := by
  induction n with
  | zero =>
    intro k m x hm hk
    obtain ⟨k, rfl⟩ : ∃ q, k = q + 1 := ⟨k - 1, by omega⟩
    rw [bailiwickref1_Put.l0, if_neg (by omega)]
    rfl
  | succ n ih =>
    intro k m x hm hk
    obtain ⟨k, rfl⟩ : ∃ q, k = q + 1 := ⟨k - 1, by omega⟩
    have e1 : wrap64 ((a : Int) + (((n + 1 : Nat) : Int) - 1)) = ((a + n : Nat) : Int) := by rw [w64 (by omega) (by omega)]; omega
    have e2 : wrap64 (((n + 1 : Nat) : Int) - 1 - 1) = (n : Int) - 1 := by rw [w64 (by omega) (by omega)]; omega
    rw [bailiwickref1_Put.l0, e1, e2, if_pos (by omega), if_pos (by omega), if_pos (by omega), ih (by omega) k _ _ (by simp [hm]) (by omega)]
    rfl
def put (l : List Int) (a n x : Int) : List Int × Bool := if 1 ≤ n ∧ n ≤ 8 ∧ 0 ≤ a ∧ a + n ≤ (l.length : Int) then (lay l a.toNat n.toNat x, true) else ([], false)
theorem put_to (l : List Int) (a n x : Int) (hl : l.length ≤ 140737488351232) (k : Nat) (hk : 12 ≤ k) : octet_Put.f k l a n x = some (put l a n x) := by
  unfold octet_Put.f put
  by_cases h : 1 ≤ n ∧ n ≤ 8 ∧ 0 ≤ a ∧ a + n ≤ (l.length : Int)
  · rw [if_pos h, octet_Get.may_yes l a n (by omega) h]
    simp only [Option.bind_some, if_true, List.nil_append, List.length_nil]
    obtain ⟨a, rfl⟩ := Int.eq_ofNat_of_zero_le h.2.2.1
    obtain ⟨n, rfl⟩ := Int.eq_ofNat_of_zero_le (by omega : 0 ≤ n)
    rw [if_pos (by omega), w64 (by omega) (by omega), put_loop l a n hl (by omega) k l x rfl (by omega)]
    simp
  · rw [if_neg h, octet_Get.may_no l a n (by omega) h]
    rfl
theorem refPut_to (l : List Int) (a n x : Int) (hl : l.length ≤ 140737488351232) (k : Nat) (hk : l.length + 12 ≤ k) : bailiwickref1_Put.f k l a n x = some (put l a n x) := by
  unfold bailiwickref1_Put.f put
  obtain ⟨k, rfl⟩ : ∃ q, k = q + 1 := ⟨k - 1, by omega⟩
  by_cases h1 : n < 1
  · rw [if_pos h1, if_neg (by omega)]; rfl
  by_cases h2 : n > 8
  · rw [if_neg h1, if_pos h2, if_neg (by omega)]; rfl
  by_cases h3 : a < 0
  · rw [if_neg h1, if_neg h2, if_pos h3, if_neg (by omega)]; rfl
  rw [if_neg h1, if_neg h2, if_neg h3, w64 (x := (l.length : Int) - n) (by omega) (by omega)]
  by_cases h4 : a > (l.length : Int) - n
  · rw [if_neg (by omega), decide_eq_true h4]; rfl
  · rw [if_pos (by omega), decide_eq_false h4, bailiwickref1_Put.j0, if_neg (by decide), copy_to l hl k (by omega)]
    simp only [Option.bind_some]
    obtain ⟨a, rfl⟩ := Int.eq_ofNat_of_zero_le (by omega : 0 ≤ a)
    obtain ⟨n, rfl⟩ := Int.eq_ofNat_of_zero_le (by omega : 0 ≤ n)
    rw [w64 (by omega) (by omega), refPut_loop l a n hl (by omega) k l x rfl (by omega)]
    simp
/-- What was laid is read: the value of n bytes. -/
def beVal (x : Int) (l : List Int) : Int := l.foldl (fun x c => x * 256 + c) x
theorem or_u64 (x c : Int) (h0 : 0 ≤ x) (h1 : x < 72057594037927936) (hc : 0 ≤ c) (hc1 : c < 256) : Go.bits .or .u64 (IntKind.u64.wrap (x * 256)) (IntKind.u64.wrap c) = x * 256 + c := by
  rw [wrap_u64, wrap_u64, Int.emod_eq_of_lt (by omega) (by omega), Int.emod_eq_of_lt (by omega) (by omega)]
  exact bits_join .u64 64 (by decide) (fun n h0 h1 => by rw [wrap_u64]; omega) 8 (x * 256) c (by omega) (by simp) (by omega) hc (by omega) (by omega)
theorem be_val (l : List Int) : ∀ (x : Int), Bytes l → 0 ≤ x → x * 256 ^ l.length + 256 ^ l.length ≤ 18446744073709551616 → octet_Get.be x l = beVal x l ∧ 0 ≤ beVal x l ∧ beVal x l < x * 256 ^ l.length + 256 ^ l.length := by
  induction l with
  | nil => intro x _ h0 h1; simp [octet_Get.be, beVal] at *; omega
  | cons c l ih =>
    intro x h h0 h1
    obtain ⟨hc, hl⟩ := h.cons
    have hp : (1 : Int) ≤ 256 ^ l.length := by
      have : (0 : Int) < 256 ^ l.length := Int.pow_pos (by decide)
      omega
    have hx : (256 : Int) ^ (c :: l).length = 256 ^ l.length * 256 := Int.pow_succ ..
    rw [hx] at h1 ⊢
    generalize hq : (256 : Int) ^ l.length = q at *
    have h2 : (x * 256 + c) * q + q ≤ x * (q * 256) + q * 256 := by
      have e : x * (q * 256) + q * 256 - ((x * 256 + c) * q + q) = q * (255 - c) := by
        rw [Int.mul_sub, Int.add_mul]
        have : x * (q * 256) = x * 256 * q := by rw [Int.mul_assoc, Int.mul_comm 256 q]
        rw [this, Int.mul_comm c q]
        omega
      have : 0 ≤ q * (255 - c) := Int.mul_nonneg (by omega) (by omega)
      omega
    have h3 : x * 256 + c < 18446744073709551616 := by
      have : (x * 256 + c) * 1 ≤ (x * 256 + c) * q := Int.mul_le_mul_of_nonneg_left hp (by omega)
      omega
    have e : octet_Get.be x (c :: l) = octet_Get.be (x * 256 + c) l := by
      show octet_Get.be (Go.bits .or .u64 (IntKind.u64.wrap (x * 256)) (IntKind.u64.wrap c)) l = _
      rw [or_u64 x c h0 (by omega) hc.1 hc.2]
    obtain ⟨i1, i2, i3⟩ := ih (x * 256 + c) hl (by omega) (by omega)
    refine ⟨by rw [e, i1]; rfl, i2, ?_⟩
    show beVal (x * 256 + c) l < _
    omega
end Go.Proofs.Ytdppnkgblklmmaa.Pure
