/- Plain lemmas: a number laid into bytes, and read out of them. No program in sight. -/
import Derived.Test.YthnhpbplglmmmaaDoorPoctet
import Derived.Test.YthnhpbplglmmmaaDoorPureLib3
namespace Go.Proofs.YthnhpbplglmmmaaDoor.Pure
open Go.RowKit Go.Proofs.YthnhpbplglmmmaaDoor.P Go.Proofs.YthnhpbplglmmmaaDoorW.PrintWords Go.Proofs.YthnhpbplglmmmaaDoorW.PrintLast
set_option linter.unusedVariables false
set_option linter.unusedSimpArgs false
/-- The bytes behind n rounds of laying x from place a + n - 1 down to a. -/
def lay (l : List Int) (a : Nat) : Nat → Int → List Int
  | 0, _ => l
  | n + 1, x => lay (l.set (a + n) (x % 256)) a n (x / 256)
theorem lay_length (a : Nat) : ∀ (n : Nat) (l : List Int) (x : Int), (lay l a n x).length = l.length
  | 0, _, _ => rfl
  | n + 1, l, x => by rw [lay, lay_length a n]; simp
def put (l : List Int) (a n x : Int) : List Int × Bool := if 1 ≤ n ∧ n ≤ 8 ∧ 0 ≤ a ∧ a + n ≤ (l.length : Int) then (lay l a.toNat n.toNat x, true) else ([], false)
/-- What was laid is read: the value of n bytes. -/
def beVal (x : Int) (l : List Int) : Int := l.foldl (fun x c => x * 256 + c) x
theorem or_u64 (x c : Int) (h0 : 0 ≤ x) (h1 : x < 72057594037927936) (hc : 0 ≤ c) (hc1 : c < 256) : Go.bits .or .u64 (IntKind.u64.wrap (x * 256)) (IntKind.u64.wrap c) = x * 256 + c := by
  rw [wrap_u64, wrap_u64, Int.emod_eq_of_lt (by omega) (by omega), Int.emod_eq_of_lt (by omega) (by omega)]
  exact bits_join .u64 64 (by decide) (fun n h0 h1 => by rw [wrap_u64]; omega) 8 (x * 256) c (by omega) (by simp) (by omega) hc (by omega) (by omega)
theorem be_val (l : List Int) : ∀ (x : Int), Bytes l → 0 ≤ x → x * 256 ^ l.length + 256 ^ l.length ≤ 18446744073709551616 → octet_Get.be x l = beVal x l ∧ 0 ≤ beVal x l ∧ beVal x l < x * 256 ^ l.length + 256 ^ l.length := by
  induction l with
  | nil => intro x _ h0 h1; simp [octet_Get.be, beVal] at *; omega
  | cons c l ih =>
    intro x h h0 h1
    obtain ⟨hc, hl⟩ := h.cons
    have hp : (1 : Int) ≤ 256 ^ l.length := by
      have : (0 : Int) < 256 ^ l.length := Int.pow_pos (by decide)
      omega
    have hx : (256 : Int) ^ (c :: l).length = 256 ^ l.length * 256 := Int.pow_succ ..
    rw [hx] at h1 ⊢
    generalize hq : (256 : Int) ^ l.length = q at *
    have h2 : (x * 256 + c) * q + q ≤ x * (q * 256) + q * 256 := by
      have e : x * (q * 256) + q * 256 - ((x * 256 + c) * q + q) = q * (255 - c) := by
        rw [Int.mul_sub, Int.add_mul]
        have : x * (q * 256) = x * 256 * q := by rw [Int.mul_assoc, Int.mul_comm 256 q]
        rw [this, Int.mul_comm c q]
        omega
      have : 0 ≤ q * (255 - c) := Int.mul_nonneg (by omega) (by omega)
      omega
    have h3 : x * 256 + c < 18446744073709551616 := by
      have : (x * 256 + c) * 1 ≤ (x * 256 + c) * q := Int.mul_le_mul_of_nonneg_left hp (by omega)
      omega
    have e : octet_Get.be x (c :: l) = octet_Get.be (x * 256 + c) l := by
      show octet_Get.be (Go.bits .or .u64 (IntKind.u64.wrap (x * 256)) (IntKind.u64.wrap c)) l = _
      rw [or_u64 x c h0 (by omega) hc.1 hc.2]
    obtain ⟨i1, i2, i3⟩ := ih (x * 256 + c) hl (by omega) (by omega)
    refine ⟨by rw [e, i1]; rfl, i2, ?_⟩
    show beVal (x * 256 + c) l < _
    omega
end Go.Proofs.YthnhpbplglmmmaaDoor.Pure
