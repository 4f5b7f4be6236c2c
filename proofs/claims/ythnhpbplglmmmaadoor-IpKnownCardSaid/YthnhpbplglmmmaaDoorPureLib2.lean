/- Plain lemmas on bits, and on the sum of 16-bit words: what the folding comes to. No program in sight. -/
import Derived.Test.YthnhpbplglmmmaaDoorPureLib1
import Derived.Test.YthnhpbplglmmmaaDoorPoctet
import Derived.Laws.BitsAllLaws
namespace Go.Proofs.YthnhpbplglmmmaaDoor.Pure
open Go.RowKit Go.Proofs.YthnhpbplglmmmaaDoor.P Go.Proofs.YthnhpbplglmmmaaDoorW.PrintWords Go.Proofs.YthnhpbplglmmmaaDoorW.PrintLast
set_option linter.unusedVariables false
set_option linter.unusedSimpArgs false
theorem two_pow_ne (n : Nat) : ((2 : Int) ^ n) ≠ 0 := by
  have h := Nat.two_pow_pos n
  have h2 : ((2 ^ n : Nat) : Int) = (2 : Int) ^ n := by simp
  omega
theorem and_mask (k : IntKind) (i : Nat) (hi : i ≤ k.bits) (x : Int) : Go.bits .and k x (2 ^ i - 1) = k.wrap (x % 2 ^ i) := by
  have hpos : 0 < 2 ^ i := Nat.two_pow_pos i
  have hc : ((2 : Int) ^ i - 1) = ((2 ^ i - 1 : Nat) : Int) := by
    rw [Int.natCast_sub hpos]; simp
  have hp : 2 ^ i ≤ 2 ^ k.bits := Nat.pow_le_pow_right (by decide) hi
  have hm : (2 ^ i - 1) % 2 ^ k.bits = 2 ^ i - 1 := Nat.mod_eq_of_lt (by omega)
  rw [hc]
  simp only [Go.bits, BitVec.toNat_and, BitVec.ofInt_natCast, BitVec.toNat_ofNat, hm, BitVec.toNat_ofInt, Nat.and_two_pow_sub_one_eq_mod]
  congr 1
  have h1 : (((x % ((2 : Int) ^ k.bits)).toNat % 2 ^ i : Nat) : Int) = x % 2 ^ i := by
    rw [Int.natCast_emod, Int.toNat_of_nonneg (Int.emod_nonneg _ (two_pow_ne k.bits))]
    rw [show (((2 ^ i : Nat) : Int)) = (2 : Int) ^ i by simp]
    exact Int.emod_emod_of_dvd x (by exact_mod_cast Nat.pow_dvd_pow 2 hi)
  exact_mod_cast h1
theorem and_u64 (x : Int) : Go.bits .and .u64 x 65535 = x % 65536 := by
  have h := and_mask .u64 16 (by decide) x
  rw [show ((2 : Int) ^ 16 - 1) = 65535 from rfl, show ((2 : Int) ^ 16) = 65536 from rfl] at h
  rw [h]
  simp [IntKind.wrap, IntKind.bits, IntKind.signed]
  omega
theorem and_i64 (x : Int) : Go.bits .and .i64 x 65535 = x % 65536 := by
  have h := and_mask .i64 16 (by decide) x
  rw [show ((2 : Int) ^ 16 - 1) = 65535 from rfl, show ((2 : Int) ^ 16) = 65536 from rfl] at h
  rw [h, IntKind.wrap_i64]
  omega
theorem wrap_u64 (n : Int) : IntKind.u64.wrap n = n % 18446744073709551616 := by simp [IntKind.wrap, IntKind.bits, IntKind.signed]
/-- What folding comes to: 0 of 0 alone, else a number from 1 to 65535 that is the same modulo 65535. -/
def fold16 (x : Int) : Int := if x = 0 then 0 else (x - 1) % 65535 + 1
theorem fold16_bound (x : Int) : 0 ≤ fold16 x ∧ fold16 x ≤ 65535 := by unfold fold16; split <;> omega
theorem fold16_step (x : Int) (h : 65535 < x) : fold16 (x / 65536 + x % 65536) = fold16 x := by
  unfold fold16
  rw [if_neg (by omega), if_neg (by omega)]
  omega
theorem fold16_small (x : Int) (h0 : 0 ≤ x) (h : x ≤ 65535) : fold16 x = x := by
  unfold fold16
  split <;> omega
/-- Plus, and Update, as numbers. -/
def plus (a b : Int) : Int := fold16 (a % 65536 + b % 65536)
theorem plus_bound (a b : Int) : 0 ≤ plus a b ∧ plus a b ≤ 65535 := fold16_bound _
theorem plus_comm (a b : Int) : plus a b = plus b a := by unfold plus; rw [Int.add_comm]
theorem plus_assoc (a b c : Int) : plus (plus a b) c = plus a (plus b c) := by
  have h1 := plus_bound a b
  have h2 := plus_bound b c
  unfold plus at *
  rw [Int.emod_eq_of_lt (a := fold16 (a % 65536 + b % 65536)) (by omega) (by omega), Int.emod_eq_of_lt (a := fold16 (b % 65536 + c % 65536)) (by omega) (by omega)]
  have ha : 0 ≤ a % 65536 ∧ a % 65536 ≤ 65535 := by omega
  have hb : 0 ≤ b % 65536 ∧ b % 65536 ≤ 65535 := by omega
  have hc : 0 ≤ c % 65536 ∧ c % 65536 ≤ 65535 := by omega
  generalize a % 65536 = a at *
  generalize b % 65536 = b at *
  generalize c % 65536 = c at *
  clear h1 h2
  unfold fold16
  split <;> split <;> split <;> (try split) <;> omega
def update (c o n : Int) : Int := 65535 - plus (plus (65535 - c % 65536) (65535 - o % 65536)) n
end Go.Proofs.YthnhpbplglmmmaaDoor.Pure
