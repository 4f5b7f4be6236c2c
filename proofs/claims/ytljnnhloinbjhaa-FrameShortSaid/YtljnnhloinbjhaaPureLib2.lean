/- Plain lemmas on bits, and on the sum of 16-bit words: what the folding comes to. No program in sight. -/
import Derived.Test.YtljnnhloinbjhaaPbailiwickref1Plus
import Derived.Test.YtljnnhloinbjhaaPureLib1
import Derived.Test.YtljnnhloinbjhaaPoctet
import Derived.Test.YtljnnhloinbjhaaPbailiwickref1Update
import Derived.Test.YtljnnhloinbjhaaPbailiwickref1
import Derived.Laws.BitsAllLaws
namespace Go.Proofs.Ytljnnhloinbjhaa.Pure
open Go.RowKit Go.Proofs.Ytljnnhloinbjhaa.P Go.Proofs.YtljnnhloinbjhaaW.PrintWords Go.Proofs.YtljnnhloinbjhaaW.PrintLast
set_option linter.unusedVariables false
set_option linter.unusedSimpArgs false
theorem two_pow_ne (n : Nat) : ((2 : Int) ^ n) ≠ 0 := by
  have h := Nat.two_pow_pos n
  have h2 : ((2 ^ n : Nat) : Int) = (2 : Int) ^ n := by simp
  omega
theorem and_mask (k : IntKind) (i : Nat) (hi : i ≤ k.bits) (x : Int) : Go.bits .and k x (2 ^ i - 1) = k.wrap (x % 2 ^ i) := by
  have hpos : 0 < 2 ^ i := Nat.two_pow_pos i
  have hc : ((2 : Int) ^ i - 1) = ((2 ^ i - 1 : Nat) : Int) := by
    rw [Int.natCast_sub hpos]; simp
  have hp : 2 ^ i ≤ 2 ^ k.bits := Nat.pow_le_pow_right (by decide) hi
  have hm : (2 ^ i - 1) % 2 ^ k.bits = 2 ^ i - 1 := Nat.mod_eq_of_lt (by omega)
  rw [hc]
  simp only [Go.bits, BitVec.toNat_and, BitVec.ofInt_natCast, BitVec.toNat_ofNat, hm, BitVec.toNat_ofInt, Nat.and_two_pow_sub_one_eq_mod]
  congr 1
  have h1 : (((x % ((2 : Int) ^ k.bits)).toNat % 2 ^ i : Nat) : Int) = x % 2 ^ i := by
    rw [Int.natCast_emod, Int.toNat_of_nonneg (Int.emod_nonneg _ (two_pow_ne k.bits))]
    rw [show (((2 ^ i : Nat) : Int)) = (2 : Int) ^ i by simp]
    exact Int.emod_emod_of_dvd x (by exact_mod_cast Nat.pow_dvd_pow 2 hi)
  exact_mod_cast h1
theorem and_u64 (x : Int) : Go.bits .and .u64 x 65535 = x % 65536 := by
  have h := and_mask .u64 16 (by decide) x
  rw [show ((2 : Int) ^ 16 - 1) = 65535 from rfl, show ((2 : Int) ^ 16) = 65536 from rfl] at h
  rw [h]
  simp [IntKind.wrap, IntKind.bits, IntKind.signed]
  omega
theorem and_i64 (x : Int) : Go.bits .and .i64 x 65535 = x % 65536 := by
  have h := and_mask .i64 16 (by decide) x
  rw [show ((2 : Int) ^ 16 - 1) = 65535 from rfl, show ((2 : Int) ^ 16) = 65536 from rfl] at h
  rw [h, IntKind.wrap_i64]
  omega
theorem wrap_u64 (n : Int) : IntKind.u64.wrap n = n % 18446744073709551616 := by simp [IntKind.wrap, IntKind.bits, IntKind.signed]
/-- What folding comes to: 0 of 0 alone, else a number from 1 to 65535 that is the same modulo 65535. -/
def fold16 (x : Int) : Int := if x = 0 then 0 else (x - 1) % 65535 + 1
theorem fold16_bound (x : Int) : 0 ≤ fold16 x ∧ fold16 x ≤ 65535 := by unfold fold16; split <;> omega
theorem fold16_step (x : Int) (h : 65535 < x) : fold16 (x / 65536 + x % 65536) = fold16 x := by
  unfold fold16
  rw [if_neg (by omega), if_neg (by omega)]
  omega
theorem fold16_small (x : Int) (h0 : 0 ≤ x) (h : x ≤ 65535) : fold16 x = x := by
  unfold fold16
  split <;> omega
def FoldTo (n : Nat) (B : Int) : Prop := ∀ (k : Nat) (x : Int), n ≤ k → 0 ≤ x → x ≤ B → octet_fold.l0 k x = some (fold16 x) ∧ bailiwickref1_fold.l0 k x = some (fold16 x)
theorem foldTo_one : FoldTo 1 65535 := by
  intro k x hk h0 h1
  obtain ⟨k, rfl⟩ : ∃ m, k = m + 1 := ⟨k - 1, by omega⟩
  simp only [octet_fold.l0, bailiwickref1_fold.l0]
  rw [if_neg (by omega), if_neg (by omega), fold16_small x h0 h1, w64 (by omega) (by omega)]
  exact ⟨rfl, rfl⟩
theorem foldTo_step {n : Nat} {B B' : Int} (h : FoldTo n B') (hB : ∀ x, 65535 < x → x ≤ B → x / 65536 + x % 65536 ≤ B') (h2 : B < 18446744073709551616) : FoldTo (n + 1) B := by
  intro k x hk h0 h1
  obtain ⟨k, rfl⟩ : ∃ m, k = m + 1 := ⟨k - 1, by omega⟩
  simp only [octet_fold.l0, bailiwickref1_fold.l0]
  by_cases hx : x > 65535
  · have := h k (x / 65536 + x % 65536) (by omega) (by omega) (hB x hx h1)
    rw [if_pos hx, if_pos hx, and_u64, wrap_u64, wrap_u64, Int.emod_eq_of_lt (by omega) (by omega), Int.emod_eq_of_lt (a := x % 65536 + x / 65536) (by omega) (by omega), Int.add_comm (x % 65536), ← fold16_step x hx]
    exact this
  · rw [if_neg hx, if_neg hx, fold16_small x h0 (by omega), w64 (by omega) (by omega)]
    exact ⟨rfl, rfl⟩
theorem foldTo_all : FoldTo 6 18446744073709551615 := by
  have h2 : FoldTo 2 131070 := foldTo_step foldTo_one (by intro x h0 h1; omega) (by omega)
  have h3 : FoldTo 3 4294967295 := foldTo_step h2 (by intro x h0 h1; omega) (by omega)
  have h4 : FoldTo 4 281470681743360 := foldTo_step h3 (by intro x h0 h1; omega) (by omega)
  have h5 : FoldTo 5 18446462594437939200 := foldTo_step h4 (by intro x h0 h1; omega) (by omega)
  exact foldTo_step h5 (by intro x h0 h1; omega) (by omega)
theorem fold_to (k : Nat) (hk : 6 ≤ k) (x : Int) (h0 : 0 ≤ x) (h1 : x < 18446744073709551616) : octet_fold.f k x = some (fold16 x) := (foldTo_all k x hk h0 (by omega)).1
theorem refFold_to (k : Nat) (hk : 6 ≤ k) (x : Int) (h0 : 0 ≤ x) (h1 : x < 18446744073709551616) : bailiwickref1_fold.f k x = some (fold16 x) := (foldTo_all k x hk h0 (by omega)).2
/-- Plus, and Update, as numbers. -/
def plus (a b : Int) : Int := fold16 (a % 65536 + b % 65536)
theorem plus_bound (a b : Int) : 0 ≤ plus a b ∧ plus a b ≤ 65535 := fold16_bound _
theorem plus_comm (a b : Int) : plus a b = plus b a := by unfold plus; rw [Int.add_comm]
theorem plus_assoc (a b c : Int) : plus (plus a b) c = plus a (plus b c) := by
  have h1 := plus_bound a b
  have h2 := plus_bound b c
  unfold plus at *
  rw [Int.emod_eq_of_lt (a := fold16 (a % 65536 + b % 65536)) (by omega) (by omega), Int.emod_eq_of_lt (a := fold16 (b % 65536 + c % 65536)) (by omega) (by omega)]
  have ha : 0 ≤ a % 65536 ∧ a % 65536 ≤ 65535 := by omega
  have hb : 0 ≤ b % 65536 ∧ b % 65536 ≤ 65535 := by omega
  have hc : 0 ≤ c % 65536 ∧ c % 65536 ≤ 65535 := by omega
  generalize a % 65536 = a at *
  generalize b % 65536 = b at *
  generalize c % 65536 = c at *
  clear h1 h2
  unfold fold16
  split <;> split <;> split <;> (try split) <;> omega
theorem refPlus_to (k : Nat) (hk : 6 ≤ k) (a b : Int) : bailiwickref1_Plus.f k a b = some (plus a b) := by
  unfold bailiwickref1_Plus.f plus
  rw [and_i64, and_i64, wrap_u64, wrap_u64, wrap_u64, Int.emod_eq_of_lt (a := a % 65536) (by omega) (by omega), Int.emod_eq_of_lt (a := b % 65536) (by omega) (by omega), Int.emod_eq_of_lt (a := a % 65536 + b % 65536) (by omega) (by omega), refFold_to k hk _ (by omega) (by omega)]
  rfl
def update (c o n : Int) : Int := 65535 - plus (plus (65535 - c % 65536) (65535 - o % 65536)) n
theorem refUpdate_to (k : Nat) (hk : 6 ≤ k) (a b c : Int) : bailiwickref1_Update.f k a b c = some (update a b c) := by
  unfold bailiwickref1_Update.f update
  simp only [and_i64]
  rw [w64 (x := 65535 - a % 65536) (by omega) (by omega), w64 (x := 65535 - b % 65536) (by omega) (by omega), refPlus_to k hk]
  simp only [Option.bind_some]
  rw [refPlus_to k hk]
  simp only [Option.bind_some]
  have := plus_bound (plus (65535 - a % 65536) (65535 - b % 65536)) c
  rw [w64 (by omega) (by omega)]
end Go.Proofs.Ytljnnhloinbjhaa.Pure
