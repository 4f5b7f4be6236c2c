/- InnerQuotes: an error about a frame quotes its ends, and goes to its source; about an error there is none. For at most 5000 bytes and codes from 0 to 255. -/
--@ hand
import Derived.Test.YtljnnhloinbjhaaPbailiwicklaw22awake
import Derived.Test.YtljnnhloinbjhaaPbailiwickref1
import Derived.Test.YtljnnhloinbjhaaPframe
import Derived.Test.YtljnnhloinbjhaaPframeQuote
import Derived.Test.YtljnnhloinbjhaaPframeRead
import Derived.Test.YtljnnhloinbjhaaPicmp
import Derived.Test.YtljnnhloinbjhaaPicmpBuild
import Derived.Test.YtljnnhloinbjhaaPinner
import Derived.Test.YtljnnhloinbjhaaPip
import Derived.Test.YtljnnhloinbjhaaPipBuild
import Derived.Test.YtljnnhloinbjhaaPipput
import Derived.Test.YtljnnhloinbjhaaPoctet
import Derived.Test.YtljnnhloinbjhaaPtcp
import Derived.Test.YtljnnhloinbjhaaPudp
import Derived.Laws.BitsAllLaws
import Derived.Great.Ranges
namespace Go.Proofs.Ytljnnhloinbjhaa.Pure
open Go.RowKit Go.Proofs.Ytljnnhloinbjhaa.P Go.Proofs.YtljnnhloinbjhaaW.PrintWords Go.Proofs.YtljnnhloinbjhaaW.PrintLast Go.Proofs.YtljnnhloinbjhaaW.PrintMore
set_option linter.unusedVariables false
set_option linter.unusedSimpArgs false
theorem w64 {x : Int} (h0 : -9223372036854775808 ≤ x) (h1 : x ≤ 9223372036854775807) : wrap64 x = x := by
  unfold wrap64
  omega
theorem rd_nat (l : List Int) (i : Nat) (h : i < l.length) : rd l (i : Int) = l[i] := by
  simp [rd, h]
theorem rd_getD (l : List Int) (i : Nat) : rd l (i : Int) = l.getD i 0 := by
  unfold rd
  rw [Int.toNat_natCast]
theorem drop_rd (l : List Int) (i : Nat) (h : i < l.length) : l.drop i = rd l (i : Int) :: l.drop (i + 1) := by
  rw [rd_nat l i h, List.drop_eq_getElem_cons h]
theorem two_pow_ne (n : Nat) : ((2 : Int) ^ n) ≠ 0 := by
  have h := Nat.two_pow_pos n
  have h2 : ((2 ^ n : Nat) : Int) = (2 : Int) ^ n := by simp
  omega
theorem and_mask (k : IntKind) (i : Nat) (hi : i ≤ k.bits) (x : Int) : Go.bits .and k x (2 ^ i - 1) = k.wrap (x % 2 ^ i) := by
  have hpos : 0 < 2 ^ i := Nat.two_pow_pos i
  have hc : ((2 : Int) ^ i - 1) = ((2 ^ i - 1 : Nat) : Int) := by
    rw [Int.natCast_sub hpos]; simp
  have hp : 2 ^ i ≤ 2 ^ k.bits := Nat.pow_le_pow_right (by decide) hi
  have hm : (2 ^ i - 1) % 2 ^ k.bits = 2 ^ i - 1 := Nat.mod_eq_of_lt (by omega)
  rw [hc]
  simp only [Go.bits, BitVec.toNat_and, BitVec.ofInt_natCast, BitVec.toNat_ofNat, hm, BitVec.toNat_ofInt, Nat.and_two_pow_sub_one_eq_mod]
  congr 1
  have h1 : (((x % ((2 : Int) ^ k.bits)).toNat % 2 ^ i : Nat) : Int) = x % 2 ^ i := by
    rw [Int.natCast_emod, Int.toNat_of_nonneg (Int.emod_nonneg _ (two_pow_ne k.bits))]
    rw [show (((2 ^ i : Nat) : Int)) = (2 : Int) ^ i by simp]
    exact Int.emod_emod_of_dvd x (by exact_mod_cast Nat.pow_dvd_pow 2 hi)
  exact_mod_cast h1
theorem and_u64 (x : Int) : Go.bits .and .u64 x 65535 = x % 65536 := by
  have h := and_mask .u64 16 (by decide) x
  rw [show ((2 : Int) ^ 16 - 1) = 65535 from rfl, show ((2 : Int) ^ 16) = 65536 from rfl] at h
  rw [h]
  simp [IntKind.wrap, IntKind.bits, IntKind.signed]
  omega
theorem wrap_u64 (n : Int) : IntKind.u64.wrap n = n % 18446744073709551616 := by simp [IntKind.wrap, IntKind.bits, IntKind.signed]
/-- What folding comes to: 0 of 0 alone, else a number from 1 to 65535 that is the same modulo 65535. -/
def fold16 (x : Int) : Int := if x = 0 then 0 else (x - 1) % 65535 + 1
theorem fold16_bound (x : Int) : 0 ≤ fold16 x ∧ fold16 x ≤ 65535 := by unfold fold16; split <;> omega
theorem fold16_step (x : Int) (h : 65535 < x) : fold16 (x / 65536 + x % 65536) = fold16 x := by
  unfold fold16
  rw [if_neg (by omega), if_neg (by omega)]
  omega
theorem fold16_small (x : Int) (h0 : 0 ≤ x) (h : x ≤ 65535) : fold16 x = x := by
  unfold fold16
  split <;> omega
def FoldTo (n : Nat) (B : Int) : Prop := ∀ (k : Nat) (x : Int), n ≤ k → 0 ≤ x → x ≤ B → octet_fold.l0 k x = some (fold16 x) ∧ bailiwickref1_fold.l0 k x = some (fold16 x)
theorem foldTo_one : FoldTo 1 65535 := by
  intro k x hk h0 h1
  obtain ⟨k, rfl⟩ : ∃ m, k = m + 1 := ⟨k - 1, by omega⟩
  simp only [octet_fold.l0, bailiwickref1_fold.l0]
  rw [if_neg (by omega), if_neg (by omega), fold16_small x h0 h1, w64 (by omega) (by omega)]
  exact ⟨rfl, rfl⟩
theorem foldTo_step {n : Nat} {B B' : Int} (h : FoldTo n B') (hB : ∀ x, 65535 < x → x ≤ B → x / 65536 + x % 65536 ≤ B') (h2 : B < 18446744073709551616) : FoldTo (n + 1) B := by
  intro k x hk h0 h1
  obtain ⟨k, rfl⟩ : ∃ m, k = m + 1 := ⟨k - 1, by omega⟩
  simp only [octet_fold.l0, bailiwickref1_fold.l0]
  by_cases hx : x > 65535
  · have := h k (x / 65536 + x % 65536) (by omega) (by omega) (hB x hx h1)
    rw [if_pos hx, if_pos hx, and_u64, wrap_u64, wrap_u64, Int.emod_eq_of_lt (by omega) (by omega), Int.emod_eq_of_lt (a := x % 65536 + x / 65536) (by omega) (by omega), Int.add_comm (x % 65536), ← fold16_step x hx]
    exact this
  · rw [if_neg hx, if_neg hx, fold16_small x h0 (by omega), w64 (by omega) (by omega)]
    exact ⟨rfl, rfl⟩
theorem foldTo_all : FoldTo 6 18446744073709551615 := by
  have h2 : FoldTo 2 131070 := foldTo_step foldTo_one (by intro x h0 h1; omega) (by omega)
  have h3 : FoldTo 3 4294967295 := foldTo_step h2 (by intro x h0 h1; omega) (by omega)
  have h4 : FoldTo 4 281470681743360 := foldTo_step h3 (by intro x h0 h1; omega) (by omega)
  have h5 : FoldTo 5 18446462594437939200 := foldTo_step h4 (by intro x h0 h1; omega) (by omega)
  exact foldTo_step h5 (by intro x h0 h1; omega) (by omega)
theorem fold_to (k : Nat) (hk : 6 ≤ k) (x : Int) (h0 : 0 ≤ x) (h1 : x < 18446744073709551616) : octet_fold.f k x = some (fold16 x) := (foldTo_all k x hk h0 (by omega)).1
/-- Bytes. -/
def Bytes (l : List Int) : Prop := ∀ c ∈ l, 0 ≤ c ∧ c < 256
theorem bytes_of {l : List Int} (h : ∀ a ∈ l, (Lit.int .u8 a).wf = true) : Bytes l := by
  intro c hc
  have := h c hc
  simp [Lit.wf, IntKind.min, IntKind.max, IntKind.bits, IntKind.signed] at this
  omega
theorem Bytes.cons {c : Int} {l : List Int} (h : Bytes (c :: l)) : (0 ≤ c ∧ c < 256) ∧ Bytes l := ⟨h c (by simp), fun d hd => h d (by simp [hd])⟩
theorem Bytes.append {l m : List Int} (h : Bytes l) (h2 : Bytes m) : Bytes (l ++ m) := fun c hc => (List.mem_append.1 hc).elim (h c) (h2 c)
theorem Bytes.get {l : List Int} (h : Bytes l) (i : Nat) (hi : i < l.length) : 0 ≤ rd l (i : Int) ∧ rd l (i : Int) < 256 := by
  rw [rd_nat l i hi]
  exact h _ (List.getElem_mem hi)
/-- The sum of words, unfolded: o: is the next byte a lower one? -/
def wsum : Bool → List Int → Int
  | _, [] => 0
  | o, c :: l => (if o then c else c * 256) + wsum (!o) l
theorem wsum_bound (l : List Int) : ∀ o, Bytes l → 0 ≤ wsum o l ∧ wsum o l ≤ 65280 * l.length := by
  induction l with
  | nil => intro o _; simp [wsum]
  | cons c l ih =>
    intro o h
    obtain ⟨hc, hl⟩ := h.cons
    have := ih (!o) hl
    cases o <;> simp only [wsum, List.length_cons] at * <;> simp at * <;> omega
def parity (o : Bool) (l : List Int) : Bool := if l.length % 2 = 0 then o else !o
theorem sum_foldl (l : List Int) : ∀ (t : Int) (o : Bool), Bytes l → 0 ≤ t → t + 65280 * l.length < 18446744073709551616 → l.foldl octet_Sum.step (t, o) = (t + wsum o l, parity o l) := by
  induction l with
  | nil => intro t o _ _ _; simp [wsum, parity]
  | cons c l ih =>
    intro t o h h0 h1
    obtain ⟨hc, hl⟩ := h.cons
    simp only [List.length_cons] at h1
    have e : octet_Sum.step (t, o) c = (t + (if o then c else c * 256), !o) := by
      unfold octet_Sum.step
      cases o
      · simp only [Bool.false_eq_true, if_false]
        rw [wrap_u64, wrap_u64, wrap_u64, Int.emod_eq_of_lt (a := c) (by omega) (by omega), Int.emod_eq_of_lt (a := c * 256) (by omega) (by omega), Int.emod_eq_of_lt (by omega) (by omega)]
      · simp only [if_true]
        rw [wrap_u64, wrap_u64, Int.emod_eq_of_lt (a := c) (by omega) (by omega), Int.emod_eq_of_lt (by omega) (by omega)]
    rw [List.foldl_cons, e, ih _ _ hl (by split <;> omega) (by split <;> omega)]
    refine Prod.ext ?_ ?_
    · simp only [wsum]; omega
    · simp only [parity, List.length_cons]
      by_cases hp : l.length % 2 = 0
      · rw [if_pos hp, if_neg (by omega)]
      · rw [if_neg hp, if_pos (by omega)]; simp
theorem tot_flat (l0 : List (List Int)) : ∀ s, octet_Sum.tot s l0 = l0.flatten.foldl octet_Sum.step s := by
  unfold octet_Sum.tot
  induction l0 with
  | nil => intro s; rfl
  | cons b l ih => intro s; rw [List.foldl_cons, ih, List.flatten_cons, List.foldl_append]
/-- The Sum of rows of bytes. -/
def sumOf (l : List Int) : Int := fold16 (wsum false l)
theorem sumOf_bound (l : List Int) : 0 ≤ sumOf l ∧ sumOf l ≤ 65535 := fold16_bound _
theorem sum_to (l0 : List (List Int)) (hb : Bytes l0.flatten) (hl : l0.flatten.length ≤ 1000000000) : octet_Sum.f l0 = some (sumOf l0.flatten) := by
  unfold octet_Sum.f sumOf
  have h := wsum_bound l0.flatten false hb
  rw [tot_flat, sum_foldl _ 0 false hb (by omega) (by omega), fold_to 8 (by omega) _ (by omega) (by omega)]
  simp
theorem sum_one (l : List Int) (hb : Bytes l) (hl : l.length ≤ 1000000000) : octet_Sum.f [l] = some (sumOf l) := by
  have := sum_to [l] (by simpa using hb) (by simpa using hl)
  simpa using this
theorem check_to (l0 : List (List Int)) (hb : Bytes l0.flatten) (hl : l0.flatten.length ≤ 1000000000) : octet_Check.f l0 = some (65535 - sumOf l0.flatten) := by
  unfold octet_Check.f
  rw [sum_to l0 hb hl]
  have := sumOf_bound l0.flatten
  simp only [Option.bind_some]
  rw [w64 (by omega) (by omega)]
theorem check_one (l : List Int) (hb : Bytes l) (hl : l.length ≤ 1000000000) : octet_Check.f [l] = some (65535 - sumOf l) := by
  have := check_to [l] (by simpa using hb) (by simpa using hl)
  simpa using this
/-- The bytes behind n rounds of laying x from place a + n - 1 down to a. -/
def lay (l : List Int) (a : Nat) : Nat → Int → List Int
  | 0, _ => l
  | n + 1, x => lay (l.set (a + n) (x % 256)) a n (x / 256)
def put (l : List Int) (a n x : Int) : List Int × Bool := if 1 ≤ n ∧ n ≤ 8 ∧ 0 ≤ a ∧ a + n ≤ (l.length : Int) then (lay l a.toNat n.toNat x, true) else ([], false)
/-- What was laid is read: the value of n bytes. -/
def beVal (x : Int) (l : List Int) : Int := l.foldl (fun x c => x * 256 + c) x
theorem or_u64 (x c : Int) (h0 : 0 ≤ x) (h1 : x < 72057594037927936) (hc : 0 ≤ c) (hc1 : c < 256) : Go.bits .or .u64 (IntKind.u64.wrap (x * 256)) (IntKind.u64.wrap c) = x * 256 + c := by
  rw [wrap_u64, wrap_u64, Int.emod_eq_of_lt (by omega) (by omega), Int.emod_eq_of_lt (by omega) (by omega)]
  exact bits_join .u64 64 (by decide) (fun n h0 h1 => by rw [wrap_u64]; omega) 8 (x * 256) c (by omega) (by simp) (by omega) hc (by omega) (by omega)
theorem be_val (l : List Int) : ∀ (x : Int), Bytes l → 0 ≤ x → x * 256 ^ l.length + 256 ^ l.length ≤ 18446744073709551616 → octet_Get.be x l = beVal x l ∧ 0 ≤ beVal x l ∧ beVal x l < x * 256 ^ l.length + 256 ^ l.length := by
  induction l with
  | nil => intro x _ h0 h1; simp [octet_Get.be, beVal] at *; omega
  | cons c l ih =>
    intro x h h0 h1
    obtain ⟨hc, hl⟩ := h.cons
    have hp : (1 : Int) ≤ 256 ^ l.length := by
      have : (0 : Int) < 256 ^ l.length := Int.pow_pos (by decide)
      omega
    have hx : (256 : Int) ^ (c :: l).length = 256 ^ l.length * 256 := Int.pow_succ ..
    rw [hx] at h1 ⊢
    generalize hq : (256 : Int) ^ l.length = q at *
    have h2 : (x * 256 + c) * q + q ≤ x * (q * 256) + q * 256 := by
      have e : x * (q * 256) + q * 256 - ((x * 256 + c) * q + q) = q * (255 - c) := by
        rw [Int.mul_sub, Int.add_mul]
        have : x * (q * 256) = x * 256 * q := by rw [Int.mul_assoc, Int.mul_comm 256 q]
        rw [this, Int.mul_comm c q]
        omega
      have : 0 ≤ q * (255 - c) := Int.mul_nonneg (by omega) (by omega)
      omega
    have h3 : x * 256 + c < 18446744073709551616 := by
      have : (x * 256 + c) * 1 ≤ (x * 256 + c) * q := Int.mul_le_mul_of_nonneg_left hp (by omega)
      omega
    have e : octet_Get.be x (c :: l) = octet_Get.be (x * 256 + c) l := by
      show octet_Get.be (Go.bits .or .u64 (IntKind.u64.wrap (x * 256)) (IntKind.u64.wrap c)) l = _
      rw [or_u64 x c h0 (by omega) hc.1 hc.2]
    obtain ⟨i1, i2, i3⟩ := ih (x * 256 + c) hl (by omega) (by omega)
    refine ⟨by rw [e, i1]; rfl, i2, ?_⟩
    show beVal (x * 256 + c) l < _
    omega
def wt (o : Bool) (i : Nat) : Int := if (i % 2 = 0) = (o = true) then 1 else 256
theorem wsum_set (l : List Int) : ∀ (o : Bool) (i : Nat) (v : Int), i < l.length → wsum o (l.set i v) = wsum o l + wt o i * (v - l.getD i 0) := by
  induction l with
  | nil => intro o i v h; simp at h
  | cons c l ih =>
    intro o i v h
    cases i with
    | zero =>
      simp only [List.set_cons_zero, wsum, List.getD_cons_zero, wt]
      cases o <;> simp <;> omega
    | succ i =>
      simp only [List.set_cons_succ, wsum, List.getD_cons_succ]
      rw [ih (!o) i v (by simpa using h)]
      have : wt (!o) i = wt o (i + 1) := by
        unfold wt
        cases o <;> by_cases hi : i % 2 = 0
        · rw [if_pos (by simp [hi]), if_pos (by simp; omega)]
        · rw [if_neg (by simp; omega), if_neg (by simp; omega)]
        · rw [if_neg (by simp [hi]), if_neg (by simp; omega)]
        · rw [if_pos (by simp; omega), if_pos (by simp; omega)]
      rw [this]
      omega
theorem getD_set (l : List Int) (i j : Nat) (v : Int) (h : i < l.length) : (l.set i v).getD j 0 = if i = j then v else l.getD j 0 := by
  by_cases hij : i = j
  · subst hij; simp [h]
  · rw [if_neg hij]; simp [List.getElem?_set, hij]
theorem get_two (l : List Int) (a : Nat) (hb : Bytes l) (h : a + 2 ≤ l.length) : octet_Get.f l a 2 = some (l.getD a 0 * 256 + l.getD (a + 1) 0, true) := by
  unfold octet_Get.f
  rw [if_pos (by omega), show ((a : Int) + 2).toNat = a + 2 by omega, Int.toNat_natCast]
  have e : (l.take (a + 2)).drop a = [l.getD a 0, l.getD (a + 1) 0] := by
    rw [drop_rd _ a (by simp; omega), drop_rd _ (a + 1) (by simp; omega), List.drop_of_length_le (by simp; omega), rd_getD, rd_getD]
    simp [List.getD, List.getElem?_take]
  rw [e]
  have g : ∀ q, q < l.length → 0 ≤ l.getD q 0 ∧ l.getD q 0 < 256 := fun q hq => by
    have : l.getD q 0 = l[q] := by simp [hq]
    rw [this]; exact hb _ (List.getElem_mem hq)
  have := (be_val [l.getD a 0, l.getD (a + 1) 0] 0 (by
    intro c hc
    simp only [List.mem_cons, List.not_mem_nil, or_false] at hc
    rcases hc with rfl | rfl
    · exact g _ (by omega)
    · exact g _ (by omega)) (by omega) (by simp)).1
  rw [this]
  simp [beVal]
/-- Numbers of two and four bytes. -/
def two (l : List Int) (a : Nat) : Int := rd l a * 256 + rd l (a + 1 : Nat)
def four (l : List Int) (a : Nat) : Int := rd l a * 16777216 + rd l (a + 1 : Nat) * 65536 + rd l (a + 2 : Nat) * 256 + rd l (a + 3 : Nat)
theorem get2_to (l : List Int) (a : Nat) (hb : Bytes l) (h : a + 2 ≤ l.length) : octet_Get.f l a 2 = some (two l a, true) := by
  rw [get_two l a hb h]
  unfold two
  rw [rd_getD, rd_getD]
theorem get4_to (l : List Int) (a : Nat) (hb : Bytes l) (h : a + 4 ≤ l.length) : octet_Get.f l a 4 = some (four l a, true) := by
  unfold octet_Get.f
  rw [if_pos (by omega), show ((a : Int) + 4).toNat = a + 4 by omega, Int.toNat_natCast]
  have e3 : ∀ i, i < a + 4 → rd (l.take (a + 4)) ((i : Nat) : Int) = rd l ((i : Nat) : Int) := fun i hi => by
    rw [rd_nat _ _ (by simp; omega), rd_nat _ _ (by omega), List.getElem_take]
  have e : (l.take (a + 4)).drop a = [rd l ((a : Nat) : Int), rd l ((a + 1 : Nat) : Int), rd l ((a + 2 : Nat) : Int), rd l ((a + 3 : Nat) : Int)] := by
    rw [drop_rd _ a (by simp; omega), drop_rd _ (a + 1) (by simp; omega), drop_rd _ (a + 1 + 1) (by simp; omega), drop_rd _ (a + 1 + 1 + 1) (by simp; omega), List.drop_of_length_le (by simp; omega)]
    rw [e3 a (by omega), e3 (a + 1) (by omega), e3 (a + 1 + 1) (by omega), e3 (a + 1 + 1 + 1) (by omega)]
  rw [e, (be_val _ 0 (by
    intro c hc
    simp only [List.mem_cons, List.not_mem_nil, or_false] at hc
    rcases hc with rfl | rfl | rfl | rfl
    · exact hb.get a (by omega)
    · exact hb.get (a + 1) (by omega)
    · exact hb.get (a + 2) (by omega)
    · exact hb.get (a + 3) (by omega)) (by omega) (by simp)).1]
  simp only [beVal, List.foldl_cons, List.foldl_nil]
  unfold four
  congr 2
  omega
theorem two_bound (l : List Int) (a : Nat) (hb : Bytes l) (h : a + 2 ≤ l.length) : 0 ≤ two l a ∧ two l a < 65536 := by
  have g0 := hb.get a (by omega)
  have g1 := hb.get (a + 1) (by omega)
  unfold two
  omega
theorem four_bound (l : List Int) (a : Nat) (hb : Bytes l) (h : a + 4 ≤ l.length) : 0 ≤ four l a ∧ four l a < 4294967296 := by
  have g0 := hb.get a (by omega)
  have g1 := hb.get (a + 1) (by omega)
  have g2 := hb.get (a + 2) (by omega)
  have g3 := hb.get (a + 3) (by omega)
  unfold four
  omega
/-- Once the sum is set to what lacks, the whole sums to 65535. -/
theorem fold_full (x : Int) (h : 0 ≤ x) : fold16 (x + (65535 - fold16 x)) = 65535 := by
  unfold fold16
  by_cases h0 : x = 0
  · subst h0; decide
  · rw [if_neg h0, if_neg (by omega)]
    omega
theorem bytes_set {l : List Int} (hb : Bytes l) (i : Nat) (v : Int) (h0 : 0 ≤ v) (h1 : v < 256) : Bytes (l.set i v) := fun c hc => by
  rcases List.mem_or_eq_of_mem_set hc with h | rfl
  · exact hb c h
  · exact ⟨h0, h1⟩
theorem q_and8191 (p : Int) (h0 : 0 ≤ p) (h1 : p < 65536) : Go.bits .and .i64 p 8191 = p % 8192 := by
  have := and_mask .i64 13 (by decide) p
  rw [show ((2 : Int) ^ 13 - 1) = 8191 by decide, show ((2 : Int) ^ 13) = 8192 by decide] at this
  rw [this, IntKind.wrap_i64]
  omega
theorem q_gt2 (l : List Int) (a : Nat) (hb : Bytes l) (h : a + 2 ≤ l.length) : frame_Quote.gt l a 2 = two l a := by
  have := two_bound l a hb h
  unfold frame_Quote.gt
  rw [get2_to l a hb h]
  exact w64 (by show _ ≤ two l a; omega) (by show two l a ≤ _; omega)
theorem q_gt4 (l : List Int) (a : Nat) (hb : Bytes l) (h : a + 4 ≤ l.length) : IntKind.u32.wrap (frame_Quote.gt l a 4) = four l a := by
  have := four_bound l a hb h
  unfold frame_Quote.gt
  rw [get4_to l a hb h]
  rw [show wrap64 ((some (four l a, true)).getD (0, false)).1 = four l a from w64 (by show _ ≤ four l a; omega) (by show four l a ≤ _; omega), IntKind.wrap_u32]
  omega
def fhead (l : List Int) : Nat := (rd l 0 % 16 * 4).toNat
theorem fhead_to (l : List Int) : rd l 0 % 16 * 4 = (fhead l : Int) ∧ fhead l ≤ 60 := by
  unfold fhead
  omega
def fno : Int × Int × Int × Int × Int × Bool := (0, 0, 0, 0, 0, false)
def fquote (l : List Int) : Int × Int × Int × Int × Int × Bool :=
  if (l.length : Int) < 20 then fno else if rd l 0 / 16 ≠ 4 then fno else if rd l 0 % 16 < 5 then fno else if l.length < fhead l + 8 then fno else if two l 6 % 8192 ≠ 0 then fno
  else if rd l 9 = 17 ∨ rd l 9 = 6 then (rd l 9, four l 12, two l (fhead l), four l 16, two l (fhead l + 2), true)
  else if rd l 9 = 1 then (if (rd l (fhead l : Nat) ≠ 8 ∧ rd l (fhead l : Nat) ≠ 0) ∨ rd l (fhead l + 1 : Nat) ≠ 0 then fno else (rd l 9, four l 12, two l (fhead l + 4), four l 16, two l (fhead l + 4), true))
  else fno
theorem fquote_frame (l : List Int) (hb : Bytes l) : frame_Quote.f l = some (fquote l) := by
  obtain ⟨hh, h60⟩ := fhead_to l
  unfold frame_Quote.f fquote
  rw [hh]
  by_cases c1 : (l.length : Int) < 20
  · rw [if_pos c1, if_pos c1]; rfl
  have b0 := hb.get 0 (by omega)
  have b9 := hb.get 9 (by omega)
  rw [show ((0 : Nat) : Int) = 0 from rfl] at b0
  rw [show ((9 : Nat) : Int) = 9 from rfl] at b9
  rw [if_neg c1, if_neg c1, if_neg (by omega)]
  by_cases c3 : rd l 0 / 16 ≠ 4
  · rw [if_pos c3, if_pos c3]; rfl
  rw [if_neg c3, if_neg c3]
  by_cases c4 : rd l 0 % 16 < 5
  · rw [if_pos c4, if_pos c4]; rfl
  rw [if_neg c4, if_neg c4]
  by_cases c5 : l.length < fhead l + 8
  · rw [if_pos c5, if_pos (by omega)]; rfl
  rw [if_neg c5, if_neg (by omega)]
  have t6 := two_bound l 6 hb (by omega)
  rw [show frame_Quote.gt l 6 2 = two l 6 from q_gt2 l 6 hb (by omega), q_and8191 _ t6.1 t6.2]
  by_cases c6 : two l 6 % 8192 ≠ 0
  · rw [if_pos c6, if_pos c6]; rfl
  rw [if_neg c6, if_neg c6]
  rw [show IntKind.u32.wrap (frame_Quote.gt l 12 4) = four l 12 from q_gt4 l 12 hb (by omega), show IntKind.u32.wrap (frame_Quote.gt l 16 4) = four l 16 from q_gt4 l 16 hb (by omega)]
  rw [show frame_Quote.gt l (fhead l) 2 = two l (fhead l) from q_gt2 l _ hb (by omega), show frame_Quote.gt l ((fhead l : Int) + 2) 2 = two l (fhead l + 2) from q_gt2 l (fhead l + 2) hb (by omega), show frame_Quote.gt l ((fhead l : Int) + 4) 2 = two l (fhead l + 4) from q_gt2 l (fhead l + 4) hb (by omega)]
  rw [show ((fhead l : Int) + 1) = ((fhead l + 1 : Nat) : Int) from rfl]
  by_cases c7 : rd l 9 = 17 ∨ rd l 9 = 6
  · rw [if_pos c7, if_pos c7]
  rw [if_neg c7, if_neg c7]
  by_cases c8 : rd l 9 = 1
  · rw [if_pos c8, if_pos c8]
    by_cases c9 : (rd l (fhead l : Nat) ≠ 8 ∧ rd l (fhead l : Nat) ≠ 0) ∨ rd l (fhead l + 1 : Nat) ≠ 0
    · rw [if_pos c9, if_pos c9]; rfl
    · rw [if_neg c9, if_neg c9]
  · rw [if_neg c8, if_neg c8]; rfl
def izero (e : Int) : Int × Int × Bool × Bool × Int × Int × Int × Int × Int × List Int × List Int × Int := (0, 0, false, false, 0, 0, 0, 0, 0, [], [], e)
def ihead (l : List Int) : Int := rd l 0 % 16 * 4
def ipOf (l : List Int) : Int × Int × Bool × Bool × Int × Int × Int × Int × Int × List Int × List Int × Int :=
  if (l.length : Int) > 2048 then izero 3
  else if (l.length : Int) < 20 then izero 2
  else if rd l 0 / 16 ≠ 4 ∨ ihead l < 20 then izero 4
  else if (l.length : Int) < ihead l then izero 2
  else if two l 2 < ihead l ∨ Go.bits .and .i64 (two l 6) 32768 ≠ 0 then izero 4
  else if two l 2 > (l.length : Int) then izero 2
  else if sumOf (l.take (ihead l).toNat) ≠ 65535 then izero 5
  else (rd l 1, two l 4, (Go.bits .and .i64 (two l 6) 16384 != 0), (Go.bits .and .i64 (two l 6) 8192 != 0), Go.bits .and .i64 (two l 6) 8191, rd l 8, rd l 9, four l 12, four l 16, (l.take (ihead l).toNat).drop 20, (l.take (two l 2).toNat).drop (ihead l).toNat, 0)
theorem iget2 (l : List Int) (a : Nat) (hb : Bytes l) (h : a + 2 ≤ l.length) : ip_get.f l a 2 = some (two l a) := by
  unfold ip_get.f
  have := two_bound l a hb h
  rw [get2_to l a hb h, Option.bind_some, w64 (by omega) (by omega)]
theorem iget4 (l : List Int) (a : Nat) (hb : Bytes l) (h : a + 4 ≤ l.length) : ip_get.f l a 4 = some (four l a) := by
  unfold ip_get.f
  have := four_bound l a hb h
  rw [get4_to l a hb h, Option.bind_some, w64 (by omega) (by omega)]
theorem u32w2 (x : Int) (h : 0 ≤ x ∧ x < 4294967296) : IntKind.u32.wrap x = x := by rw [IntKind.wrap_u32]; omega
theorem Bytes.take2 {l : List Int} (h : Bytes l) (n : Nat) : Bytes (l.take n) := fun c hc => h c (List.mem_of_mem_take hc)
theorem ipParse_to (l : List Int) (hb : Bytes l) : ip_Parse.f l = some (ipOf l) := by
  unfold ip_Parse.f ipOf ip_Parse.zero
  by_cases h1 : (l.length : Int) > 2048
  · rw [if_pos h1, if_pos h1]; rfl
  by_cases h2 : (l.length : Int) < 20
  · rw [if_neg h1, if_neg h1, if_pos h2, if_pos h2]; rfl
  have b0 := hb.get 0 (by omega)
  have b1 := hb.get 1 (by omega)
  have b8 := hb.get 8 (by omega)
  have b9 := hb.get 9 (by omega)
  rw [show ((0 : Nat) : Int) = 0 from rfl] at b0
  rw [show ((1 : Nat) : Int) = 1 from rfl] at b1
  rw [show ((8 : Nat) : Int) = 8 from rfl] at b8
  rw [show ((9 : Nat) : Int) = 9 from rfl] at b9
  have eh : ihead l = rd l 0 % 16 * 4 := rfl
  rw [if_neg h1, if_neg h1, if_neg h2, if_neg h2, if_neg (Classical.not_not.2 ⟨⟨b0.1, by omega⟩, ⟨b1.1, by omega⟩, ⟨b8.1, by omega⟩, ⟨b9.1, by omega⟩⟩), ← eh]
  by_cases h3 : rd l 0 / 16 ≠ 4
  · rw [if_pos h3, if_pos (.inl h3)]; rfl
  by_cases h4 : ihead l < 20
  · rw [if_neg h3, if_pos h4, if_pos (.inr h4)]; rfl
  rw [if_neg h3, if_neg h4, if_neg (show ¬ (rd l 0 / 16 ≠ 4 ∨ ihead l < 20) by omega)]
  by_cases h5 : (l.length : Int) < ihead l
  · rw [if_pos h5, if_pos h5]; rfl
  have g2 := iget2 l 2 hb (by omega)
  have g6 := iget2 l 6 hb (by omega)
  have g4 := iget2 l 4 hb (by omega)
  have g12 := iget4 l 12 hb (by omega)
  have g16 := iget4 l 16 hb (by omega)
  rw [show ((2 : Nat) : Int) = 2 from rfl] at g2
  rw [show ((6 : Nat) : Int) = 6 from rfl] at g6
  rw [show ((4 : Nat) : Int) = 4 from rfl] at g4
  rw [show ((12 : Nat) : Int) = 12 from rfl] at g12
  rw [show ((16 : Nat) : Int) = 16 from rfl] at g16
  rw [if_neg h5, if_neg h5, g2, Option.bind_some, g6, Option.bind_some]
  by_cases h6 : two l 2 < ihead l
  · rw [if_pos h6, if_pos (.inl h6)]; rfl
  by_cases h7 : Go.bits .and .i64 (two l 6) 32768 ≠ 0
  · rw [if_neg h6, if_pos h7, if_pos (.inr h7)]; rfl
  rw [if_neg h6, if_neg h7, if_neg (show ¬ (two l 2 < ihead l ∨ Go.bits .and .i64 (two l 6) 32768 ≠ 0) from fun h => h.elim h6 h7)]
  by_cases h8 : two l 2 > (l.length : Int)
  · rw [if_pos h8, if_pos h8]; rfl
  rw [if_neg h8, if_neg h8, sum_one _ (hb.take2 _) (by rw [List.length_take]; omega), Option.bind_some]
  by_cases h9 : sumOf (l.take (ihead l).toNat) ≠ 65535
  · rw [if_pos h9, if_pos h9]; rfl
  rw [if_neg h9, if_neg h9, g4, Option.bind_some, g12, Option.bind_some, g16, Option.bind_some, u32w2 _ (four_bound l 12 hb (by omega)), u32w2 _ (four_bound l 16 hb (by omega))]
def pairs (l : List Int) : List Int := l.flatMap fun x => [x / 256 % 256, x % 256]
theorem ulay_loop (l : List Int) (hl : l.length ≤ 1000000) (rem : Nat) : ∀ (k i : Nat) (m : List Int), i + rem = l.length → m.length ≤ 2 * i → rem < k → udp_lay.l0 k m l (l.length : Int) i = some (m ++ pairs (l.drop i)) := by
  induction rem with
  | zero =>
    intro k i m h hm hk
    obtain ⟨k, rfl⟩ : ∃ q, k = q + 1 := ⟨k - 1, by omega⟩
    rw [udp_lay.l0, if_neg (by omega), List.drop_of_length_le (by omega)]
    simp [pairs]
  | succ rem ih =>
    intro k i m h hm hk
    obtain ⟨k, rfl⟩ : ∃ q, k = q + 1 := ⟨k - 1, by omega⟩
    rw [udp_lay.l0, if_pos (by omega), if_pos (by omega), if_pos (by omega), Option.bind_some, if_pos (by simp; omega), show wrap64 ((i : Int) + 1) = ((i + 1 : Nat) : Int) by rw [w64 (by omega) (by omega)]; simp]
    rw [ih k (i + 1) _ (by omega) (by simp; omega) (by omega), drop_rd l i (by omega)]
    simp [pairs]
theorem ulay_to (l : List Int) (hl : l.length ≤ 1000000) (k : Nat) (hk : l.length < k) : udp_lay.f k l = some (pairs l) := by
  unfold udp_lay.f
  have := ulay_loop l hl l.length k 0 [] (by omega) (by simp) hk
  simpa using this
def pseudo (s d p n : Int) : List Int := [s / 16777216 % 256, s / 65536 % 256, s / 256 % 256, s % 256, d / 16777216 % 256, d / 65536 % 256, d / 256 % 256, d % 256, 0, p % 256, n / 256 % 256, n % 256]
theorem pseudo_bytes (s d p n : Int) : Bytes (pseudo s d p n) := by
  intro x hx
  unfold pseudo at hx
  simp only [List.mem_cons, List.not_mem_nil, or_false] at hx
  rcases hx with rfl | rfl | rfl | rfl | rfl | rfl | rfl | rfl | rfl | rfl | rfl | rfl <;> omega
theorem pseudo_to (s d p n : Int) (hs : 0 ≤ s ∧ s < 4294967296) (hd : 0 ≤ d ∧ d < 4294967296) (k : Nat) (hk : 10 ≤ k) : udp_Pseudo.f k s d p n = some (pseudo s d p n) := by
  unfold udp_Pseudo.f
  rw [ulay_to _ (by simp) k (by simp; omega), Option.bind_some, w64 (by omega) (by omega), w64 (by omega) (by omega), w64 (by omega) (by omega), w64 (by omega) (by omega)]
  have e : Go.bits .and .i64 p 255 = p % 256 := by
    have := and_mask .i64 8 (by decide) p
    rw [show ((2 : Int) ^ 8 - 1) = 255 by decide, show ((2 : Int) ^ 8) = 256 by decide] at this
    rw [this, IntKind.wrap_i64]
    omega
  rw [e]
  show some [s / 65536 / 256 % 256, s / 65536 % 256, s / 256 % 256, s % 256, d / 65536 / 256 % 256, d / 65536 % 256, d / 256 % 256, d % 256, p % 256 / 256 % 256, p % 256 % 256, n / 256 % 256, n % 256] = _
  unfold pseudo
  rw [show s / 65536 / 256 % 256 = s / 16777216 % 256 by omega, show d / 65536 / 256 % 256 = d / 16777216 % 256 by omega, show p % 256 / 256 % 256 = 0 by omega, show p % 256 % 256 = p % 256 by omega]
theorem two_flat (a b : List Int) : [a, b].flatten = a ++ b := by simp
/-- Reading. -/
def uParse (s d : Int) (l : List Int) : Int × Int × Bool × List Int × Int :=
  if (l.length : Int) < 8 then (0, 0, false, [], 2)
  else if two l 4 < 8 then (0, 0, false, [], 4)
  else if two l 4 > (l.length : Int) then (0, 0, false, [], 2)
  else if two l 6 = 0 then (two l 0, two l 2, true, (l.take (two l 4).toNat).drop 8, 0)
  else if sumOf (pseudo s d 17 (two l 4) ++ l.take (two l 4).toNat) = 65535 then (two l 0, two l 2, false, (l.take (two l 4).toNat).drop 8, 0)
  else (0, 0, false, [], 5)
theorem rtwo_to (l : List Int) (a : Nat) (hb : Bytes l) (h : a + 2 ≤ l.length) : udp_reader_two.f l a = some (two l a) := by
  unfold udp_reader_two.f
  have := two_bound l a hb h
  rw [get2_to l a hb h, Option.bind_some, w64 (by omega) (by omega)]
theorem Bytes.take {l : List Int} (h : Bytes l) (n : Nat) : Bytes (l.take n) := fun c hc => h c (List.mem_of_mem_take hc)
theorem uParse_to (s d : Int) (l : List Int) (hs : 0 ≤ s ∧ s < 4294967296) (hd : 0 ≤ d ∧ d < 4294967296) (hb : Bytes l) (hl : l.length ≤ 1000000) (k : Nat) (hk : 20 ≤ k) : udp_Parse.f k s d l = some (uParse s d l) := by
  obtain ⟨k, rfl⟩ : ∃ q, k = q + 1 := ⟨k - 1, by omega⟩
  unfold udp_Parse.f uParse
  by_cases h : (l.length : Int) < 8
  · rw [if_pos h, if_pos h]
  have r0 := rtwo_to l 0 hb (by omega)
  have r2 := rtwo_to l 2 hb (by omega)
  have r4 := rtwo_to l 4 hb (by omega)
  have r6 := rtwo_to l 6 hb (by omega)
  have b4 := two_bound l 4 hb (by omega)
  rw [show ((0 : Nat) : Int) = 0 from rfl] at r0
  rw [show ((2 : Nat) : Int) = 2 from rfl] at r2
  rw [show ((4 : Nat) : Int) = 4 from rfl] at r4
  rw [show ((6 : Nat) : Int) = 6 from rfl] at r6
  have tail : 8 ≤ two l 4 → two l 4 ≤ (l.length : Int) → ∀ b c : Bool, b = false → (two l 6 == 0) = c → udp_Parse.j0 (k + 1) l (two l 4) (two l 6) b l = some (two l 0, two l 2, c, (l.take (two l 4).toNat).drop 8, 0) := by
    rintro h8 hn b c rfl rfl
    rw [udp_Parse.j0, if_neg (by decide), r0, Option.bind_some, r2, Option.bind_some, if_pos h8, if_pos hn, if_pos (by simp; omega), List.nil_append]
  rw [if_neg h, if_neg h, r4, Option.bind_some, r6, Option.bind_some]
  by_cases h8 : two l 4 < 8
  · rw [if_pos h8, if_pos h8]
  by_cases hn : two l 4 > (l.length : Int)
  · rw [if_neg h8, if_neg h8, if_pos hn, if_pos hn]
  rw [if_neg h8, if_neg h8, if_neg hn, if_neg hn]
  by_cases h0 : two l 6 = 0
  · rw [if_pos h0, if_pos h0, tail (by omega) (by omega) _ true rfl (beq_iff_eq.2 h0)]
  have hB := (pseudo_bytes s d 17 (two l 4)).append (hb.take (two l 4).toNat)
  rw [if_neg h0, if_neg h0, pseudo_to s d 17 _ hs hd _ (by omega), Option.bind_some, if_pos b4.1, if_pos (by omega),
    sum_to _ (by rw [two_flat]; exact hB) (by rw [two_flat, List.length_append]; simp [pseudo]; omega), two_flat, Option.bind_some]
  by_cases hq : sumOf (pseudo s d 17 (two l 4) ++ l.take (two l 4).toNat) = 65535
  · rw [if_pos hq, tail (by omega) (by omega) _ false (bne_eq_false_iff_eq.2 hq) (beq_eq_false_iff_ne.2 h0)]
  · rw [if_neg hq, udp_Parse.j0, if_pos (bne_iff_ne.2 hq)]
def tSum (s d : Int) (m : List Int) : Int := sumOf (pseudo s d 6 m.length ++ m)
/-- Reading. -/
def tParse (s d : Int) (l : List Int) : Int × Int × Int × Int × Int × Int × Int × List Int × List Int × Int :=
  if (l.length : Int) < 20 then (0, 0, 0, 0, 0, 0, 0, [], [], 2)
  else if rd l 12 / 16 * 4 < 20 ∨ rd l 12 % 16 ≠ 0 then (0, 0, 0, 0, 0, 0, 0, [], [], 4)
  else if rd l 12 / 16 * 4 > (l.length : Int) then (0, 0, 0, 0, 0, 0, 0, [], [], 2)
  else if tSum s d l = 65535 then (two l 0, two l 2, four l 4, four l 8, rd l 13, two l 14, two l 18, (l.take (rd l 12 / 16 * 4).toNat).drop 20, l.drop (rd l 12 / 16 * 4).toNat, 0)
  else (0, 0, 0, 0, 0, 0, 0, [], [], 5)
theorem tget2 (l : List Int) (a : Nat) (hb : Bytes l) (h : a + 2 ≤ l.length) : tcp_get.f l a 2 = some (two l a) := by
  unfold tcp_get.f
  have := two_bound l a hb h
  rw [get2_to l a hb h, Option.bind_some, w64 (by omega) (by omega)]
theorem tget4 (l : List Int) (a : Nat) (hb : Bytes l) (h : a + 4 ≤ l.length) : tcp_get.f l a 4 = some (four l a) := by
  unfold tcp_get.f
  have := four_bound l a hb h
  rw [get4_to l a hb h, Option.bind_some, w64 (by omega) (by omega)]
theorem u32w (x : Int) (h : 0 ≤ x ∧ x < 4294967296) : IntKind.u32.wrap x = x := by rw [IntKind.wrap_u32]; omega
theorem tParse_to (s d : Int) (l : List Int) (hs : 0 ≤ s ∧ s < 4294967296) (hd : 0 ≤ d ∧ d < 4294967296) (hb : Bytes l) (hl : l.length ≤ 1000000) : tcp_Parse.f s d l = some (tParse s d l) := by
  unfold tcp_Parse.f tParse tcp_Parse.zero
  by_cases h : (l.length : Int) < 20
  · rw [if_pos h, if_pos h]
  have b12 := hb.get 12 (by omega)
  have b13 := hb.get 13 (by omega)
  rw [show ((12 : Nat) : Int) = 12 from rfl] at b12
  rw [show ((13 : Nat) : Int) = 13 from rfl] at b13
  rw [if_neg h, if_neg h, if_neg (by omega), if_neg (by omega)]
  by_cases h1 : rd l 12 / 16 * 4 < 20
  · rw [if_pos h1, if_pos (.inl h1)]
  by_cases h2 : rd l 12 % 16 ≠ 0
  · rw [if_neg h1, if_pos h2, if_pos (.inr h2)]
  rw [if_neg h1, if_neg h2, if_neg (show ¬ (rd l 12 / 16 * 4 < 20 ∨ rd l 12 % 16 ≠ 0) by omega)]
  by_cases h3 : rd l 12 / 16 * 4 > (l.length : Int)
  · rw [if_pos h3, if_pos h3]
  have hB := (pseudo_bytes s d 6 (l.length : Int)).append hb
  rw [if_neg h3, if_neg h3, pseudo_to s d 6 _ hs hd 20 (by omega), Option.bind_some, sum_to _ (by rw [two_flat]; exact hB) (by rw [two_flat, List.length_append]; simp [pseudo]; omega), two_flat, Option.bind_some]
  unfold tSum
  by_cases hq : sumOf (pseudo s d 6 (l.length : Int) ++ l) = 65535
  · have g0 := tget2 l 0 hb (by omega)
    have g2 := tget2 l 2 hb (by omega)
    have g4 := tget4 l 4 hb (by omega)
    have g8 := tget4 l 8 hb (by omega)
    have g14 := tget2 l 14 hb (by omega)
    have g18 := tget2 l 18 hb (by omega)
    rw [show ((0 : Nat) : Int) = 0 from rfl] at g0
    rw [show ((2 : Nat) : Int) = 2 from rfl] at g2
    rw [show ((4 : Nat) : Int) = 4 from rfl] at g4
    rw [show ((8 : Nat) : Int) = 8 from rfl] at g8
    rw [show ((14 : Nat) : Int) = 14 from rfl] at g14
    rw [show ((18 : Nat) : Int) = 18 from rfl] at g18
    rw [if_pos hq, if_pos hq, g0, Option.bind_some, g2, Option.bind_some, g4, Option.bind_some, g8, Option.bind_some, g14, Option.bind_some, g18, Option.bind_some, u32w _ (four_bound l 4 hb (by omega)), u32w _ (four_bound l 8 hb (by omega))]
  · rw [if_neg hq, if_neg hq]
def iParse (l : List Int) : Int × Int × Int × List Int × Int := if (l.length : Int) < 8 then (0, 0, 0, [], 2) else (if sumOf l = 65535 then (rd l 0, rd l 1, four l 4, l.drop 8, 0) else (0, 0, 0, [], 5))
theorem iParse_to (l : List Int) (hb : Bytes l) (hl : l.length ≤ 100000) : icmp_Parse.f l = some (iParse l) := by
  unfold icmp_Parse.f iParse
  by_cases h : (l.length : Int) < 8
  · rw [if_pos h, if_pos h]
  rw [if_neg h, if_neg h, sum_one l hb (by omega), Option.bind_some]
  by_cases hs : sumOf l = 65535
  · have g0 := hb.get 0 (by omega)
    have g1 := hb.get 1 (by omega)
    have gf := get4_to l 4 hb (by omega)
    rw [show ((4 : Nat) : Int) = 4 from rfl] at gf
    rw [show ((0 : Nat) : Int) = 0 from rfl] at g0
    rw [show ((1 : Nat) : Int) = 1 from rfl] at g1
    have gb := four_bound l 4 hb (by omega)
    rw [if_pos hs, if_pos hs, gf, Option.bind_some, if_pos (by omega), if_pos (by omega), if_pos (by omega), if_pos (by simp; omega), w64 (by omega) (by omega), w64 (by omega) (by omega)]
    simp only [List.nil_append]
    rw [Int.emod_eq_of_lt gb.1 gb.2]
  · rw [if_neg hs, if_neg hs]
def fwhy (e : Int) : Int := if e = 0 then 0 else if e = 5 then 2 else 1
theorem fwhy_to (e : Int) : frame_why.f e = some (fwhy e) := by
  unfold frame_why.f fwhy
  split
  · rfl
  · split <;> rfl
def ikind (t c : Int) : Int := if t = 8 then (if c = 0 then 3 else 0) else if t = 0 then (if c = 0 then 4 else 0) else if t = 3 then 5 else if t = 11 then 5 else if t = 12 then 5 else 0
theorem ikind_to (t c r : Int) (d : List Int) : icmp_Kind.f t c r d = some (ikind t c) := by
  unfold icmp_Kind.f ikind
  repeat' split
  all_goals rfl
def fword (src dst : Int) (p : Int × Int × Int × List Int × Int) : Int × Int × Int × Int × Int × Int × Int × Int × Int × Int × Int × Int :=
  if p.2.2.2.2 ≠ 0 then (0, 0, 0, 0, 0, 0, 0, 0, 0, 0, 0, fwhy p.2.2.2.2)
  else if ikind p.1 p.2.1 = 0 then (0, 0, 0, 0, 0, 0, 0, 0, 0, 0, 0, 4)
  else if ikind p.1 p.2.1 = 5 then
    (if (fquote p.2.2.2.1).2.2.2.2.2 = false then (5, 0, 0, 0, 0, 0, 0, 0, 0, 0, 0, 1)
     else (5, src, 0, dst, 0, 0, (fquote p.2.2.2.1).1, (fquote p.2.2.2.1).2.1, (fquote p.2.2.2.1).2.2.1, (fquote p.2.2.2.1).2.2.2.1, (fquote p.2.2.2.1).2.2.2.2.1, 0))
  else (ikind p.1 p.2.1, src, wrap64 (p.2.2.1 / 65536), dst, wrap64 (p.2.2.1 / 65536), 0, 0, 0, 0, 0, 0, 0)
def fpart (proto src dst : Int) (l : List Int) : Int × Int × Int × Int × Int × Int × Int × Int × Int × Int × Int × Int :=
  if proto = 17 then (1, src, (uParse src dst l).1, dst, (uParse src dst l).2.1, 0, 0, 0, 0, 0, 0, fwhy (uParse src dst l).2.2.2.2)
  else if proto = 6 then (2, src, (tParse src dst l).1, dst, (tParse src dst l).2.1, (tParse src dst l).2.2.2.2.1, 0, 0, 0, 0, 0, fwhy (tParse src dst l).2.2.2.2.2.2.2.2.2)
  else if proto = 1 then fword src dst (iParse l)
  else (0, 0, 0, 0, 0, 0, 0, 0, 0, 0, 0, 4)
theorem fpart_to (proto src dst : Int) (l : List Int) (hs : 0 ≤ src ∧ src < 4294967296) (hd : 0 ≤ dst ∧ dst < 4294967296) (hb : Bytes l) (hl : l.length ≤ 100000) (k : Nat) (hk : 20 ≤ k) : frame_Read.part k proto src dst l = some (fpart proto src dst l) := by
  unfold frame_Read.part fpart
  by_cases c1 : proto = 17
  · rw [if_pos c1, if_pos c1]
    unfold frame_reader_udp.f
    rw [uParse_to src dst l hs hd hb (by omega) k hk, Option.bind_some, fwhy_to, Option.bind_some]
  rw [if_neg c1, if_neg c1]
  by_cases c2 : proto = 6
  · rw [if_pos c2, if_pos c2]
    unfold frame_reader_tcp.f
    rw [tParse_to src dst l hs hd hb (by omega), Option.bind_some, fwhy_to, Option.bind_some]
  rw [if_neg c2, if_neg c2]
  by_cases c3 : proto = 1
  · rw [if_pos c3, if_pos c3]
    unfold frame_reader_icmp.f
    rw [iParse_to l hb hl, Option.bind_some]
    have hq : Bytes (iParse l).2.2.2.1 := by
      unfold iParse
      split
      · exact fun c hc => by cases hc
      · split
        · exact fun c hc => hb c (List.mem_of_mem_drop hc)
        · exact fun c hc => by cases hc
    revert hq
    generalize iParse l = ip
    intro hq
    obtain ⟨t, c, r, d, e⟩ := ip
    unfold fword
    show (if e ≠ 0 then _ else _) = _
    by_cases d1 : e ≠ 0
    · rw [if_pos d1, if_pos d1, fwhy_to, Option.bind_some]
    rw [if_neg d1, if_neg d1, ikind_to, Option.bind_some]
    show (if ikind t c = 0 then _ else _) = some (if ikind t c = 0 then _ else _)
    by_cases d2 : ikind t c = 0
    · rw [if_pos d2, if_pos d2]
    rw [if_neg d2, if_neg d2]
    by_cases d3 : ikind t c = 5
    · rw [if_pos d3, if_pos d3, fquote_frame d hq, Option.bind_some]
      show _ = some (if (fquote d).2.2.2.2.2 = false then _ else _)
      obtain ⟨i1, i2, i3, i4, i5, ok⟩ := fquote d
      show (if ok = false then _ else _) = some (if ok = false then _ else _)
      split <;> rfl
    · rw [if_neg d3, if_neg d3]
      unfold icmp_Number.f
      rfl
  rw [if_neg c3, if_neg c3]
  rfl
def fzero (y : Int) : Int × Int × Bool × Bool × Int × Int × Int × Int × Int × List Int × List Int × Int × Int × Int × Int × Int × Int × Int × Int × Int × Int × Int × Int := (0, 0, false, false, 0, 0, 0, 0, 0, [], [], 0, 0, 0, 0, 0, 0, 0, 0, 0, 0, 0, y)
def fjoin (p : Int × Int × Bool × Bool × Int × Int × Int × Int × Int × List Int × List Int × Int) (x : Int × Int × Int × Int × Int × Int × Int × Int × Int × Int × Int × Int) : Int × Int × Bool × Bool × Int × Int × Int × Int × Int × List Int × List Int × Int × Int × Int × Int × Int × Int × Int × Int × Int × Int × Int × Int :=
  if x.2.2.2.2.2.2.2.2.2.2.2 ≠ 0 then fzero x.2.2.2.2.2.2.2.2.2.2.2 else (p.1, p.2.1, p.2.2.1, p.2.2.2.1, p.2.2.2.2.1, p.2.2.2.2.2.1, p.2.2.2.2.2.2.1, p.2.2.2.2.2.2.2.1, p.2.2.2.2.2.2.2.2.1, p.2.2.2.2.2.2.2.2.2.1, p.2.2.2.2.2.2.2.2.2.2.1, x)
def fRead (l : List Int) : Int × Int × Bool × Bool × Int × Int × Int × Int × Int × List Int × List Int × Int × Int × Int × Int × Int × Int × Int × Int × Int × Int × Int × Int :=
  if (ipOf l).2.2.2.2.2.2.2.2.2.2.2 ≠ 0 then fzero (fwhy (ipOf l).2.2.2.2.2.2.2.2.2.2.2)
  else if (ipOf l).2.2.2.1 = true then fzero 3
  else if (ipOf l).2.2.2.2.1 ≠ 0 then fzero 3
  else fjoin (ipOf l) (fpart (ipOf l).2.2.2.2.2.2.1 (ipOf l).2.2.2.2.2.2.2.1 (ipOf l).2.2.2.2.2.2.2.2.1 (ipOf l).2.2.2.2.2.2.2.2.2.2.1)
theorem ipOf_good (l : List Int) (h : (ipOf l).2.2.2.2.2.2.2.2.2.2.2 = 0) :
    20 ≤ l.length ∧ l.length ≤ 2048 ∧ rd l 0 / 16 = 4 ∧ 20 ≤ ihead l ∧ ihead l ≤ two l 2 ∧ two l 2 ≤ (l.length : Int) ∧
    ipOf l = (rd l 1, two l 4, (Go.bits .and .i64 (two l 6) 16384 != 0), (Go.bits .and .i64 (two l 6) 8192 != 0), Go.bits .and .i64 (two l 6) 8191, rd l 8, rd l 9, four l 12, four l 16, (l.take (ihead l).toNat).drop 20, (l.take (two l 2).toNat).drop (ihead l).toNat, 0) := by
  unfold ipOf at h ⊢
  by_cases c1 : (l.length : Int) > 2048
  · rw [if_pos c1] at h; exact absurd h (by simp [izero])
  rw [if_neg c1] at h ⊢
  by_cases c2 : (l.length : Int) < 20
  · rw [if_pos c2] at h; exact absurd h (by simp [izero])
  rw [if_neg c2] at h ⊢
  by_cases c3 : rd l 0 / 16 ≠ 4 ∨ ihead l < 20
  · rw [if_pos c3] at h; exact absurd h (by simp [izero])
  rw [if_neg c3] at h ⊢
  by_cases c4 : (l.length : Int) < ihead l
  · rw [if_pos c4] at h; exact absurd h (by simp [izero])
  rw [if_neg c4] at h ⊢
  by_cases c5 : two l 2 < ihead l ∨ Go.bits .and .i64 (two l 6) 32768 ≠ 0
  · rw [if_pos c5] at h; exact absurd h (by simp [izero])
  rw [if_neg c5] at h ⊢
  by_cases c6 : two l 2 > (l.length : Int)
  · rw [if_pos c6] at h; exact absurd h (by simp [izero])
  rw [if_neg c6] at h ⊢
  by_cases c7 : sumOf (l.take (ihead l).toNat) ≠ 65535
  · rw [if_pos c7] at h; exact absurd h (by simp [izero])
  rw [if_neg c7] at h ⊢
  exact ⟨by omega, by omega, by omega, by omega, by omega, by omega, rfl⟩
theorem fRead_to (l : List Int) (hb : Bytes l) (k : Nat) (hk : 20 ≤ k) : frame_Read.f k l = some (fRead l) := by
  unfold frame_Read.f fRead
  rw [ipParse_to l hb, Option.bind_some]
  by_cases c1 : (ipOf l).2.2.2.2.2.2.2.2.2.2.2 ≠ 0
  · rw [if_pos c1]
    revert c1
    generalize ipOf l = ip
    obtain ⟨q0, q1, q2, q3, q4, q5, q6, q7, q8, q9, q10, q11⟩ := ip
    intro c1
    show (if q11 ≠ 0 then _ else _) = _
    rw [if_pos c1, fwhy_to]
    rfl
  obtain ⟨g1, g2, g3, g4, g5, g6, g7⟩ := ipOf_good l (Classical.not_not.1 c1)
  have hs := four_bound l 12 hb (by omega)
  have hd := four_bound l 16 hb (by omega)
  have hbb : Bytes ((l.take (two l 2).toNat).drop (ihead l).toNat) := fun c hc => hb c (List.mem_of_mem_take (List.mem_of_mem_drop hc))
  have hbl : ((l.take (two l 2).toNat).drop (ihead l).toNat).length ≤ 100000 := by rw [List.length_drop, List.length_take]; omega
  have hp := fpart_to (rd l 9) (four l 12) (four l 16) _ hs hd hbb hbl k hk
  rw [if_neg c1, g7]
  show (if (0 : Int) ≠ 0 then _ else _) = _
  rw [if_neg (by decide)]
  show (if (Go.bits .and .i64 (two l 6) 8192 != 0) = true then _ else _) = some (if (Go.bits .and .i64 (two l 6) 8192 != 0) = true then _ else _)
  by_cases c2 : (Go.bits .and .i64 (two l 6) 8192 != 0) = true
  · rw [if_pos c2, if_pos c2]; rfl
  rw [if_neg c2, if_neg c2]
  show (if Go.bits .and .i64 (two l 6) 8191 ≠ 0 then _ else _) = some (if Go.bits .and .i64 (two l 6) 8191 ≠ 0 then _ else _)
  by_cases c3 : Go.bits .and .i64 (two l 6) 8191 ≠ 0
  · rw [if_pos c3, if_pos c3]; rfl
  rw [if_neg c3, if_neg c3, hp, Option.bind_some]
  show _ = some (fjoin _ (fpart (rd l 9) (four l 12) (four l 16) ((l.take (two l 2).toNat).drop (ihead l).toNat)))
  obtain ⟨x11, x12, x13, x14, x15, x16, x17, x18, x19, x20, x21, x22⟩ := fpart (rd l 9) (four l 12) (four l 16) ((l.take (two l 2).toNat).drop (ihead l).toNat)
  unfold fjoin
  show (if x22 ≠ 0 then _ else _) = some (if x22 ≠ 0 then _ else _)
  split <;> rfl
theorem s_take (l : List Int) (m i : Nat) (h : i < m) : rd (l.take m) (i : Int) = rd l (i : Int) := by
  rw [rd_getD, rd_getD, List.getD_eq_getElem?_getD, List.getD_eq_getElem?_getD, List.getElem?_take, if_pos h]
theorem s_body (l : List Int) (n m i : Nat) (h : m + i < n) : rd ((l.take n).drop m) (i : Int) = rd l ((m + i : Nat) : Int) := by
  rw [rd_getD, rd_getD, List.getD_eq_getElem?_getD, List.getD_eq_getElem?_getD, List.getElem?_drop, List.getElem?_take, if_pos h]
theorem s_two (l : List Int) (m a : Nat) (h : a + 2 ≤ m) : two (l.take m) a = two l a := by
  unfold two
  rw [s_take l m a (by omega), s_take l m (a + 1) (by omega)]
theorem s_four (l : List Int) (m a : Nat) (h : a + 4 ≤ m) : four (l.take m) a = four l a := by
  unfold four
  rw [s_take l m a (by omega), s_take l m (a + 1) (by omega), s_take l m (a + 2) (by omega), s_take l m (a + 3) (by omega)]
theorem s_two_body (l : List Int) (n m a : Nat) (h : m + a + 2 ≤ n) : two ((l.take n).drop m) a = two l (m + a) := by
  unfold two
  rw [s_body l n m a (by omega), s_body l n m (a + 1) (by omega), Nat.add_assoc]
theorem fwhy_zero {e : Int} (h : fwhy e = 0) : e = 0 := by
  unfold fwhy at h
  split at h
  · assumption
  · split at h <;> exact absurd h (by decide)
theorem fjoin_good (p) (x : Int × Int × Int × Int × Int × Int × Int × Int × Int × Int × Int × Int) (h : (fjoin p x).2.2.2.2.2.2.2.2.2.2.2.2.2.2.2.2.2.2.2.2.2.2 = 0) : x.2.2.2.2.2.2.2.2.2.2.2 = 0 ∧ fjoin p x = (p.1, p.2.1, p.2.2.1, p.2.2.2.1, p.2.2.2.2.1, p.2.2.2.2.2.1, p.2.2.2.2.2.2.1, p.2.2.2.2.2.2.2.1, p.2.2.2.2.2.2.2.2.1, p.2.2.2.2.2.2.2.2.2.1, p.2.2.2.2.2.2.2.2.2.2.1, x) := by
  unfold fjoin at h ⊢
  by_cases c : x.2.2.2.2.2.2.2.2.2.2.2 ≠ 0
  · rw [if_pos c] at h
    exact absurd h c
  · rw [if_neg c]
    exact ⟨Classical.not_not.1 c, rfl⟩
def fbody (l : List Int) : List Int := (l.take (two l 2).toNat).drop (ihead l).toNat
theorem fRead_good (l : List Int) (hb : Bytes l) (h : (fRead l).2.2.2.2.2.2.2.2.2.2.2.2.2.2.2.2.2.2.2.2.2.2 = 0) :
    (20 ≤ l.length ∧ l.length ≤ 2048 ∧ rd l 0 / 16 = 4 ∧ 20 ≤ ihead l ∧ ihead l ≤ two l 2 ∧ two l 2 ≤ (l.length : Int)) ∧ two l 6 % 8192 = 0 ∧ (Go.bits .and .i64 (two l 6) 8192 != 0) = false ∧
    (fpart (rd l 9) (four l 12) (four l 16) (fbody l)).2.2.2.2.2.2.2.2.2.2.2 = 0 ∧
    fRead l = (rd l 1, two l 4, (Go.bits .and .i64 (two l 6) 16384 != 0), false, 0, rd l 8, rd l 9, four l 12, four l 16, (l.take (ihead l).toNat).drop 20, fbody l, fpart (rd l 9) (four l 12) (four l 16) (fbody l)) := by
  unfold fRead at h ⊢
  by_cases c1 : (ipOf l).2.2.2.2.2.2.2.2.2.2.2 ≠ 0
  · rw [if_pos c1] at h
    exact absurd (fwhy_zero h) c1
  obtain ⟨g1, g2, g3, g4, g5, g6, g7⟩ := ipOf_good l (Classical.not_not.1 c1)
  have t6 := two_bound l 6 hb (by omega)
  rw [if_neg c1, g7] at h
  rw [if_neg c1, g7]
  by_cases c2 : (Go.bits .and .i64 (two l 6) 8192 != 0) = true
  · rw [if_pos c2] at h
    exact absurd h (by show ¬ ((3 : Int) = 0); decide)
  rw [if_neg c2] at h ⊢
  by_cases c3 : Go.bits .and .i64 (two l 6) 8191 ≠ 0
  · rw [if_pos c3] at h
    exact absurd h (by show ¬ ((3 : Int) = 0); decide)
  rw [if_neg c3] at h ⊢
  have c3' := Classical.not_not.1 c3
  obtain ⟨e1, e2⟩ := fjoin_good _ _ h
  refine ⟨⟨g1, g2, g3, g4, g5, g6⟩, by rw [← q_and8191 _ t6.1 t6.2]; exact c3', by simpa using c2, e1, ?_⟩
  rw [e2]
  show (rd l 1, two l 4, _, (Go.bits .and .i64 (two l 6) 8192 != 0), Go.bits .and .i64 (two l 6) 8191, _) = _
  rw [c3', show (Go.bits .and .i64 (two l 6) 8192 != 0) = false by simpa using c2]
  rfl
theorem uParse_good (s d : Int) (l : List Int) (h : (uParse s d l).2.2.2.2 = 0) : 8 ≤ l.length ∧ (uParse s d l).1 = two l 0 ∧ (uParse s d l).2.1 = two l 2 := by
  unfold uParse at h ⊢
  by_cases c1 : (l.length : Int) < 8
  · rw [if_pos c1] at h; exact absurd h (by show ¬ ((2 : Int) = 0); decide)
  rw [if_neg c1] at h ⊢
  by_cases c2 : two l 4 < 8
  · rw [if_pos c2] at h; exact absurd h (by show ¬ ((4 : Int) = 0); decide)
  rw [if_neg c2] at h ⊢
  by_cases c3 : two l 4 > (l.length : Int)
  · rw [if_pos c3] at h; exact absurd h (by show ¬ ((2 : Int) = 0); decide)
  rw [if_neg c3] at h ⊢
  by_cases c4 : two l 6 = 0
  · rw [if_pos c4]; exact ⟨by omega, rfl, rfl⟩
  rw [if_neg c4] at h ⊢
  by_cases c5 : sumOf (pseudo s d 17 (two l 4) ++ l.take (two l 4).toNat) = 65535
  · rw [if_pos c5]; exact ⟨by omega, rfl, rfl⟩
  · rw [if_neg c5] at h; exact absurd h (by show ¬ ((5 : Int) = 0); decide)
theorem tParse_good (s d : Int) (l : List Int) (h : (tParse s d l).2.2.2.2.2.2.2.2.2 = 0) : 8 ≤ l.length ∧ (tParse s d l).1 = two l 0 ∧ (tParse s d l).2.1 = two l 2 := by
  unfold tParse at h ⊢
  by_cases c1 : (l.length : Int) < 20
  · rw [if_pos c1] at h; exact absurd h (by show ¬ ((2 : Int) = 0); decide)
  rw [if_neg c1] at h ⊢
  by_cases c2 : rd l 12 / 16 * 4 < 20 ∨ rd l 12 % 16 ≠ 0
  · rw [if_pos c2] at h; exact absurd h (by show ¬ ((4 : Int) = 0); decide)
  rw [if_neg c2] at h ⊢
  by_cases c3 : rd l 12 / 16 * 4 > (l.length : Int)
  · rw [if_pos c3] at h; exact absurd h (by show ¬ ((2 : Int) = 0); decide)
  rw [if_neg c3] at h ⊢
  by_cases c4 : tSum s d l = 65535
  · rw [if_pos c4]; exact ⟨by omega, rfl, rfl⟩
  · rw [if_neg c4] at h; exact absurd h (by show ¬ ((5 : Int) = 0); decide)
theorem iParse_good (l : List Int) (h : (iParse l).2.2.2.2 = 0) : 8 ≤ l.length ∧ iParse l = (rd l 0, rd l 1, four l 4, l.drop 8, 0) := by
  unfold iParse at h ⊢
  by_cases c1 : (l.length : Int) < 8
  · rw [if_pos c1] at h; exact absurd h (by show ¬ ((2 : Int) = 0); decide)
  rw [if_neg c1] at h ⊢
  by_cases c2 : sumOf l = 65535
  · rw [if_pos c2] at h ⊢; exact ⟨by omega, rfl⟩
  · rw [if_neg c2] at h; exact absurd h (by show ¬ ((5 : Int) = 0); decide)
theorem ikind_cases (t c : Int) : (ikind t c = 0) ∨ (ikind t c = 3 ∧ t = 8 ∧ c = 0) ∨ (ikind t c = 4 ∧ t = 0 ∧ c = 0) ∨ ikind t c = 5 := by
  unfold ikind
  repeat' split
  all_goals simp_all
/-- What a frame that is no fault's says of its ends, by its bytes. -/
theorem fpart_good (p s d : Int) (b : List Int) (hb : Bytes b) (h : (fpart p s d b).2.2.2.2.2.2.2.2.2.2.2 = 0) (h5 : (fpart p s d b).1 ≠ 5) :
    8 ≤ b.length ∧ (fpart p s d b).2.1 = s ∧ (fpart p s d b).2.2.2.1 = d ∧ frame_Proto.f (fpart p s d b).1 = some p ∧
    (((p = 17 ∨ p = 6) ∧ (fpart p s d b).2.2.1 = two b 0 ∧ (fpart p s d b).2.2.2.2.1 = two b 2) ∨ (p = 1 ∧ (rd b 0 = 8 ∨ rd b 0 = 0) ∧ rd b 1 = 0 ∧ (fpart p s d b).2.2.1 = two b 4 ∧ (fpart p s d b).2.2.2.2.1 = two b 4)) := by
  unfold fpart at h h5 ⊢
  by_cases c1 : p = 17
  · rw [if_pos c1] at h h5 ⊢
    obtain ⟨g1, g2, g3⟩ := uParse_good s d b (fwhy_zero h)
    exact ⟨g1, rfl, rfl, by rw [c1]; rfl, .inl ⟨.inl c1, g2, g3⟩⟩
  rw [if_neg c1] at h h5 ⊢
  by_cases c2 : p = 6
  · rw [if_pos c2] at h h5 ⊢
    obtain ⟨g1, g2, g3⟩ := tParse_good s d b (fwhy_zero h)
    exact ⟨g1, rfl, rfl, by rw [c2]; rfl, .inl ⟨.inr c2, g2, g3⟩⟩
  rw [if_neg c2] at h h5 ⊢
  by_cases c3 : p = 1
  case neg => rw [if_neg c3] at h; exact absurd h (by show ¬ ((4 : Int) = 0); decide)
  rw [if_pos c3] at h h5 ⊢
  unfold fword at h h5 ⊢
  by_cases d1 : (iParse b).2.2.2.2 ≠ 0
  · rw [if_pos d1] at h
    exact absurd (fwhy_zero h) d1
  obtain ⟨g1, g2⟩ := iParse_good b (Classical.not_not.1 d1)
  rw [if_neg d1, g2] at h h5
  rw [if_neg d1, g2]
  show 8 ≤ b.length ∧ _
  rcases ikind_cases (rd b 0) (rd b 1) with k | ⟨k, k1, k2⟩ | ⟨k, k1, k2⟩ | k
  · rw [if_pos k] at h; exact absurd h (by show ¬ ((4 : Int) = 0); decide)
  · have e4 : wrap64 (four b 4 / 65536) = two b 4 := by
      have := four_bound b 4 hb (by omega)
      have h0 := hb.get 4 (by omega)
      have h1 := hb.get (4 + 1) (by omega)
      have h2 := hb.get (4 + 2) (by omega)
      have h3 := hb.get (4 + 3) (by omega)
      rw [w64 (by omega) (by omega)]
      unfold four two
      omega
    rw [if_neg (show ¬ (ikind (rd b 0) (rd b 1) = 0) by rw [k]; decide), if_neg (show ¬ (ikind (rd b 0) (rd b 1) = 5) by rw [k]; decide)]
    refine ⟨g1, rfl, rfl, ?_, .inr ⟨c3, .inl k1, k2, e4, e4⟩⟩
    show frame_Proto.f (ikind (rd b 0) (rd b 1)) = some p
    rw [k, c3]; rfl
  · have e4 : wrap64 (four b 4 / 65536) = two b 4 := by
      have := four_bound b 4 hb (by omega)
      have h0 := hb.get 4 (by omega)
      have h1 := hb.get (4 + 1) (by omega)
      have h2 := hb.get (4 + 2) (by omega)
      have h3 := hb.get (4 + 3) (by omega)
      rw [w64 (by omega) (by omega)]
      unfold four two
      omega
    rw [if_neg (show ¬ (ikind (rd b 0) (rd b 1) = 0) by rw [k]; decide), if_neg (show ¬ (ikind (rd b 0) (rd b 1) = 5) by rw [k]; decide)]
    refine ⟨g1, rfl, rfl, ?_, .inr ⟨c3, .inr k1, k2, e4, e4⟩⟩
    show frame_Proto.f (ikind (rd b 0) (rd b 1)) = some p
    rw [k, c3]; rfl
  · rw [if_neg (show ¬ (ikind (rd b 0) (rd b 1) = 0) by rw [k]; decide), if_pos k] at h5
    have : ∀ q : Bool, q = false → True := fun _ _ => trivial
    split at h5 <;> exact absurd rfl h5
/-- The first bytes of such a frame quote its ends; one byte less does not. -/
theorem short_good (l : List Int) (hb : Bytes l) (h : (fRead l).2.2.2.2.2.2.2.2.2.2.2.2.2.2.2.2.2.2.2.2.2.2 = 0) (h5 : (fRead l).2.2.2.2.2.2.2.2.2.2.2.1 ≠ 5) :
    20 ≤ ihead l ∧ ihead l ≤ 60 ∧ ihead l + 8 ≤ (l.length : Int) ∧ ((fRead l).2.2.2.2.2.2.2.2.2.1.length : Int) = ihead l - 20 ∧ frame_Proto.f (fRead l).2.2.2.2.2.2.2.2.2.2.2.1 = some (fRead l).2.2.2.2.2.2.1 ∧
    (∀ n : Nat, ihead l + 8 ≤ (n : Int) → n ≤ l.length → fquote (l.take n) = ((fRead l).2.2.2.2.2.2.1, (fRead l).2.2.2.2.2.2.2.2.2.2.2.2.1, (fRead l).2.2.2.2.2.2.2.2.2.2.2.2.2.1, (fRead l).2.2.2.2.2.2.2.2.2.2.2.2.2.2.1, (fRead l).2.2.2.2.2.2.2.2.2.2.2.2.2.2.2.1, true)) ∧
    (∀ n : Nat, (n : Int) < ihead l + 8 → n ≤ l.length → fquote (l.take n) = fno) := by
  obtain ⟨⟨g1, g2, g3, g4, g5, g6⟩, g7, g8, g9, g10⟩ := fRead_good l hb h
  rw [g10] at h5
  have hbb : Bytes (fbody l) := fun c hc => hb c (List.mem_of_mem_take (List.mem_of_mem_drop hc))
  obtain ⟨k1, k2, k3, k4, k5⟩ := fpart_good _ _ _ _ hbb g9 h5
  have hbl : (fbody l).length = (two l 2).toNat - (ihead l).toNat := by unfold fbody; rw [List.length_drop, List.length_take]; omega
  have h60 : ihead l ≤ 60 := by unfold ihead; omega
  obtain ⟨hd, hhd⟩ : ∃ n : Nat, ihead l = (n : Int) := ⟨(ihead l).toNat, by omega⟩
  obtain ⟨tt, htt⟩ : ∃ n : Nat, two l 2 = (n : Int) := ⟨(two l 2).toNat, by omega⟩
  have hfh : ∀ n : Nat, 1 ≤ n → fhead (l.take n) = hd := by
    intro n hn
    unfold fhead
    rw [show rd (l.take n) 0 = rd l 0 from s_take l n 0 (by omega)]
    have : rd l 0 % 16 * 4 = (hd : Int) := hhd
    omega
  have hhm : rd l 0 % 16 * 4 = (hd : Int) := hhd
  rw [hhd] at g4 g5 h60 ⊢
  rw [htt] at g5 g6
  rw [hhd, htt] at hbl
  refine ⟨g4, h60, by omega, ?_, ?_, ?_, ?_⟩
  · rw [g10]
    show (((l.take (ihead l).toNat).drop 20).length : Int) = _
    rw [List.length_drop, List.length_take, hhd]
    omega
  · rw [g10]; exact k4
  · intro n hn hnl
    have hlen : (l.take n).length = n := by rw [List.length_take]; omega
    unfold fquote
    rw [hlen, hfh n (by omega), show rd (l.take n) 0 = rd l 0 from s_take l n 0 (by omega), show rd (l.take n) 9 = rd l 9 from s_take l n 9 (by omega), s_two l n 6 (by omega), s_four l n 12 (by omega), s_four l n 16 (by omega), s_two l n hd (by omega), s_two l n (hd + 2) (by omega), s_two l n (hd + 4) (by omega), s_take l n hd (by omega), s_take l n (hd + 1) (by omega)]
    rw [if_neg (by omega), if_neg (by omega), if_neg (by omega), if_neg (by omega), if_neg (by omega), g10]
    have b0 : two (fbody l) 0 = two l hd := by unfold fbody; rw [hhd, htt]; exact s_two_body l tt hd 0 (by omega)
    have b2 : two (fbody l) 2 = two l (hd + 2) := by unfold fbody; rw [hhd, htt]; exact s_two_body l tt hd 2 (by omega)
    have b4 : two (fbody l) 4 = two l (hd + 4) := by unfold fbody; rw [hhd, htt]; exact s_two_body l tt hd 4 (by omega)
    have r0 : rd (fbody l) 0 = rd l (hd : Nat) := by unfold fbody; rw [hhd, htt]; exact s_body l tt hd 0 (by omega)
    have r1 : rd (fbody l) 1 = rd l (hd + 1 : Nat) := by unfold fbody; rw [hhd, htt]; exact s_body l tt hd 1 (by omega)
    show _ = (rd l 9, (fpart (rd l 9) (four l 12) (four l 16) (fbody l)).2.1, (fpart (rd l 9) (four l 12) (four l 16) (fbody l)).2.2.1, (fpart (rd l 9) (four l 12) (four l 16) (fbody l)).2.2.2.1, (fpart (rd l 9) (four l 12) (four l 16) (fbody l)).2.2.2.2.1, true)
    rw [k2, k3]
    rcases k5 with ⟨e1, e2, e3⟩ | ⟨e1, e2, e3, e4, e5⟩
    · rw [if_pos e1, e2, e3, b0, b2]
    · rw [if_neg (by omega), if_pos e1, if_neg (by rw [r0] at e2; rw [r1] at e3; omega), e4, e5, b4]
  · intro n hn hnl
    have hlen : (l.take n).length = n := by rw [List.length_take]; omega
    unfold fquote
    rw [hlen]
    by_cases c1 : (n : Int) < 20
    · rw [if_pos c1]
    rw [if_neg c1, hfh n (by omega), show rd (l.take n) 0 = rd l 0 from s_take l n 0 (by omega), if_neg (by omega), if_neg (by omega), if_pos (by omega)]
theorem or_comm64 (x y : Int) : Go.bits .or .i64 x y = Go.bits .or .i64 y x := by
  simp only [Go.bits]
  rw [BitVec.or_comm]
theorem or_join64 (i : Nat) (x y : Int) (hx0 : 0 ≤ x) (hx : x < 4294967296) (hm : x % 2 ^ i = 0) (hi : i < 32) (hy0 : 0 ≤ y) (hy : y < 2 ^ i) (hs : x + y < 4294967296) : Go.bits .or .i64 x y = x + y :=
  bits_join .i64 63 (by decide) (fun n h0 h1 => by rw [IntKind.wrap_i64]; omega) i x y hx0 hm (by omega) hy0 hy (by omega)
/-- The header's first byte. -/
theorem first_to (n : Nat) (h : n ≤ 40) : Go.bits .or .i64 64 (wrap64 ((20 + (n : Int)).tdiv 4)) = 64 + (20 + (n : Int)) / 4 := by
  rw [Int.tdiv_eq_ediv_of_nonneg (by omega), w64 (by omega) (by omega)]
  exact or_join64 4 64 _ (by decide) (by decide) (by decide) (by decide) (by omega) (by omega) (by omega)
def ipart (df mf : Bool) (off : Int) : Int := off + (if df = true then 16384 else 0) + (if mf = true then 8192 else 0)
theorem part_to' (df mf : Bool) (off : Int) (h0 : 0 ≤ off) (h1 : off ≤ 8191) : ip_Build.part df mf off = ipart df mf off := by
  unfold ip_Build.part ipart
  have e1 : Go.bits .or .i64 off 16384 = 16384 + off := by rw [or_comm64]; exact or_join64 14 16384 off (by decide) (by decide) (by decide) (by decide) h0 (by omega) (by omega)
  have e2 : Go.bits .or .i64 off 8192 = 8192 + off := by rw [or_comm64]; exact or_join64 13 8192 off (by decide) (by decide) (by decide) (by decide) h0 (by omega) (by omega)
  have e3 : Go.bits .or .i64 (16384 + off) 8192 = 24576 + off := by
    have a1 := or_join64 14 16384 (8192 + off) (by decide) (by decide) (by decide) (by decide) (by omega) (by omega) (by omega)
    have : Go.bits .or .i64 (Go.bits .or .i64 16384 off) 8192 = Go.bits .or .i64 16384 (Go.bits .or .i64 8192 off) := by
      rw [or_join64 14 16384 off (by decide) (by decide) (by decide) (by decide) h0 (by omega) (by omega)]
      have q : (16384 + off) = Go.bits .or .i64 16384 off := (or_join64 14 16384 off (by decide) (by decide) (by decide) (by decide) h0 (by omega) (by omega)).symm
      obtain ⟨n, rfl⟩ := Int.eq_ofNat_of_zero_le h0
      have hn : n < 8192 := by omega
      have hh1 : (16384 : Nat) ||| n = 16384 + n := by
        have := Nat.two_pow_add_eq_or_of_lt (i := 14) (b := n) (by omega) 1
        simpa using this.symm
      have hh2 : (8192 : Nat) ||| n = 8192 + n := by
        have := Nat.two_pow_add_eq_or_of_lt (i := 13) (b := n) (by omega) 1
        simpa using this.symm
      have e5 : Go.bits .or .i64 8192 (n : Int) = ((8192 + n : Nat) : Int) := by rw [or_join64 13 8192 n (by decide) (by decide) (by decide) (by decide) (by omega) (by omega) (by omega)]; simp
      rw [e5, show ((16384 : Int) + (n : Int)) = ((16384 + n : Nat) : Int) by simp, or_comm64, show ((16384 + n : Nat) : Int) = ((8192 + n + 8192 : Nat) : Int) by omega]
      have a2 := or_join64 14 16384 ((8192 + n : Nat) : Int) (by decide) (by decide) (by decide) (by decide) (by omega) (by omega) (by omega)
      rw [a2]
      have a3 : (8192 : Nat) ||| (8192 + n + 8192) = 24576 + n := by
        rw [show 8192 + n + 8192 = 16384 + n by omega, ← hh1, Nat.or_comm 16384 n, ← Nat.or_assoc, hh2, Nat.or_comm]
        have := Nat.two_pow_add_eq_or_of_lt (i := 14) (b := 8192 + n) (by omega) 1
        simp at this
        omega
      have a4 : Go.bits .or .i64 8192 ((8192 + n + 8192 : Nat) : Int) = ((8192 ||| (8192 + n + 8192) : Nat) : Int) := by
        simp only [Go.bits, BitVec.toNat_or, BitVec.ofInt_natCast, show (8192 : Int) = ((8192 : Nat) : Int) from rfl, BitVec.toNat_ofNat]
        rw [Nat.mod_eq_of_lt (show 8192 < 2 ^ IntKind.i64.bits by decide), Nat.mod_eq_of_lt (show 8192 + n + 8192 < 2 ^ IntKind.i64.bits by simp [IntKind.bits]; omega), a3, IntKind.wrap_i64]
        omega
      rw [a4, a3]
      omega
    rw [or_join64 14 16384 off (by decide) (by decide) (by decide) (by decide) h0 (by omega) (by omega), or_join64 13 8192 off (by decide) (by decide) (by decide) (by decide) h0 (by omega) (by omega), a1] at this
    rw [this]
    omega
  cases df <;> cases mf <;> simp only [if_true, if_false, Bool.false_eq_true] <;> (try rw [e1]) <;> (try rw [e2]) <;> (try rw [e3]) <;> omega
theorem inW_to (x : Int) (n : Nat) (hn : n ≤ 16) (hx : x ≤ 9223372036854775807) : ip_Build.inW x n = decide (0 ≤ x ∧ x < 2 ^ n) := by
  unfold ip_Build.inW
  have hpos : (0 : Int) < 2 ^ n := Int.pow_pos (by decide)
  by_cases h : x ≥ 0
  · rw [if_pos h]
    have e : shr .i64 x (n : Int) = x / 2 ^ n := by
      unfold shr
      congr 2
      show min ((n : Int)).toNat 64 = n
      omega
    rw [e, Bool.eq_iff_iff]
    simp only [beq_iff_eq, decide_eq_true_eq]
    constructor
    · intro h2
      refine ⟨h, ?_⟩
      rcases Int.lt_or_le x (2 ^ n) with h3 | h3
      · exact h3
      · have := Int.le_ediv_of_mul_le hpos (show 1 * 2 ^ n ≤ x by omega)
        omega
    · intro h2
      exact Int.ediv_eq_zero_of_lt h2.1 h2.2
  · rw [if_neg h, eq_comm, decide_eq_false]
    omega
/-- The twenty bytes of a header, its check c laid in. -/
def iHead (tos id fl ttl proto src dst n tot c : Int) : List Int := [(64 + (20 + n) / 4) % 256, tos % 256, tot / 256 % 256, tot % 256, id / 256 % 256, id % 256, fl / 256 % 256, fl % 256, ttl % 256, proto % 256, c / 256 % 256, c % 256, src / 16777216 % 256, src / 65536 % 256, src / 256 % 256, src % 256, dst / 16777216 % 256, dst / 65536 % 256, dst / 256 % 256, dst % 256]
theorem iHead_len (tos id fl ttl proto src dst n tot c : Int) : (iHead tos id fl ttl proto src dst n tot c).length = 20 := rfl
theorem iHead_bytes (tos id fl ttl proto src dst n tot c : Int) : Bytes (iHead tos id fl ttl proto src dst n tot c) := by
  intro x hx
  unfold iHead at hx
  simp only [List.mem_cons, List.not_mem_nil, or_false] at hx
  rcases hx with rfl | rfl | rfl | rfl | rfl | rfl | rfl | rfl | rfl | rfl | rfl | rfl | rfl | rfl | rfl | rfl | rfl | rfl | rfl | rfl <;> omega
def ihd (tos id : Int) (df mf : Bool) (off ttl proto src dst c : Int) (opts body : List Int) : List Int := iHead tos id (ipart df mf off) ttl proto src dst opts.length (20 + opts.length + body.length) c ++ opts
theorem ihd_len (tos id : Int) (df mf : Bool) (off ttl proto src dst c : Int) (opts body : List Int) : (ihd tos id df mf off ttl proto src dst c opts body).length = 20 + opts.length := by
  unfold ihd
  rw [List.length_append, iHead_len]
theorem ihd_bytes (tos id : Int) (df mf : Bool) (off ttl proto src dst c : Int) (opts body : List Int) (ho : Bytes opts) : Bytes (ihd tos id df mf off ttl proto src dst c opts body) := Bytes.append (iHead_bytes _ _ _ _ _ _ _ _ _ _) ho
def icheck (tos id : Int) (df mf : Bool) (off ttl proto src dst : Int) (opts body : List Int) : Int := 65535 - sumOf (ihd tos id df mf off ttl proto src dst 0 opts body)
theorem icheck_bound (tos id : Int) (df mf : Bool) (off ttl proto src dst : Int) (opts body : List Int) : 0 ≤ icheck tos id df mf off ttl proto src dst opts body ∧ icheck tos id df mf off ttl proto src dst opts body ≤ 65535 := by
  have := sumOf_bound (ihd tos id df mf off ttl proto src dst 0 opts body)
  unfold icheck
  omega
def ibytes (tos id : Int) (df mf : Bool) (off ttl proto src dst : Int) (opts body : List Int) : List Int := ihd tos id df mf off ttl proto src dst (icheck tos id df mf off ttl proto src dst opts body) opts body ++ body
theorem ibytes_len (tos id : Int) (df mf : Bool) (off ttl proto src dst : Int) (opts body : List Int) : (ibytes tos id df mf off ttl proto src dst opts body).length = 20 + opts.length + body.length := by
  unfold ibytes
  rw [List.length_append, ihd_len]
def iok (tos id off ttl proto : Int) (opts : List Int) : Prop := (0 ≤ tos ∧ tos < 256) ∧ (0 ≤ ttl ∧ ttl < 256) ∧ (0 ≤ proto ∧ proto < 256) ∧ (0 ≤ id ∧ id < 65536) ∧ (0 ≤ off ∧ off < 8192) ∧ opts.length ≤ 40 ∧ opts.length % 4 = 0
instance (tos id off ttl proto : Int) (opts : List Int) : Decidable (iok tos id off ttl proto opts) := by unfold iok; infer_instance
def ibuild (tos id : Int) (df mf : Bool) (off ttl proto src dst : Int) (opts body : List Int) : List Int × Int := if iok tos id off ttl proto opts then (if (body.length : Int) > 2028 - (opts.length : Int) then ([], 3) else (ibytes tos id df mf off ttl proto src dst opts body, 0)) else ([], 1)
theorem iput1 (l : List Int) (a : Nat) (x : Int) (hl : l.length ≤ 1000) (h : a + 1 ≤ l.length) : ip_Build.put l a 1 x = some (l.set a (x % 256)) := by
  unfold ip_Build.put ip_put.f
  have e0 : wrap64 ((1 : Int) - 1) = 0 := by unfold wrap64; omega
  have e1 : wrap64 ((a : Int) + 0) = (a : Int) := by rw [w64 (by omega) (by omega)]; omega
  have e2 : wrap64 ((0 : Int) - 1) = -1 := by unfold wrap64; omega
  rw [e0, ip_put.l0, if_pos (by decide), e1, if_pos (by omega), if_pos (by omega), e2, ip_put.l0, if_neg (by decide), Int.toNat_natCast]
theorem iput2 (l : List Int) (a : Nat) (x : Int) (hl : l.length ≤ 1000) (h : a + 2 ≤ l.length) : ip_Build.put l a 2 x = some ((l.set (a + 1) (x % 256)).set a (x / 256 % 256)) := by
  unfold ip_Build.put ip_put.f
  have e0 : wrap64 ((2 : Int) - 1) = 1 := by unfold wrap64; omega
  have e1 : wrap64 ((a : Int) + 1) = ((a + 1 : Nat) : Int) := by rw [w64 (by omega) (by omega)]; omega
  have e2 : wrap64 ((1 : Int) - 1) = 0 := by unfold wrap64; omega
  have e3 : wrap64 ((a : Int) + 0) = (a : Int) := by rw [w64 (by omega) (by omega)]; omega
  have e4 : wrap64 ((0 : Int) - 1) = -1 := by unfold wrap64; omega
  rw [e0, ip_put.l0, if_pos (by decide), e1, if_pos (by omega), if_pos (by omega), e2, ip_put.l0, if_pos (by decide), e3, if_pos (by omega), if_pos (by rw [List.length_set]; omega), e4, ip_put.l0, if_neg (by decide), Int.toNat_natCast, Int.toNat_natCast]
theorem iput4 (l : List Int) (a : Nat) (x : Int) (hl : l.length ≤ 1000) (h : a + 4 ≤ l.length) : ip_Build.put l a 4 x = some ((((l.set (a + 3) (x % 256)).set (a + 2) (x / 256 % 256)).set (a + 1) (x / 65536 % 256)).set a (x / 16777216 % 256)) := by
  unfold ip_Build.put ip_put.f
  have e0 : wrap64 ((4 : Int) - 1) = 3 := by unfold wrap64; omega
  have e1 : wrap64 ((a : Int) + 3) = ((a + 3 : Nat) : Int) := by rw [w64 (by omega) (by omega)]; omega
  have e2 : wrap64 ((3 : Int) - 1) = 2 := by unfold wrap64; omega
  have e3 : wrap64 ((a : Int) + 2) = ((a + 2 : Nat) : Int) := by rw [w64 (by omega) (by omega)]; omega
  have e4 : wrap64 ((2 : Int) - 1) = 1 := by unfold wrap64; omega
  have e5 : wrap64 ((a : Int) + 1) = ((a + 1 : Nat) : Int) := by rw [w64 (by omega) (by omega)]; omega
  have e6 : wrap64 ((1 : Int) - 1) = 0 := by unfold wrap64; omega
  have e7 : wrap64 ((a : Int) + 0) = (a : Int) := by rw [w64 (by omega) (by omega)]; omega
  have e8 : wrap64 ((0 : Int) - 1) = -1 := by unfold wrap64; omega
  rw [e0, ip_put.l0, if_pos (by decide), e1, if_pos (by omega), if_pos (by omega), e2, ip_put.l0, if_pos (by decide), e3, if_pos (by omega), if_pos (by rw [List.length_set]; omega), e4, ip_put.l0, if_pos (by decide), e5, if_pos (by omega), if_pos (by rw [List.length_set, List.length_set]; omega), e6, ip_put.l0, if_pos (by decide), e7, if_pos (by omega), if_pos (by rw [List.length_set, List.length_set, List.length_set]; omega), e8, ip_put.l0, if_neg (by decide), Int.toNat_natCast, Int.toNat_natCast, Int.toNat_natCast, Int.toNat_natCast]
  rw [show x / 256 / 256 % 256 = x / 65536 % 256 by omega, show x / 256 / 256 / 256 % 256 = x / 16777216 % 256 by omega]
theorem ihd_set (tos id : Int) (df mf : Bool) (off ttl proto src dst c : Int) (opts body : List Int) : ((ihd tos id df mf off ttl proto src dst 0 opts body).set 11 (c % 256)).set 10 (c / 256 % 256) = ihd tos id df mf off ttl proto src dst c opts body := rfl
set_option maxHeartbeats 4000000 in
theorem ibuild_to (tos id : Int) (df mf : Bool) (off ttl proto src dst : Int) (opts body : List Int) (ht : tos ≤ 9223372036854775807) (hi : id ≤ 9223372036854775807) (hof : off ≤ 9223372036854775807) (htt : ttl ≤ 9223372036854775807) (hpr : proto ≤ 9223372036854775807) (hs : 0 ≤ src ∧ src < 4294967296) (hd : 0 ≤ dst ∧ dst < 4294967296) (ho : Bytes opts) :
    ip_Build.f tos id df mf off ttl proto src dst opts body = some (ibuild tos id df mf off ttl proto src dst opts body) := by
  have w1 := inW_to tos 8 (by decide) ht
  have w2 := inW_to ttl 8 (by decide) htt
  have w3 := inW_to proto 8 (by decide) hpr
  have w4 := inW_to id 16 (by decide) hi
  have w5 := inW_to off 13 (by decide) hof
  rw [show (((8 : Nat) : Int)) = 8 from rfl, show ((2 : Int) ^ 8) = 256 by decide] at w1 w2 w3
  rw [show (((16 : Nat) : Int)) = 16 from rfl, show ((2 : Int) ^ 16) = 65536 by decide] at w4
  rw [show (((13 : Nat) : Int)) = 13 from rfl, show ((2 : Int) ^ 13) = 8192 by decide] at w5
  unfold ip_Build.f ibuild
  rw [w1, w2, w3, w4, w5]
  by_cases h1 : 0 ≤ tos ∧ tos < 256
  case neg => rw [if_pos (decide_eq_false h1), if_neg (fun h => h1 h.1)]
  rw [if_neg (by simpa using h1)]
  by_cases h2 : 0 ≤ ttl ∧ ttl < 256
  case neg => rw [if_pos (decide_eq_false h2), if_neg (fun h => h2 h.2.1)]
  rw [if_neg (by simpa using h2)]
  by_cases h3 : 0 ≤ proto ∧ proto < 256
  case neg => rw [if_pos (decide_eq_false h3), if_neg (fun h => h3 h.2.2.1)]
  rw [if_neg (by simpa using h3)]
  by_cases h4 : 0 ≤ id ∧ id < 65536
  case neg => rw [if_pos (decide_eq_false h4), if_neg (fun h => h4 h.2.2.2.1)]
  rw [if_neg (by simpa using h4)]
  by_cases h5 : 0 ≤ off ∧ off < 8192
  case neg => rw [if_pos (decide_eq_false h5), if_neg (fun h => h5 h.2.2.2.2.1)]
  rw [if_neg (by simpa using h5)]
  by_cases h6 : (opts.length : Int) > 40
  · rw [if_pos h6, if_neg (fun h => by have := h.2.2.2.2.2.1; omega)]
  rw [if_neg h6]
  by_cases h7 : opts.length % 4 ≠ 0
  · rw [if_pos h7, if_neg (fun h => by have := h.2.2.2.2.2.2; omega)]
  rw [if_neg h7, if_pos (show iok tos id off ttl proto opts from ⟨h1, h2, h3, h4, h5, by omega, by omega⟩)]
  by_cases h8 : (body.length : Int) > 2028 - (opts.length : Int)
  · rw [if_pos h8, if_pos h8]
  rw [if_neg h8, if_neg h8]
  have p0 := iput1 (List.replicate (20 + opts.length) 0) 0 (Go.bits .or .i64 64 (wrap64 ((20 + (opts.length : Int)).tdiv 4))) (by simp; omega) (by simp; omega)
  rw [show ((0 : Nat) : Int) = 0 from rfl] at p0
  rw [p0, Option.bind_some, first_to _ (by omega), part_to' df mf off h5.1 (by omega), w64 (x := src) (by omega) (by omega), w64 (x := dst) (by omega) (by omega)]
  have p1 := fun (l : List Int) (hl : l.length = 20 + opts.length) => iput1 l 1 tos (by omega) (by omega)
  have p2 := fun (l : List Int) (hl : l.length = 20 + opts.length) => iput2 l 2 (20 + (opts.length : Int) + (body.length : Int)) (by omega) (by omega)
  have p4 := fun (l : List Int) (hl : l.length = 20 + opts.length) => iput2 l 4 id (by omega) (by omega)
  have p6 := fun (l : List Int) (hl : l.length = 20 + opts.length) => iput2 l 6 (ipart df mf off) (by omega) (by omega)
  have p8 := fun (l : List Int) (hl : l.length = 20 + opts.length) => iput1 l 8 ttl (by omega) (by omega)
  have p9 := fun (l : List Int) (hl : l.length = 20 + opts.length) => iput1 l 9 proto (by omega) (by omega)
  have p12 := fun (l : List Int) (hl : l.length = 20 + opts.length) => iput4 l 12 src (by omega) (by omega)
  have p16 := fun (l : List Int) (hl : l.length = 20 + opts.length) => iput4 l 16 dst (by omega) (by omega)
  have p10 := fun (l : List Int) (c : Int) (hl : l.length = 20 + opts.length) => iput2 l 10 c (by omega) (by omega)
  rw [show ((1 : Nat) : Int) = 1 from rfl] at p1
  rw [show ((2 : Nat) : Int) = 2 from rfl] at p2
  rw [show ((4 : Nat) : Int) = 4 from rfl] at p4
  rw [show ((6 : Nat) : Int) = 6 from rfl] at p6
  rw [show ((8 : Nat) : Int) = 8 from rfl] at p8
  rw [show ((9 : Nat) : Int) = 9 from rfl] at p9
  rw [show ((12 : Nat) : Int) = 12 from rfl] at p12
  rw [show ((16 : Nat) : Int) = 16 from rfl] at p16
  rw [show ((10 : Nat) : Int) = 10 from rfl] at p10
  rw [p1 _ (by simp), Option.bind_some, p2 _ (by simp), Option.bind_some, p4 _ (by simp), Option.bind_some, p6 _ (by simp), Option.bind_some, p8 _ (by simp), Option.bind_some, p9 _ (by simp), Option.bind_some, p12 _ (by simp), Option.bind_some, p16 _ (by simp), Option.bind_some, if_pos (by simp)]
  have e20 : List.replicate (20 + opts.length) (0 : Int) = [0, 0, 0, 0, 0, 0, 0, 0, 0, 0, 0, 0, 0, 0, 0, 0, 0, 0, 0, 0] ++ List.replicate opts.length 0 := by
    rw [← List.replicate_append_replicate]
    rfl
  rw [e20]
  have eh : ∀ R : List Int, ((((((((((((((((((([0, 0, 0, 0, 0, 0, 0, 0, 0, 0, 0, 0, 0, 0, 0, 0, 0, 0, 0, 0] ++ R).set 0 ((64 + (20 + (opts.length : Int)) / 4) % 256)).set 1 (tos % 256)).set (2 + 1) ((20 + (opts.length : Int) + (body.length : Int)) % 256)).set 2 ((20 + (opts.length : Int) + (body.length : Int)) / 256 % 256)).set (4 + 1) (id % 256)).set 4 (id / 256 % 256)).set (6 + 1) (ipart df mf off % 256)).set 6 (ipart df mf off / 256 % 256)).set 8 (ttl % 256)).set 9 (proto % 256)).set (12 + 3) (src % 256)).set (12 + 2) (src / 256 % 256)).set (12 + 1) (src / 65536 % 256)).set 12 (src / 16777216 % 256)).set (16 + 3) (dst % 256)).set (16 + 2) (dst / 256 % 256)).set (16 + 1) (dst / 65536 % 256)).set 16 (dst / 16777216 % 256)).take 20 ++ opts = ihd tos id df mf off ttl proto src dst 0 opts body := fun R => rfl
  rw [eh, check_one _ (ihd_bytes tos id df mf off ttl proto src dst 0 opts body ho) (by rw [ihd_len]; omega), Option.bind_some, p10 _ _ (ihd_len ..), Option.bind_some, if_pos (by rw [List.length_set, List.length_set, ihd_len]; omega), ihd_set]
  rfl
def iMsg (t c r : Int) (d : List Int) : List Int := [t % 256, c % 256, 0, 0, r / 16777216 % 256, r / 65536 % 256, r / 256 % 256, r % 256] ++ d
def iBytes (t c r : Int) (d : List Int) : List Int := ((iMsg t c r d).set 2 ((65535 - sumOf (iMsg t c r d)) / 256 % 256)).set 3 ((65535 - sumOf (iMsg t c r d)) % 256)
def iBuild (t c r : Int) (d : List Int) : List Int × Int := if 0 ≤ t ∧ t ≤ 255 ∧ 0 ≤ c ∧ c ≤ 255 then (if (d.length : Int) > 2020 then ([], 3) else (iBytes t c r d, 0)) else ([], 1)
theorem iMsg_len (t c r : Int) (d : List Int) : (iMsg t c r d).length = d.length + 8 := by simp [iMsg]
theorem iMsg_bytes (t c r : Int) (d : List Int) (h : Bytes d) : Bytes (iMsg t c r d) := by
  intro x hx
  unfold iMsg at hx
  rcases List.mem_append.1 hx with hx | hx
  · simp only [List.mem_cons, List.not_mem_nil, or_false] at hx
    rcases hx with rfl | rfl | rfl | rfl | rfl | rfl | rfl | rfl <;> omega
  · exact h x hx
theorem iBuild_to (t c r : Int) (d : List Int) (hb : Bytes d) (hd : d.length ≤ 5000) (k : Nat) (hk : 1 ≤ k) : icmp_Build.f k t c r d = some (iBuild t c r d) := by
  obtain ⟨k, rfl⟩ : ∃ q, k = q + 1 := ⟨k - 1, by omega⟩
  unfold icmp_Build.f iBuild
  by_cases h1 : t < 0
  · rw [if_pos h1, if_neg (by omega), icmp_Build.j0, if_pos rfl]
  by_cases h2 : t > 255
  · rw [if_neg h1, if_pos h2, if_neg (by omega), icmp_Build.j0, if_pos rfl]
  by_cases h3 : c < 0
  · rw [if_neg h1, if_neg h2, if_pos h3, if_neg (by omega), icmp_Build.j0, if_pos rfl]
  rw [if_neg h1, if_neg h2, if_neg h3]
  by_cases h4 : c > 255
  · rw [if_neg (by omega), icmp_Build.j0, if_pos (by simpa using h4)]
  rw [if_pos (by omega), icmp_Build.j0, if_neg (by simpa using h4)]
  by_cases h5 : (d.length : Int) > 2020
  · rw [if_pos h5, if_pos h5]
  rw [if_neg h5, if_neg h5]
  have e : ([t % 256, c % 256, 0, 0, r / 16777216 % 256, r / 65536 % 256, r / 256 % 256, r % 256] : List Int) ++ d = iMsg t c r d := rfl
  rw [Option.bind_some, if_pos (by simp; omega), Option.bind_some, e, check_one _ (iMsg_bytes t c r d hb) (by rw [iMsg_len]; omega), Option.bind_some, if_pos (by rw [iMsg_len]; omega), if_pos (by rw [iMsg_len]; omega)]
  rfl
def ifq (p : Int) (b : List Int) : Prop := p = 1 ∧ ((b.length : Int) = 0 ∨ (rd b 0 ≠ 0 ∧ rd b 0 ≠ 8))
instance (p : Int) (b : List Int) : Decidable (ifq p b) := by unfold ifq; infer_instance
def ifault (t c fr : Int) (l : List Int) : List Int × Int :=
  if (ipOf l).2.2.2.2.2.2.2.2.2.2.2 ≠ 0 then ([], 4)
  else if t < 0 ∨ t > 255 ∨ c < 0 ∨ c > 255 then ([], 1)
  else if (ipOf l).2.2.2.2.1 ≠ 0 ∨ ifq (ipOf l).2.2.2.2.2.2.1 (ipOf l).2.2.2.2.2.2.2.2.2.2.1 then ([], 12)
  else ibuild 0 0 false false 0 64 1 fr (ipOf l).2.2.2.2.2.2.2.1 [] (iBuild t c 0 (l.take ((ihead l).toNat + min 8 (ipOf l).2.2.2.2.2.2.2.2.2.2.1.length))).1
theorem f_good (l : List Int) (h : (ipOf l).2.2.2.2.2.2.2.2.2.2.2 = 0) :
    20 ≤ l.length ∧ l.length ≤ 2048 ∧ rd l 0 / 16 = 4 ∧ 20 ≤ ihead l ∧ ihead l ≤ two l 2 ∧ two l 2 ≤ (l.length : Int) ∧
    ipOf l = (rd l 1, two l 4, (Go.bits .and .i64 (two l 6) 16384 != 0), (Go.bits .and .i64 (two l 6) 8192 != 0), Go.bits .and .i64 (two l 6) 8191, rd l 8, rd l 9, four l 12, four l 16, (l.take (ihead l).toNat).drop 20, (l.take (two l 2).toNat).drop (ihead l).toNat, 0) := by
  unfold ipOf at h ⊢
  by_cases c1 : (l.length : Int) > 2048
  · rw [if_pos c1] at h; exact absurd h (by simp [izero])
  rw [if_neg c1] at h ⊢
  by_cases c2 : (l.length : Int) < 20
  · rw [if_pos c2] at h; exact absurd h (by simp [izero])
  rw [if_neg c2] at h ⊢
  by_cases c3 : rd l 0 / 16 ≠ 4 ∨ ihead l < 20
  · rw [if_pos c3] at h; exact absurd h (by simp [izero])
  rw [if_neg c3] at h ⊢
  by_cases c4 : (l.length : Int) < ihead l
  · rw [if_pos c4] at h; exact absurd h (by simp [izero])
  rw [if_neg c4] at h ⊢
  by_cases c5 : two l 2 < ihead l ∨ Go.bits .and .i64 (two l 6) 32768 ≠ 0
  · rw [if_pos c5] at h; exact absurd h (by simp [izero])
  rw [if_neg c5] at h ⊢
  by_cases c6 : two l 2 > (l.length : Int)
  · rw [if_pos c6] at h; exact absurd h (by simp [izero])
  rw [if_neg c6] at h ⊢
  by_cases c7 : sumOf (l.take (ihead l).toNat) ≠ 65535
  · rw [if_pos c7] at h; exact absurd h (by simp [izero])
  rw [if_neg c7] at h ⊢
  exact ⟨by omega, by omega, by omega, by omega, by omega, by omega, rfl⟩
theorem iBuild_good (t c : Int) (d : List Int) (h : ¬ (t < 0 ∨ t > 255 ∨ c < 0 ∨ c > 255)) (hd : d.length ≤ 2020) : (iBuild t c 0 d).2 = 0 ∧ (iBuild t c 0 d).1.length ≤ 5000 := by
  unfold iBuild
  rw [if_pos (by omega), if_neg (by omega)]
  refine ⟨rfl, ?_⟩
  show (iBytes t c 0 d).length ≤ 5000
  unfold iBytes iMsg
  simp
  omega
theorem mn_to (a b : Nat) : mn (a : Int) (b : Int) = ((min a b : Nat) : Int) := by
  unfold mn
  split <;> omega
theorem ifault_in (t c fr : Int) (l : List Int) (hb : Bytes l) (hf : 0 ≤ fr ∧ fr < 4294967296) (k : Nat) (hk : 10 ≤ k) : inner_Fault.f k t c fr l = some (ifault t c fr l) := by
  obtain ⟨k, rfl⟩ : ∃ n, k = n + 2 := ⟨k - 2, by omega⟩
  unfold inner_Fault.f ifault
  rw [ipParse_to l hb, Option.bind_some]
  by_cases e : (ipOf l).2.2.2.2.2.2.2.2.2.2.2 = 0
  case neg => rw [if_neg e, if_pos e]
  rw [if_pos e, if_neg (show ¬ ((ipOf l).2.2.2.2.2.2.2.2.2.2.2 ≠ 0) from fun q => q e)]
  obtain ⟨g1, g2, g3, g4, g5, g6, g7⟩ := f_good l e
  rw [g7]
  dsimp only
  have hd := four_bound l 12 hb (by omega)
  have b0 := hb.get 0 (by omega)
  rw [show ((0 : Nat) : Int) = 0 from rfl] at b0
  by_cases t1 : t < 0
  · rw [if_pos t1, if_pos (.inl t1), inner_Fault.j0, if_pos rfl]
  rw [if_neg t1]
  by_cases t2 : t > 255
  · rw [if_pos t2, if_pos (.inr (.inl t2)), inner_Fault.j0, if_pos rfl]
  rw [if_neg t2]
  by_cases t3 : c < 0
  · rw [if_pos t3, if_pos (.inr (.inr (.inl t3))), inner_Fault.j0, if_pos rfl]
  rw [if_neg t3]
  by_cases t4 : c > 255
  · rw [if_pos (show t < 0 ∨ t > 255 ∨ c < 0 ∨ c > 255 from .inr (.inr (.inr t4))), inner_Fault.j0, if_pos (decide_eq_true t4)]
  have tt : ¬ (t < 0 ∨ t > 255 ∨ c < 0 ∨ c > 255) := by omega
  rw [if_neg tt, inner_Fault.j0, if_neg (by rw [decide_eq_true_eq]; exact t4)]
  generalize Go.bits .and .i64 (two l 6) 8191 = off
  obtain ⟨body, hbd⟩ : ∃ y, y = (l.take (two l 2).toNat).drop (ihead l).toNat := ⟨_, rfl⟩
  have hbl : body.length = (two l 2).toNat - (ihead l).toNat := by rw [hbd, List.length_drop, List.length_take]; omega
  have h60 : ihead l ≤ 60 := by unfold ihead; omega
  rw [← hbd]
  by_cases o1 : off = 0
  case neg => rw [if_neg o1, if_pos (.inl o1), inner_Fault.j1, if_pos rfl]
  rw [if_pos o1]
  have hq : inner_fault.f (rd l 1) (two l 4) (Go.bits .and .i64 (two l 6) 16384 != 0) (Go.bits .and .i64 (two l 6) 8192 != 0) off (rd l 8) (rd l 9) (four l 12) (four l 16) ((l.take (ihead l).toNat).drop 20) body = some (decide (ifq (rd l 9) body)) := by
    unfold inner_fault.f
    by_cases p1 : rd l 9 = 1
    case neg => rw [if_neg p1, decide_eq_false (fun q => p1 q.1)]
    rw [if_pos p1]
    by_cases p2 : (body.length : Int) = 0
    · rw [if_pos p2, decide_eq_true ⟨p1, .inl p2⟩]
    rw [if_neg p2, if_pos (by omega)]
    by_cases p3 : rd body 0 = 0
    · rw [if_pos p3, decide_eq_false (fun q => q.2.elim p2 (fun z => z.1 p3))]
    rw [if_neg p3]
    congr 1
    by_cases p4 : rd body 0 = 8
    · rw [decide_eq_false (fun q => q.2.elim p2 (fun z => z.2 p4)), p4]; rfl
    · rw [decide_eq_true (show ifq (rd l 9) body from ⟨p1, .inr ⟨p3, p4⟩⟩)]; exact bne_iff_ne.2 p4
  rw [hq, Option.bind_some, inner_Fault.j1]
  by_cases q1 : ifq (rd l 9) body
  · rw [if_pos (decide_eq_true q1), if_pos (.inr q1)]
  rw [if_neg (by rw [decide_eq_true_eq]; exact q1), if_neg (show ¬ (off ≠ 0 ∨ ifq (rd l 9) body) from fun z => z.elim (fun y => y o1) q1), if_pos (show (0 : Int) < (l.length : Int) by omega)]
  have ea : Go.bits .and .u8 (rd l 0) 15 = rd l 0 % 16 := by
    have := and_mask .u8 4 (by decide) (rd l 0)
    rw [show ((2 : Int) ^ 4 - 1) = 15 by decide, show ((2 : Int) ^ 4) = 16 by decide] at this
    rw [this, IntKind.wrap_u8]
    omega
  have ew : wrap64 (wrap64 (rd l 0 % 16) * 4) = ihead l := by rw [w64 (x := rd l 0 % 16) (by omega) (by omega), w64 (by omega) (by omega)]; rfl
  have en : wrap64 (ihead l + mn (body.length : Int) 8) = (((ihead l).toNat + min 8 body.length : Nat) : Int) := by
    rw [show mn (body.length : Int) 8 = ((min body.length 8 : Nat) : Int) from mn_to body.length 8, w64 (by omega) (by omega)]
    omega
  rw [ea, ew, en, if_pos (by omega), if_pos (by omega), show (((ihead l).toNat + min 8 body.length : Nat) : Int).toNat = (ihead l).toNat + min 8 body.length from rfl]
  have hdl : (l.take ((ihead l).toNat + min 8 body.length)).length ≤ 68 := by rw [List.length_take]; omega
  obtain ⟨i1, i2⟩ := iBuild_good t c (l.take ((ihead l).toNat + min 8 body.length)) tt (by omega)
  rw [if_pos (by simp only [List.length_nil]; omega), List.nil_append, iBuild_to t c 0 _ (fun c hc => hb c (List.mem_of_mem_take hc)) (by omega) k (by omega), Option.bind_some]
  rw [ibuild_to 0 0 false false 0 64 1 fr (four l 12) [] _ (by decide) (by decide) (by decide) (by decide) (by decide) hf hd (fun c hc => by cases hc), Option.bind_some]
theorem nat_and_two_pow (n i : Nat) : n &&& 2 ^ i = n / 2 ^ i % 2 * 2 ^ i := by
  apply Nat.eq_of_testBit_eq
  intro j
  rw [Nat.testBit_and, Nat.testBit_two_pow, Nat.testBit_mul_two_pow]
  by_cases h : i = j
  · subst h
    rw [Nat.sub_self, Nat.testBit_eq_decide_div_mod_eq, Nat.testBit_eq_decide_div_mod_eq]
    simp
  · rw [decide_eq_false h, Bool.and_false]
    by_cases h2 : i ≤ j
    · rw [decide_eq_true h2, Bool.true_and, Nat.testBit_lt_two_pow]
      have : 2 ^ 1 ≤ 2 ^ (j - i) := Nat.pow_le_pow_right (by decide) (by omega)
      omega
    · rw [decide_eq_false h2, Bool.false_and]
theorem and_bit (p : Int) (i : Nat) (h0 : 0 ≤ p) (h1 : p < 65536) (hi : i ≤ 15) : Go.bits .and .i64 p (2 ^ i) = p / 2 ^ i % 2 * 2 ^ i := by
  obtain ⟨n, rfl⟩ := Int.eq_ofNat_of_zero_le h0
  have hp : 2 ^ i ≤ 2 ^ 15 := Nat.pow_le_pow_right (by decide) hi
  have e2 : ((2 : Int) ^ i) = ((2 ^ i : Nat) : Int) := by simp
  rw [e2]
  simp only [Go.bits, BitVec.toNat_and, BitVec.ofInt_natCast, BitVec.toNat_ofNat]
  rw [Nat.mod_eq_of_lt (Nat.lt_of_lt_of_le (show n < 65536 by omega) (show 65536 ≤ 2 ^ IntKind.i64.bits by decide)), Nat.mod_eq_of_lt (Nat.lt_of_le_of_lt hp (show 2 ^ 15 < 2 ^ IntKind.i64.bits by decide)), nat_and_two_pow, IntKind.wrap_i64]
  have hm : n / 2 ^ i % 2 ≤ 1 := by omega
  have hmul : n / 2 ^ i % 2 * 2 ^ i ≤ 2 ^ 15 := Nat.le_trans (Nat.mul_le_mul hm hp) (by omega)
  have hlt : ((n / 2 ^ i % 2 * 2 ^ i : Nat) : Int) ≤ ((32768 : Nat) : Int) := Int.ofNat_le.mpr hmul
  have hge : (0 : Int) ≤ ((n / 2 ^ i % 2 * 2 ^ i : Nat) : Int) := Int.natCast_nonneg _
  have he : ((n / 2 ^ i % 2 * 2 ^ i : Nat) : Int) = (n : Int) / ((2 ^ i : Nat) : Int) % 2 * ((2 ^ i : Nat) : Int) := by rw [Int.natCast_mul, Int.natCast_emod, Int.natCast_ediv]; rfl
  rw [← he]
  generalize ((n / 2 ^ i % 2 * 2 ^ i : Nat) : Int) = z at *
  omega
theorem and_15 (p : Int) (h0 : 0 ≤ p) (h1 : p < 65536) : Go.bits .and .i64 p 32768 = p / 32768 % 2 * 32768 := by
  have := and_bit p 15 h0 h1 (by decide)
  rwa [show ((2 : Int) ^ 15) = 32768 by decide] at this
theorem and_14 (p : Int) (h0 : 0 ≤ p) (h1 : p < 65536) : (Go.bits .and .i64 p 16384 != 0) = decide (p / 16384 % 2 = 1) := by
  have := and_bit p 14 h0 h1 (by decide)
  rw [show ((2 : Int) ^ 14) = 16384 by decide] at this
  rw [this, Bool.eq_iff_iff]
  simp only [bne_iff_ne, ne_eq, decide_eq_true_eq]
  omega
theorem and_13 (p : Int) (h0 : 0 ≤ p) (h1 : p < 65536) : (Go.bits .and .i64 p 8192 != 0) = decide (p / 8192 % 2 = 1) := by
  have := and_bit p 13 h0 h1 (by decide)
  rw [show ((2 : Int) ^ 13) = 8192 by decide] at this
  rw [this, Bool.eq_iff_iff]
  simp only [bne_iff_ne, ne_eq, decide_eq_true_eq]
  omega
theorem and_8191 (p : Int) (h0 : 0 ≤ p) (h1 : p < 65536) : Go.bits .and .i64 p 8191 = p % 8192 := by
  have := and_mask .i64 13 (by decide) p
  rw [show ((2 : Int) ^ 13 - 1) = 8191 by decide, show ((2 : Int) ^ 13) = 8192 by decide] at this
  rw [this, IntKind.wrap_i64]
  omega
theorem ipart_bound (df mf : Bool) (off : Int) (h : 0 ≤ off ∧ off < 8192) : 0 ≤ ipart df mf off ∧ ipart df mf off < 32768 := by
  unfold ipart
  cases df <;> cases mf <;> simp <;> omega
theorem ipart_bits (df mf : Bool) (off : Int) (h : 0 ≤ off ∧ off < 8192) : ipart df mf off / 16384 % 2 = (if df = true then 1 else 0) ∧ ipart df mf off / 8192 % 2 = (if mf = true then 1 else 0) ∧ ipart df mf off % 8192 = off := by
  unfold ipart
  cases df <;> cases mf <;> simp <;> omega
theorem wsum_ihd (tos id : Int) (df mf : Bool) (off ttl proto src dst c : Int) (opts body : List Int) (h0 : 0 ≤ c) (h1 : c ≤ 65535) : wsum false (ihd tos id df mf off ttl proto src dst c opts body) = wsum false (ihd tos id df mf off ttl proto src dst 0 opts body) + c := by
  unfold ihd iHead
  simp only [List.cons_append, List.nil_append, wsum, Bool.not_false, Bool.not_true, if_true, Bool.false_eq_true, if_false]
  omega
theorem i_full (tos id : Int) (df mf : Bool) (off ttl proto src dst : Int) (opts body : List Int) (ho : Bytes opts) : sumOf (ihd tos id df mf off ttl proto src dst (icheck tos id df mf off ttl proto src dst opts body) opts body) = 65535 := by
  have hc := icheck_bound tos id df mf off ttl proto src dst opts body
  have hw := wsum_ihd tos id df mf off ttl proto src dst (icheck tos id df mf off ttl proto src dst opts body) opts body hc.1 hc.2
  have hm := (wsum_bound _ false (ihd_bytes tos id df mf off ttl proto src dst 0 opts body ho)).1
  have hf := fold_full (wsum false (ihd tos id df mf off ttl proto src dst 0 opts body)) hm
  unfold sumOf
  rw [hw]
  exact hf
theorem i_read (tos id : Int) (df mf : Bool) (off ttl proto src dst : Int) (opts body more : List Int) (h : iok tos id off ttl proto opts) (hl : (body.length : Int) ≤ 2028 - (opts.length : Int)) (hs : 0 ≤ src ∧ src < 4294967296) (hd : 0 ≤ dst ∧ dst < 4294967296) (ho : Bytes opts) (hm : 20 + opts.length + body.length + more.length ≤ 2048) :
    ipOf (ibytes tos id df mf off ttl proto src dst opts body ++ more) = (tos, id, df, mf, off, ttl, proto, src, dst, opts, body, 0) := by
  obtain ⟨h1, h2, h3, h4, h5, h6, h7⟩ := h
  have hn : (ibytes tos id df mf off ttl proto src dst opts body ++ more).length = 20 + opts.length + body.length + more.length := by rw [List.length_append, ibytes_len]
  have hf := i_full tos id df mf off ttl proto src dst opts body ho
  have hpb := ipart_bound df mf off h5
  have hpp := ipart_bits df mf off h5
  have e0 : rd (ibytes tos id df mf off ttl proto src dst opts body ++ more) 0 = 64 + (20 + (opts.length : Int)) / 4 := by
    show (64 + (20 + (opts.length : Int)) / 4) % 256 = _
    omega
  have e1 : rd (ibytes tos id df mf off ttl proto src dst opts body ++ more) 1 = tos := by
    show tos % 256 = tos
    omega
  have e8 : rd (ibytes tos id df mf off ttl proto src dst opts body ++ more) 8 = ttl := by
    show ttl % 256 = ttl
    omega
  have e9 : rd (ibytes tos id df mf off ttl proto src dst opts body ++ more) 9 = proto := by
    show proto % 256 = proto
    omega
  have f2 : two (ibytes tos id df mf off ttl proto src dst opts body ++ more) 2 = 20 + opts.length + body.length := by
    show (20 + (opts.length : Int) + (body.length : Int)) / 256 % 256 * 256 + (20 + (opts.length : Int) + (body.length : Int)) % 256 = _
    omega
  have f4 : two (ibytes tos id df mf off ttl proto src dst opts body ++ more) 4 = id := by
    show id / 256 % 256 * 256 + id % 256 = id
    omega
  have f6 : two (ibytes tos id df mf off ttl proto src dst opts body ++ more) 6 = ipart df mf off := by
    show ipart df mf off / 256 % 256 * 256 + ipart df mf off % 256 = ipart df mf off
    omega
  have f12 : four (ibytes tos id df mf off ttl proto src dst opts body ++ more) 12 = src := by
    show src / 16777216 % 256 * 16777216 + src / 65536 % 256 * 65536 + src / 256 % 256 * 256 + src % 256 = src
    omega
  have f16 : four (ibytes tos id df mf off ttl proto src dst opts body ++ more) 16 = dst := by
    show dst / 16777216 % 256 * 16777216 + dst / 65536 % 256 * 65536 + dst / 256 % 256 * 256 + dst % 256 = dst
    omega
  have eh : ihead (ibytes tos id df mf off ttl proto src dst opts body ++ more) = 20 + opts.length := by unfold ihead; rw [e0]; omega
  have et : (ibytes tos id df mf off ttl proto src dst opts body ++ more).take (20 + opts.length) = ihd tos id df mf off ttl proto src dst (icheck tos id df mf off ttl proto src dst opts body) opts body := by
    unfold ibytes
    rw [List.append_assoc, List.take_left' (ihd_len ..)]
  have eo : (ihd tos id df mf off ttl proto src dst (icheck tos id df mf off ttl proto src dst opts body) opts body).drop 20 = opts := List.drop_left' (iHead_len ..)
  have eb : ((ibytes tos id df mf off ttl proto src dst opts body ++ more).take (20 + opts.length + body.length)).drop (20 + opts.length) = body := by
    rw [List.take_left' (ibytes_len ..)]
    unfold ibytes
    rw [List.drop_left' (ihd_len ..)]
  unfold ipOf
  rw [hn, if_neg (by omega), if_neg (by omega), eh, if_neg (by rw [e0]; omega), if_neg (by omega), f2, f6, and_15 _ (by omega) (by omega), if_neg (by omega), if_neg (by omega), show (20 + (opts.length : Int)).toNat = 20 + opts.length by omega, et, if_neg (Classical.not_not.2 hf), e1, f4, and_14 _ (by omega) (by omega), and_13 _ (by omega) (by omega), and_8191 _ (by omega) (by omega), e8, e9, f12, f16, eo, show (20 + (opts.length : Int) + (body.length : Int)).toNat = 20 + opts.length + body.length by omega, eb, hpp.1, hpp.2.1, hpp.2.2]
  cases df <;> cases mf <;> rfl
theorem iBytes_len (t c r : Int) (d : List Int) : (iBytes t c r d).length = d.length + 8 := by simp [iBytes, iMsg_len]
theorem iBytes_bytes (t c r : Int) (d : List Int) (h : Bytes d) : Bytes (iBytes t c r d) :=
  bytes_set (bytes_set (iMsg_bytes t c r d h) _ _ (by omega) (by omega)) _ _ (by omega) (by omega)
theorem iBytes_sum (t c r : Int) (d : List Int) (h : Bytes d) : sumOf (iBytes t c r d) = 65535 := by
  have hm := iMsg_bytes t c r d h
  have hl := iMsg_len t c r d
  have b := wsum_bound _ false hm
  have g2 : (iMsg t c r d).getD 2 0 = 0 := rfl
  have g3 : (iMsg t c r d).getD 3 0 = 0 := rfl
  have s0 := sumOf_bound (iMsg t c r d)
  have e : wsum false (iBytes t c r d) = wsum false (iMsg t c r d) + (65535 - sumOf (iMsg t c r d)) := by
    unfold iBytes
    have w2 : wt false 2 = 256 := by decide
    have w3 : wt false 3 = 1 := by decide
    rw [wsum_set _ _ _ _ (by simp; omega), wsum_set _ _ _ _ (by omega), getD_set _ _ _ _ (by omega), if_neg (by decide), g2, g3, w2, w3]
    omega
  unfold sumOf at *
  rw [e]
  exact fold_full _ b.1
theorem iBack (t c r : Int) (d : List Int) (h : Bytes d) (ht0 : 0 ≤ t) (ht1 : t ≤ 255) (hc0 : 0 ≤ c) (hc1 : c ≤ 255) (hr0 : 0 ≤ r) (hr1 : r < 4294967296) : iParse (iBytes t c r d) = (t, c, r, d, 0) := by
  unfold iParse
  have hl := iBytes_len t c r d
  rw [if_neg (by omega), if_pos (iBytes_sum t c r d h)]
  have e0 : rd (iBytes t c r d) 0 = t % 256 := rfl
  have e1 : rd (iBytes t c r d) 1 = c % 256 := rfl
  have e4 : four (iBytes t c r d) 4 = r / 16777216 % 256 * 16777216 + r / 65536 % 256 * 65536 + r / 256 % 256 * 256 + r % 256 := rfl
  have e8 : (iBytes t c r d).drop 8 = d := rfl
  rw [e0, e1, e4, e8]
  rw [show t % 256 = t by omega, show c % 256 = c by omega, show r / 16777216 % 256 * 16777216 + r / 65536 % 256 * 65536 + r / 256 % 256 * 256 + r % 256 = r by omega]
theorem fRead_ip (l : List Int) (hb : Bytes l) (h : (fRead l).2.2.2.2.2.2.2.2.2.2.2.2.2.2.2.2.2.2.2.2.2.2 = 0) : (ipOf l).2.2.2.2.2.2.2.2.2.2.2 = 0 := by
  unfold fRead at h
  by_cases c1 : (ipOf l).2.2.2.2.2.2.2.2.2.2.2 ≠ 0
  · rw [if_pos c1] at h
    exact absurd (fwhy_zero h) c1
  · exact Classical.not_not.1 c1
theorem ifault_kind5 (c : Int) (l : List Int) (hb : Bytes l) (hc0 : 0 ≤ c) (hc1 : c ≤ 255) (h : (fRead l).2.2.2.2.2.2.2.2.2.2.2.2.2.2.2.2.2.2.2.2.2.2 = 0) (h5 : (fRead l).2.2.2.2.2.2.2.2.2.2.2.1 = 5) : ifault 3 c 77 l = ([], 12) := by
  have e := fRead_ip l hb h
  obtain ⟨g1, g2, g3, g4, g5, g6, g7⟩ := f_good l e
  obtain ⟨-, k1, k2, k3, k4⟩ := fRead_good l hb h
  rw [k4] at h5
  have hbb : Bytes (fbody l) := fun c hc => hb c (List.mem_of_mem_take (List.mem_of_mem_drop hc))
  have h5' : (fpart (rd l 9) (four l 12) (four l 16) (fbody l)).1 = 5 := h5
  unfold ifault
  rw [if_neg (fun q => q e), if_neg (by omega), if_pos ?_]
  rw [g7]
  refine .inr ?_
  show ifq (rd l 9) (fbody l)
  unfold fpart at h5' k3
  by_cases c1 : rd l 9 = 17
  · rw [if_pos c1] at h5'; exact absurd h5' (by show ¬ ((1 : Int) = 5); decide)
  rw [if_neg c1] at h5' k3
  by_cases c2 : rd l 9 = 6
  · rw [if_pos c2] at h5'; exact absurd h5' (by show ¬ ((2 : Int) = 5); decide)
  rw [if_neg c2] at h5' k3
  by_cases c3 : rd l 9 = 1
  case neg => rw [if_neg c3] at h5'; exact absurd h5' (by show ¬ ((0 : Int) = 5); decide)
  rw [if_pos c3] at h5' k3
  unfold fword at h5' k3
  by_cases d1 : (iParse (fbody l)).2.2.2.2 ≠ 0
  · rw [if_pos d1] at h5'; exact absurd h5' (by show ¬ ((0 : Int) = 5); decide)
  obtain ⟨i1, i2⟩ := iParse_good (fbody l) (Classical.not_not.1 d1)
  rw [if_neg d1, i2] at h5'
  refine ⟨c3, .inr ?_⟩
  have hk : ikind (rd (fbody l) 0) (rd (fbody l) 1) = 5 := by
    rcases ikind_cases (rd (fbody l) 0) (rd (fbody l) 1) with k | ⟨k, z1, z2⟩ | ⟨k, z1, z2⟩ | k
    · rw [if_pos k] at h5'; exact absurd h5' (by show ¬ ((0 : Int) = 5); decide)
    · rw [if_neg (show ¬ (ikind (rd (fbody l) 0) (rd (fbody l) 1) = 0) by rw [k]; decide), if_neg (show ¬ (ikind (rd (fbody l) 0) (rd (fbody l) 1) = 5) by rw [k]; decide)] at h5'
      exact absurd (show ikind (rd (fbody l) 0) (rd (fbody l) 1) = 5 from h5') (by rw [k]; decide)
    · rw [if_neg (show ¬ (ikind (rd (fbody l) 0) (rd (fbody l) 1) = 0) by rw [k]; decide), if_neg (show ¬ (ikind (rd (fbody l) 0) (rd (fbody l) 1) = 5) by rw [k]; decide)] at h5'
      exact absurd (show ikind (rd (fbody l) 0) (rd (fbody l) 1) = 5 from h5') (by rw [k]; decide)
    · exact k
  constructor
  · intro z; rw [z] at hk; unfold ikind at hk; rw [if_neg (by decide), if_pos rfl] at hk; split at hk <;> exact absurd hk (by decide)
  · intro z; rw [z] at hk; unfold ikind at hk; rw [if_pos rfl] at hk; split at hk <;> exact absurd hk (by decide)
theorem ifault_good (c : Int) (l : List Int) (hb : Bytes l) (hc0 : 0 ≤ c) (hc1 : c ≤ 255) (h : (fRead l).2.2.2.2.2.2.2.2.2.2.2.2.2.2.2.2.2.2.2.2.2.2 = 0) (h5 : (fRead l).2.2.2.2.2.2.2.2.2.2.2.1 ≠ 5) :
    (ifault 3 c 77 l).2 = 0 ∧ Bytes (ifault 3 c 77 l).1 ∧ ∃ b, fRead (ifault 3 c 77 l).1 = (0, 0, false, false, 0, 64, 1, 77, (fRead l).2.2.2.2.2.2.2.1, [], b, 5, 77, 0, (fRead l).2.2.2.2.2.2.2.1, 0, 0, (fRead l).2.2.2.2.2.2.1, (fRead l).2.2.2.2.2.2.2.2.2.2.2.2.1, (fRead l).2.2.2.2.2.2.2.2.2.2.2.2.2.1, (fRead l).2.2.2.2.2.2.2.2.2.2.2.2.2.2.1, (fRead l).2.2.2.2.2.2.2.2.2.2.2.2.2.2.2.1, 0) := by
  have e := fRead_ip l hb h
  obtain ⟨g1, g2, g3, g4, g5, g6, g7⟩ := f_good l e
  obtain ⟨s1, s2, s3, s4, s5, s6, s7⟩ := short_good l hb h h5
  obtain ⟨-, k1, k2, k3, k4⟩ := fRead_good l hb h
  have t6 := two_bound l 6 hb (by omega)
  have hsrc := four_bound l 12 hb (by omega)
  have hbb : Bytes (fbody l) := fun c hc => hb c (List.mem_of_mem_take (List.mem_of_mem_drop hc))
  have h5' : (fpart (rd l 9) (four l 12) (four l 16) (fbody l)).1 ≠ 5 := by rw [k4] at h5; exact h5
  obtain ⟨p1, p2, p3, p4, p5⟩ := fpart_good _ _ _ _ hbb k3 h5'
  have hbl : (fbody l).length = (two l 2).toNat - (ihead l).toNat := by unfold fbody; rw [List.length_drop, List.length_take]; omega
  have hsl : (fRead l).2.2.2.2.2.2.2.1 = four l 12 := by rw [k4]
  have nf : ¬ ifq (rd l 9) (fbody l) := by
    rintro ⟨q1, q2⟩
    rcases p5 with ⟨z, -, -⟩ | ⟨z, y, -, -, -⟩
    · omega
    · omega
  obtain ⟨d, hd⟩ : ∃ d, d = l.take ((ihead l).toNat + min 8 (fbody l).length) := ⟨_, rfl⟩
  have hm : (ihead l).toNat + min 8 (fbody l).length = (ihead l + 8).toNat := by omega
  have hdl : d.length = (ihead l + 8).toNat := by rw [hd, List.length_take]; omega
  have hdb : Bytes d := by rw [hd]; exact fun c hc => hb c (List.mem_of_mem_take hc)
  have hq := s6 (ihead l + 8).toNat (by omega) (by omega)
  rw [← hm, ← hd] at hq
  have hib : iBuild 3 c 0 d = (iBytes 3 c 0 d, 0) := by unfold iBuild; rw [if_pos (by omega), if_neg (by omega)]
  have hbl2 := iBytes_len 3 c 0 d
  have hok : iok 0 0 0 64 1 [] := by unfold iok; simp
  have hbu : ibuild 0 0 false false 0 64 1 77 (four l 12) [] (iBytes 3 c 0 d) = (ibytes 0 0 false false 0 64 1 77 (four l 12) [] (iBytes 3 c 0 d), 0) := by
    unfold ibuild; rw [if_pos hok, if_neg (by rw [hbl2]; simp; omega)]
  have hf : ifault 3 c 77 l = (ibytes 0 0 false false 0 64 1 77 (four l 12) [] (iBytes 3 c 0 d), 0) := by
    unfold ifault
    rw [if_neg (fun q => q e), if_neg (by omega), g7]
    dsimp only
    have ho : Go.bits .and .i64 (two l 6) 8191 = 0 := by rw [q_and8191 _ t6.1 t6.2]; exact k1
    rw [ho, if_neg (show ¬ ((0 : Int) ≠ 0 ∨ ifq (rd l 9) ((l.take (two l 2).toNat).drop (ihead l).toNat)) from fun z => z.elim (fun y => y rfl) nf)]
    show ibuild 0 0 false false 0 64 1 77 (four l 12) [] (iBuild 3 c 0 (l.take ((ihead l).toNat + min 8 (fbody l).length))).1 = _
    rw [← hd, hib, hbu]
  have hibb := iBytes_bytes 3 c 0 d hdb
  rw [hf]
  have hr := i_read 0 0 false false 0 64 1 77 (four l 12) [] (iBytes 3 c 0 d) [] hok (by rw [hbl2]; simp; omega) (by decide) hsrc (fun c hc => by cases hc) (by rw [hbl2]; simp; omega)
  rw [List.append_nil] at hr
  have hk0 : ¬ (ikind 3 c = 0) := by unfold ikind; rw [if_neg (by decide), if_neg (by decide), if_pos rfl]; decide
  have hk5 : ikind 3 c = 5 := by unfold ikind; rw [if_neg (by decide), if_neg (by decide), if_pos rfl]
  have hp : fpart 1 77 (four l 12) (iBytes 3 c 0 d) = (5, 77, 0, four l 12, 0, 0, (fRead l).2.2.2.2.2.2.1, (fRead l).2.2.2.2.2.2.2.2.2.2.2.2.1, (fRead l).2.2.2.2.2.2.2.2.2.2.2.2.2.1, (fRead l).2.2.2.2.2.2.2.2.2.2.2.2.2.2.1, (fRead l).2.2.2.2.2.2.2.2.2.2.2.2.2.2.2.1, 0) := by
    unfold fpart fword
    rw [if_neg (by decide), if_neg (by decide), if_pos rfl, iBack 3 c 0 d hdb (by decide) (by decide) hc0 hc1 (by decide) (by decide)]
    dsimp only
    rw [if_neg (by decide), if_neg hk0, if_pos hk5, hq]
    rfl
  refine ⟨rfl, ?_, iBytes 3 c 0 d, ?_⟩
  · show Bytes (ibytes 0 0 false false 0 64 1 77 (four l 12) [] (iBytes 3 c 0 d))
    unfold ibytes
    exact Bytes.append (ihd_bytes _ _ _ _ _ _ _ _ _ _ _ _ (fun c hc => by cases hc)) hibb
  · show fRead (ibytes 0 0 false false 0 64 1 77 (four l 12) [] (iBytes 3 c 0 d)) = _
    have key : fRead (ibytes 0 0 false false 0 64 1 77 (four l 12) [] (iBytes 3 c 0 d)) = fjoin (0, 0, false, false, 0, 64, 1, 77, four l 12, [], iBytes 3 c 0 d, 0) (fpart 1 77 (four l 12) (iBytes 3 c 0 d)) := by
      unfold fRead
      rw [hr]
      dsimp only
      rw [if_neg (by decide), if_neg (by decide), if_neg (by decide)]
    rw [key, hp, hsl]
    rfl
set_option maxHeartbeats 8000000 in
set_option maxRecDepth 100000 in
theorem InnerQuotes (A0 : Option Addr) (c0 : Nat) (l0 : List Int) (a1 : Int) (W : World) (hr : Kd.C (Kd.int .u8) W A0 l0.length l0) (hc : l0.length ≤ c0) (hb0 : l0.length ≤ maxLen ∧ l0.length * 1 ≤ 140737488351232 ∧ ∀ a_ ∈ l0, (Lit.int .u8 a_).wf = true) (hw : (Lit.int .i64 a1).wf = true) :
    Calls Try.prog 16 #[.slice A0 l0.length c0, .int .i64 a1] W fun e w' => e = .returned (.bool true) ∧ Below W.heap.size W w' := by
  have hu37 := Try.underlying37
  have hu35 := Try.underlying35
  have hu29 := Try.underlying29
  have hu27 := Try.underlying27
  have hb : Bytes l0 := bytes_of hb0.2.2
  obtain ⟨⟨r0, r1, r2, r3, r4, r5, r6, r7, r8, r9, r10, r11, r12, r13, r14, r15, r16, r17, r18, r19, r20, r21, r22⟩, hr'⟩ : ∃ r, r = fRead l0 := ⟨_, rfl⟩
  obtain ⟨⟨y1, ye⟩, hy⟩ : ∃ y, y = ifault 3 a1 77 l0 := ⟨_, rfl⟩
  have hq := fRead_to l0 hb 60 (by decide)
  have hq2 := ifault_in 3 a1 77 l0 hb (by decide) 60 (by decide)
  have k5 := fun h0 h1 => ifault_kind5 a1 l0 hb h0 h1
  have kg := fun h0 h1 => ifault_good a1 l0 hb h0 h1
  rw [← hr'] at hq k5 kg
  rw [← hy] at hq2 k5 kg
  have HR := Aside0.mk hr
  have HC := Aside0.mk hc
  have HQ := Aside0.mk hq
  have HQ2 := Aside0.mk hq2
  have HK5 := Aside0.mk k5
  have HKG := Aside0.mk kg
  clear hr hc hq hq2 k5 kg hr' hy hw hb0 hb
  go_enter Try.func16, Try.ntmps16
  go_wp2_with (fail)
  ((refine (bailiwicklaw22_awake.calls true _ rfl).mono ?_); rintro e w1 ⟨rfl, hb1⟩; have HB1 := Aside0.mk hb1; clear hb1)
  by_cases c : (l0.length : Int) > 5000
  · have c0b : decide ((5000 : Int) < (l0.length : Int)) = true := decide_eq_true c
    have c1b : decide (5000 < l0.length) = true := decide_eq_true (by omega)
    clear c
    go_wp2
    go_ret
    exact ⟨by first | rfl | (simp; done), by repeat (first | (with_reducible first | exact HB1.out | apply below_alloc | apply pw_below_drewN | apply below_drew1) | exact HB1.out)⟩
  have c0b : decide ((5000 : Int) < (l0.length : Int)) = false := decide_eq_false (by omega)
  have c1b : decide (5000 < l0.length) = false := decide_eq_false (by omega)
  clear c
  by_cases m1 : a1 < 0
  · have m2 : decide (a1 < 0) = true := decide_eq_true m1
    clear m1
    go_wp2
    go_ret
    exact ⟨by first | rfl | (simp; done), by repeat (first | (with_reducible first | exact HB1.out | apply below_alloc | apply pw_below_drewN | apply below_drew1) | exact HB1.out)⟩
  have m2 : decide (a1 < 0) = false := decide_eq_false m1
  by_cases m3 : 255 < a1
  · have m4 : decide ((255 : Int) < a1) = true := decide_eq_true m3
    clear m3
    go_wp2
    go_ret
    exact ⟨by first | rfl | (simp; done), by repeat (first | (with_reducible first | exact HB1.out | apply below_alloc | apply pw_below_drewN | apply below_drew1) | exact HB1.out)⟩
  have m4 : decide ((255 : Int) < a1) = false := decide_eq_false m3
  have HM := Aside0.mk (And.intro m1 m3)
  clear m1 m3
  go_upto_region 6 with (first
    | (go_at_call 25; (refine (frame_Read.calls 60 A0 c0 l0 r0 r1 r2 r3 r4 r5 r6 r7 r8 r9 r10 r11 r12 r13 r14 r15 r16 r17 r18 r19 r20 r21 r22 _ (Kd.C_below HR.out HB1.out) HC.out HQ.out).mono ?_); rintro e w2 ⟨v9, v10, rfl, ho9, ho10, hb2⟩; obtain ⟨A9, c9, rfl⟩ := Kd.R_slice ho9; obtain ⟨A10, c10, rfl⟩ := Kd.R_slice ho10; have HB2 := Aside0.mk (below_step HB1.out hb2); clear hb2 ho9 ho10)
    | (refine wpList_store_row rfl 37 (.tmp 5) (.tmp 26) rfl w2.heap.size #[.int .i64 r0, .int .i64 r1, .bool r2, .bool r3, .int .i64 r4, .int .i64 r5, .int .i64 r6, .int .u32 r7, .int .u32 r8, .slice A9 r9.length c9, .slice A10 r10.length c10, .int .i64 r11, .int .u32 r12, .int .i64 r13, .int .u32 r14, .int .i64 r15, .int .i64 r16, .int .i64 r17, .int .u32 r18, .int .i64 r19, .int .u32 r20, .int .i64 r21] (by rfl) (by rfl) 37 #[.int .i64 0, .int .i64 0, .bool false, .bool false, .int .i64 0, .int .i64 0, .int .i64 0, .int .u32 0, .int .u32 0, .slice none 0 0, .slice none 0 0, .int .i64 0, .int .u32 0, .int .i64 0, .int .u32 0, .int .i64 0, .int .i64 0, .int .i64 0, .int .u32 0, .int .i64 0, .int .u32 0, .int .i64 0] (by exact heap_alloc_new _ _) (by kernel_rfl) rfl (by kernel_rfl) ?_))
  obtain ⟨p, hp⟩ : ∃ p, p = w2.heap.size := ⟨_, rfl⟩
  have HP := Aside0.mk (setRow_heap _ _ _ #[.int .i64 r0, .int .i64 r1, .bool r2, .bool r3, .int .i64 r4, .int .i64 r5, .int .i64 r6, .int .u32 r7, .int .u32 r8, .slice A9 r9.length c9, .slice A10 r10.length c10, .int .i64 r11, .int .u32 r12, .int .i64 r13, .int .u32 r14, .int .i64 r15, .int .i64 r16, .int .i64 r17, .int .u32 r18, .int .i64 r19, .int .u32 r20, .int .i64 r21] _ _ (heap_alloc_new w2 (.cells #[.int .i64 0, .int .i64 0, .bool false, .bool false, .int .i64 0, .int .i64 0, .int .i64 0, .int .u32 0, .int .u32 0, .slice none 0 0, .slice none 0 0, .int .i64 0, .int .u32 0, .int .i64 0, .int .u32 0, .int .i64 0, .int .i64 0, .int .i64 0, .int .u32 0, .int .i64 0, .int .u32 0, .int .i64 0] 37)))
  have HB3 := Aside0.mk (below_row (cs := #[.int .i64 r0, .int .i64 r1, .bool r2, .bool r3, .int .i64 r4, .int .i64 r5, .int .i64 r6, .int .u32 r7, .int .u32 r8, .slice A9 r9.length c9, .slice A10 r10.length c10, .int .i64 r11, .int .u32 r12, .int .i64 r13, .int .u32 r14, .int .i64 r15, .int .i64 r16, .int .i64 r17, .int .u32 r18, .int .i64 r19, .int .u32 r20, .int .i64 r21]) (below_alloc HB2.out (.cells #[.int .i64 0, .int .i64 0, .bool false, .bool false, .int .i64 0, .int .i64 0, .int .i64 0, .int .u32 0, .int .u32 0, .slice none 0 0, .slice none 0 0, .int .i64 0, .int .u32 0, .int .i64 0, .int .u32 0, .int .i64 0, .int .i64 0, .int .i64 0, .int .u32 0, .int .i64 0, .int .u32 0, .int .i64 0] 37)) (below_size HB2.out))
  rw [← hp] at HP HB3 ⊢
  clear hp HB2
  generalize ((w2.alloc (.cells #[.int .i64 0, .int .i64 0, .bool false, .bool false, .int .i64 0, .int .i64 0, .int .i64 0, .int .u32 0, .int .u32 0, .slice none 0 0, .slice none 0 0, .int .i64 0, .int .u32 0, .int .i64 0, .int .u32 0, .int .i64 0, .int .i64 0, .int .i64 0, .int .u32 0, .int .i64 0, .int .u32 0, .int .i64 0] 37)).setRow p #[.int .i64 r0, .int .i64 r1, .bool r2, .bool r3, .int .i64 r4, .int .i64 r5, .int .i64 r6, .int .u32 r7, .int .u32 r8, .slice A9 r9.length c9, .slice A10 r10.length c10, .int .i64 r11, .int .u32 r12, .int .i64 r13, .int .u32 r14, .int .i64 r15, .int .i64 r16, .int .i64 r17, .int .u32 r18, .int .i64 r19, .int .u32 r20, .int .i64 r21]) = w3 at HP HB3 ⊢
  by_cases e : r22 = 0
  case neg =>
    have e0 : (r22 != 0) = true := bne_iff_ne.2 e
    have e1 : (r22 == 0) = false := beq_eq_false_iff_ne.2 e
    clear e
    go_wp2
    go_ret
    exact ⟨by first | rfl | (simp; done), by repeat (first | (with_reducible first | exact HB3.out | apply below_alloc | apply pw_below_drewN | apply below_drew1) | exact HB3.out)⟩
  have e0 : (r22 != 0) = false := bne_eq_false_iff_eq.2 e
  have e1 : (r22 == 0) = true := beq_iff_eq.2 e
  go_upto_region 9 with (go_at_call 47; (refine (inner_Fault.calls 60 3 a1 77 A0 c0 l0 y1 ye _ (Kd.C_below HR.out HB3.out) HC.out HQ2.out).mono ?_); rintro e w4 ⟨v1, rfl, ho, hb4⟩; obtain ⟨Af, cf, rfl⟩ := Kd.R_slice ho; have HRF := Aside0.mk (Kd.R_reads' ho).2.2; have HCF := Aside0.mk (Kd.R_reads' ho).2.1; have HB4 := Aside0.mk (below_step HB3.out hb4); have HP4 := Aside0.mk (blk_below HP.out hb4); clear ho hb4)
  have h11 : w4.cell? ⟨p, 11, none⟩ = some (.int .i64 r11) := (blk_cell HP4.out 11).trans rfl
  by_cases e5 : r11 = 5
  · have e6 : (r11 == 5) = true := beq_iff_eq.2 e5
    have e7 := HK5.out (by have := HM.out.1; omega) (by have := HM.out.2; omega) e e5
    simp only [Prod.mk.injEq] at e7
    obtain ⟨-, rfl⟩ := e7
    clear e e5
    go_wp2
    go_ret
    exact ⟨by first | rfl | (simp; done), by repeat (first | (with_reducible first | exact HB4.out | apply below_alloc | apply pw_below_drewN | apply below_drew1) | exact HB4.out)⟩
  have e6 : (r11 == 5) = false := beq_eq_false_iff_ne.2 e5
  obtain ⟨e7, hby, b, hfr⟩ := HKG.out (by have := HM.out.1; omega) (by have := HM.out.2; omega) e e5
  have e7 : ye = 0 := e7
  subst e7
  have hq3 := fRead_to y1 hby 60 (by decide)
  rw [show fRead y1 = (0, 0, false, false, 0, 64, 1, 77, r7, [], b, 5, 77, 0, r7, 0, 0, r6, r12, r13, r14, r15, 0) from hfr] at hq3
  have HQ3 := Aside0.mk hq3
  clear hq3 hfr hby e e5 HK5 HKG
  go_upto_region 12 with (first
    | (go_at_call 25; (refine (frame_Read.calls 60 Af cf y1 0 0 false false 0 64 1 77 r7 [] b 5 77 0 r7 0 0 r6 r12 r13 r14 r15 0 w4 HRF.out HCF.out HQ3.out).mono ?_); rintro e w5 ⟨v9, v10, rfl, ho9, ho10, hb5⟩; obtain ⟨B9, d9, rfl⟩ := Kd.R_slice ho9; obtain ⟨B10, d10, rfl⟩ := Kd.R_slice ho10; have HB5 := Aside0.mk (below_step HB4.out hb5); have HP5 := Aside0.mk (blk_below HP4.out hb5); clear hb5 ho9 ho10)
    | (refine wpList_store_row rfl 37 (.tmp 9) (.tmp 44) rfl w5.heap.size #[.int .i64 0, .int .i64 0, .bool false, .bool false, .int .i64 0, .int .i64 64, .int .i64 1, .int .u32 77, .int .u32 r7, .slice B9 0 d9, .slice B10 b.length d10, .int .i64 5, .int .u32 77, .int .i64 0, .int .u32 r7, .int .i64 0, .int .i64 0, .int .i64 r6, .int .u32 r12, .int .i64 r13, .int .u32 r14, .int .i64 r15] (by rfl) (by rfl) 37 #[.int .i64 0, .int .i64 0, .bool false, .bool false, .int .i64 0, .int .i64 0, .int .i64 0, .int .u32 0, .int .u32 0, .slice none 0 0, .slice none 0 0, .int .i64 0, .int .u32 0, .int .i64 0, .int .u32 0, .int .i64 0, .int .i64 0, .int .i64 0, .int .u32 0, .int .i64 0, .int .u32 0, .int .i64 0] (by exact heap_alloc_new _ _) (by kernel_rfl) rfl (by kernel_rfl) ?_))
  obtain ⟨q, hq_⟩ : ∃ q, q = w5.heap.size := ⟨_, rfl⟩
  have HQ7 := Aside0.mk (setRow_heap _ _ _ #[.int .i64 0, .int .i64 0, .bool false, .bool false, .int .i64 0, .int .i64 64, .int .i64 1, .int .u32 77, .int .u32 r7, .slice B9 0 d9, .slice B10 b.length d10, .int .i64 5, .int .u32 77, .int .i64 0, .int .u32 r7, .int .i64 0, .int .i64 0, .int .i64 r6, .int .u32 r12, .int .i64 r13, .int .u32 r14, .int .i64 r15] _ _ (heap_alloc_new w5 (.cells #[.int .i64 0, .int .i64 0, .bool false, .bool false, .int .i64 0, .int .i64 0, .int .i64 0, .int .u32 0, .int .u32 0, .slice none 0 0, .slice none 0 0, .int .i64 0, .int .u32 0, .int .i64 0, .int .u32 0, .int .i64 0, .int .i64 0, .int .i64 0, .int .u32 0, .int .i64 0, .int .u32 0, .int .i64 0] 37)))
  have HP7 := Aside0.mk ((setRow_other _ w5.heap.size p #[.int .i64 0, .int .i64 0, .bool false, .bool false, .int .i64 0, .int .i64 64, .int .i64 1, .int .u32 77, .int .u32 r7, .slice B9 0 d9, .slice B10 b.length d10, .int .i64 5, .int .u32 77, .int .i64 0, .int .u32 r7, .int .i64 0, .int .i64 0, .int .i64 r6, .int .u32 r12, .int .i64 r13, .int .u32 r14, .int .i64 r15] (Nat.ne_of_lt (blk_lt HP5.out))).trans (blk_alloc HP5.out (.cells #[.int .i64 0, .int .i64 0, .bool false, .bool false, .int .i64 0, .int .i64 0, .int .i64 0, .int .u32 0, .int .u32 0, .slice none 0 0, .slice none 0 0, .int .i64 0, .int .u32 0, .int .i64 0, .int .u32 0, .int .i64 0, .int .i64 0, .int .i64 0, .int .u32 0, .int .i64 0, .int .u32 0, .int .i64 0] 37)))
  have HB7 := Aside0.mk (below_row (cs := #[.int .i64 0, .int .i64 0, .bool false, .bool false, .int .i64 0, .int .i64 64, .int .i64 1, .int .u32 77, .int .u32 r7, .slice B9 0 d9, .slice B10 b.length d10, .int .i64 5, .int .u32 77, .int .i64 0, .int .u32 r7, .int .i64 0, .int .i64 0, .int .i64 r6, .int .u32 r12, .int .i64 r13, .int .u32 r14, .int .i64 r15]) (below_alloc HB5.out (.cells #[.int .i64 0, .int .i64 0, .bool false, .bool false, .int .i64 0, .int .i64 0, .int .i64 0, .int .u32 0, .int .u32 0, .slice none 0 0, .slice none 0 0, .int .i64 0, .int .u32 0, .int .i64 0, .int .u32 0, .int .i64 0, .int .i64 0, .int .i64 0, .int .u32 0, .int .i64 0, .int .u32 0, .int .i64 0] 37)) (below_size HB5.out))
  rw [← hq_] at HQ7 HP7 HB7 ⊢
  clear hq_ HB5 HP5
  generalize ((w5.alloc (.cells #[.int .i64 0, .int .i64 0, .bool false, .bool false, .int .i64 0, .int .i64 0, .int .i64 0, .int .u32 0, .int .u32 0, .slice none 0 0, .slice none 0 0, .int .i64 0, .int .u32 0, .int .i64 0, .int .u32 0, .int .i64 0, .int .i64 0, .int .i64 0, .int .u32 0, .int .i64 0, .int .u32 0, .int .i64 0] 37)).setRow q #[.int .i64 0, .int .i64 0, .bool false, .bool false, .int .i64 0, .int .i64 64, .int .i64 1, .int .u32 77, .int .u32 r7, .slice B9 0 d9, .slice B10 b.length d10, .int .i64 5, .int .u32 77, .int .i64 0, .int .u32 r7, .int .i64 0, .int .i64 0, .int .i64 r6, .int .u32 r12, .int .i64 r13, .int .u32 r14, .int .i64 r15]) = x7 at HQ7 HP7 HB7 ⊢
  have zq5 : x7.cell? ⟨q, 5, none⟩ = some (.int .i64 64) := (blk_cell HQ7.out 5).trans rfl
  have zq7 : x7.cell? ⟨q, 7, none⟩ = some (.int .u32 77) := (blk_cell HQ7.out 7).trans rfl
  have zq8 : x7.cell? ⟨q, 8, none⟩ = some (.int .u32 r7) := (blk_cell HQ7.out 8).trans rfl
  have zq11 : x7.cell? ⟨q, 11, none⟩ = some (.int .i64 5) := (blk_cell HQ7.out 11).trans rfl
  have zq17 : x7.cell? ⟨q, 17, none⟩ = some (.int .i64 r6) := (blk_cell HQ7.out 17).trans rfl
  have zq18 : x7.cell? ⟨q, 18, none⟩ = some (.int .u32 r12) := (blk_cell HQ7.out 18).trans rfl
  have zq19 : x7.cell? ⟨q, 19, none⟩ = some (.int .i64 r13) := (blk_cell HQ7.out 19).trans rfl
  have zq20 : x7.cell? ⟨q, 20, none⟩ = some (.int .u32 r14) := (blk_cell HQ7.out 20).trans rfl
  have zq21 : x7.cell? ⟨q, 21, none⟩ = some (.int .i64 r15) := (blk_cell HQ7.out 21).trans rfl
  have zp6 : x7.cell? ⟨p, 6, none⟩ = some (.int .i64 r6) := (blk_cell HP7.out 6).trans rfl
  have zp7 : x7.cell? ⟨p, 7, none⟩ = some (.int .u32 r7) := (blk_cell HP7.out 7).trans rfl
  have zp12 : x7.cell? ⟨p, 12, none⟩ = some (.int .u32 r12) := (blk_cell HP7.out 12).trans rfl
  have zp13 : x7.cell? ⟨p, 13, none⟩ = some (.int .i64 r13) := (blk_cell HP7.out 13).trans rfl
  have zp14 : x7.cell? ⟨p, 14, none⟩ = some (.int .u32 r14) := (blk_cell HP7.out 14).trans rfl
  have zp15 : x7.cell? ⟨p, 15, none⟩ = some (.int .i64 r15) := (blk_cell HP7.out 15).trans rfl
  go_wp2
  go_ret
  exact ⟨by first | rfl | (simp; done), by repeat (first | (with_reducible first | exact HB7.out | apply below_alloc | apply pw_below_drewN | apply below_drew1) | exact HB7.out)⟩
end Go.Proofs.Ytljnnhloinbjhaa.Pure
