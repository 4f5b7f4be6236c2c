/- InnerFaults: about any bytes the error, or why there is none, is the document's. For at most 5000 bytes. -/
import Derived.Test.YtljnnhloinbjhaaP0
import Derived.Test.YtljnnhloinbjhaaPbailiwicklaw22InnerFaults
import Derived.Test.YtljnnhloinbjhaaPbailiwicklaw22awake
import Derived.Test.YtljnnhloinbjhaaPbailiwickref1
import Derived.Test.YtljnnhloinbjhaaPbailiwickref1Part
import Derived.Test.YtljnnhloinbjhaaPbailiwickref1Same
import Derived.Test.YtljnnhloinbjhaaPbailiwickref2
import Derived.Test.YtljnnhloinbjhaaPbailiwickref21Fault
import Derived.Test.YtljnnhloinbjhaaPbailiwickref2Build
import Derived.Test.YtljnnhloinbjhaaPbailiwickref2Long
import Derived.Test.YtljnnhloinbjhaaPbailiwickref2Parse
import Derived.Test.YtljnnhloinbjhaaPbailiwickref2word
import Derived.Test.YtljnnhloinbjhaaPbailiwickref3
import Derived.Test.YtljnnhloinbjhaaPbailiwickref3BuildWord
import Derived.Test.YtljnnhloinbjhaaPicmpBuild
import Derived.Test.YtljnnhloinbjhaaPinner
import Derived.Test.YtljnnhloinbjhaaPip
import Derived.Test.YtljnnhloinbjhaaPipBuild
import Derived.Test.YtljnnhloinbjhaaPipput
import Derived.Test.YtljnnhloinbjhaaPoctet
import Derived.Laws.BitsAllLaws
namespace Go.Proofs.Ytljnnhloinbjhaa.Pure
open Go.RowKit Go.Proofs.Ytljnnhloinbjhaa.P Go.Proofs.YtljnnhloinbjhaaW.PrintWords Go.Proofs.YtljnnhloinbjhaaW.PrintLast Go.Proofs.YtljnnhloinbjhaaW.PrintMore
set_option linter.unusedVariables false
set_option linter.unusedSimpArgs false
theorem w64 {x : Int} (h0 : -9223372036854775808 ≤ x) (h1 : x ≤ 9223372036854775807) : wrap64 x = x := by
  unfold wrap64
  omega
theorem rd_nat (l : List Int) (i : Nat) (h : i < l.length) : rd l (i : Int) = l[i] := by
  simp [rd, h]
theorem rd_getD (l : List Int) (i : Nat) : rd l (i : Int) = l.getD i 0 := by
  unfold rd
  rw [Int.toNat_natCast]
theorem drop_rd (l : List Int) (i : Nat) (h : i < l.length) : l.drop i = rd l (i : Int) :: l.drop (i + 1) := by
  rw [rd_nat l i h, List.drop_eq_getElem_cons h]
theorem two_pow_ne (n : Nat) : ((2 : Int) ^ n) ≠ 0 := by
  have h := Nat.two_pow_pos n
  have h2 : ((2 ^ n : Nat) : Int) = (2 : Int) ^ n := by simp
  omega
theorem and_mask (k : IntKind) (i : Nat) (hi : i ≤ k.bits) (x : Int) : Go.bits .and k x (2 ^ i - 1) = k.wrap (x % 2 ^ i) := by
  have hpos : 0 < 2 ^ i := Nat.two_pow_pos i
  have hc : ((2 : Int) ^ i - 1) = ((2 ^ i - 1 : Nat) : Int) := by
    rw [Int.natCast_sub hpos]; simp
  have hp : 2 ^ i ≤ 2 ^ k.bits := Nat.pow_le_pow_right (by decide) hi
  have hm : (2 ^ i - 1) % 2 ^ k.bits = 2 ^ i - 1 := Nat.mod_eq_of_lt (by omega)
  rw [hc]
  simp only [Go.bits, BitVec.toNat_and, BitVec.ofInt_natCast, BitVec.toNat_ofNat, hm, BitVec.toNat_ofInt, Nat.and_two_pow_sub_one_eq_mod]
  congr 1
  have h1 : (((x % ((2 : Int) ^ k.bits)).toNat % 2 ^ i : Nat) : Int) = x % 2 ^ i := by
    rw [Int.natCast_emod, Int.toNat_of_nonneg (Int.emod_nonneg _ (two_pow_ne k.bits))]
    rw [show (((2 ^ i : Nat) : Int)) = (2 : Int) ^ i by simp]
    exact Int.emod_emod_of_dvd x (by exact_mod_cast Nat.pow_dvd_pow 2 hi)
  exact_mod_cast h1
theorem and_u64 (x : Int) : Go.bits .and .u64 x 65535 = x % 65536 := by
  have h := and_mask .u64 16 (by decide) x
  rw [show ((2 : Int) ^ 16 - 1) = 65535 from rfl, show ((2 : Int) ^ 16) = 65536 from rfl] at h
  rw [h]
  simp [IntKind.wrap, IntKind.bits, IntKind.signed]
  omega
theorem wrap_u64 (n : Int) : IntKind.u64.wrap n = n % 18446744073709551616 := by simp [IntKind.wrap, IntKind.bits, IntKind.signed]
/-- What folding comes to: 0 of 0 alone, else a number from 1 to 65535 that is the same modulo 65535. -/
def fold16 (x : Int) : Int := if x = 0 then 0 else (x - 1) % 65535 + 1
theorem fold16_bound (x : Int) : 0 ≤ fold16 x ∧ fold16 x ≤ 65535 := by unfold fold16; split <;> omega
theorem fold16_step (x : Int) (h : 65535 < x) : fold16 (x / 65536 + x % 65536) = fold16 x := by
  unfold fold16
  rw [if_neg (by omega), if_neg (by omega)]
  omega
theorem fold16_small (x : Int) (h0 : 0 ≤ x) (h : x ≤ 65535) : fold16 x = x := by
  unfold fold16
  split <;> omega
def FoldTo (n : Nat) (B : Int) : Prop := ∀ (k : Nat) (x : Int), n ≤ k → 0 ≤ x → x ≤ B → octet_fold.l0 k x = some (fold16 x) ∧ bailiwickref1_fold.l0 k x = some (fold16 x)
theorem foldTo_one : FoldTo 1 65535 := by
  intro k x hk h0 h1
  obtain ⟨k, rfl⟩ : ∃ m, k = m + 1 := ⟨k - 1, by omega⟩
  simp only [octet_fold.l0, bailiwickref1_fold.l0]
  rw [if_neg (by omega), if_neg (by omega), fold16_small x h0 h1, w64 (by omega) (by omega)]
  exact ⟨rfl, rfl⟩
theorem foldTo_step {n : Nat} {B B' : Int} (h : FoldTo n B') (hB : ∀ x, 65535 < x → x ≤ B → x / 65536 + x % 65536 ≤ B') (h2 : B < 18446744073709551616) : FoldTo (n + 1) B := by
  intro k x hk h0 h1
  obtain ⟨k, rfl⟩ : ∃ m, k = m + 1 := ⟨k - 1, by omega⟩
  simp only [octet_fold.l0, bailiwickref1_fold.l0]
  by_cases hx : x > 65535
  · have := h k (x / 65536 + x % 65536) (by omega) (by omega) (hB x hx h1)
    rw [if_pos hx, if_pos hx, and_u64, wrap_u64, wrap_u64, Int.emod_eq_of_lt (by omega) (by omega), Int.emod_eq_of_lt (a := x % 65536 + x / 65536) (by omega) (by omega), Int.add_comm (x % 65536), ← fold16_step x hx]
    exact this
  · rw [if_neg hx, if_neg hx, fold16_small x h0 (by omega), w64 (by omega) (by omega)]
    exact ⟨rfl, rfl⟩
theorem foldTo_all : FoldTo 6 18446744073709551615 := by
  have h2 : FoldTo 2 131070 := foldTo_step foldTo_one (by intro x h0 h1; omega) (by omega)
  have h3 : FoldTo 3 4294967295 := foldTo_step h2 (by intro x h0 h1; omega) (by omega)
  have h4 : FoldTo 4 281470681743360 := foldTo_step h3 (by intro x h0 h1; omega) (by omega)
  have h5 : FoldTo 5 18446462594437939200 := foldTo_step h4 (by intro x h0 h1; omega) (by omega)
  exact foldTo_step h5 (by intro x h0 h1; omega) (by omega)
theorem fold_to (k : Nat) (hk : 6 ≤ k) (x : Int) (h0 : 0 ≤ x) (h1 : x < 18446744073709551616) : octet_fold.f k x = some (fold16 x) := (foldTo_all k x hk h0 (by omega)).1
theorem refFold_to (k : Nat) (hk : 6 ≤ k) (x : Int) (h0 : 0 ≤ x) (h1 : x < 18446744073709551616) : bailiwickref1_fold.f k x = some (fold16 x) := (foldTo_all k x hk h0 (by omega)).2
/-- Bytes. -/
def Bytes (l : List Int) : Prop := ∀ c ∈ l, 0 ≤ c ∧ c < 256
theorem bytes_of {l : List Int} (h : ∀ a ∈ l, (Lit.int .u8 a).wf = true) : Bytes l := by
  intro c hc
  have := h c hc
  simp [Lit.wf, IntKind.min, IntKind.max, IntKind.bits, IntKind.signed] at this
  omega
theorem Bytes.cons {c : Int} {l : List Int} (h : Bytes (c :: l)) : (0 ≤ c ∧ c < 256) ∧ Bytes l := ⟨h c (by simp), fun d hd => h d (by simp [hd])⟩
theorem Bytes.append {l m : List Int} (h : Bytes l) (h2 : Bytes m) : Bytes (l ++ m) := fun c hc => (List.mem_append.1 hc).elim (h c) (h2 c)
theorem Bytes.get {l : List Int} (h : Bytes l) (i : Nat) (hi : i < l.length) : 0 ≤ rd l (i : Int) ∧ rd l (i : Int) < 256 := by
  rw [rd_nat l i hi]
  exact h _ (List.getElem_mem hi)
/-- The sum of words, unfolded: o: is the next byte a lower one? -/
def wsum : Bool → List Int → Int
  | _, [] => 0
  | o, c :: l => (if o then c else c * 256) + wsum (!o) l
theorem wsum_bound (l : List Int) : ∀ o, Bytes l → 0 ≤ wsum o l ∧ wsum o l ≤ 65280 * l.length := by
  induction l with
  | nil => intro o _; simp [wsum]
  | cons c l ih =>
    intro o h
    obtain ⟨hc, hl⟩ := h.cons
    have := ih (!o) hl
    cases o <;> simp only [wsum, List.length_cons] at * <;> simp at * <;> omega
def parity (o : Bool) (l : List Int) : Bool := if l.length % 2 = 0 then o else !o
theorem sum_foldl (l : List Int) : ∀ (t : Int) (o : Bool), Bytes l → 0 ≤ t → t + 65280 * l.length < 18446744073709551616 → l.foldl octet_Sum.step (t, o) = (t + wsum o l, parity o l) := by
  induction l with
  | nil => intro t o _ _ _; simp [wsum, parity]
  | cons c l ih =>
    intro t o h h0 h1
    obtain ⟨hc, hl⟩ := h.cons
    simp only [List.length_cons] at h1
    have e : octet_Sum.step (t, o) c = (t + (if o then c else c * 256), !o) := by
      unfold octet_Sum.step
      cases o
      · simp only [Bool.false_eq_true, if_false]
        rw [wrap_u64, wrap_u64, wrap_u64, Int.emod_eq_of_lt (a := c) (by omega) (by omega), Int.emod_eq_of_lt (a := c * 256) (by omega) (by omega), Int.emod_eq_of_lt (by omega) (by omega)]
      · simp only [if_true]
        rw [wrap_u64, wrap_u64, Int.emod_eq_of_lt (a := c) (by omega) (by omega), Int.emod_eq_of_lt (by omega) (by omega)]
    rw [List.foldl_cons, e, ih _ _ hl (by split <;> omega) (by split <;> omega)]
    refine Prod.ext ?_ ?_
    · simp only [wsum]; omega
    · simp only [parity, List.length_cons]
      by_cases hp : l.length % 2 = 0
      · rw [if_pos hp, if_neg (by omega)]
      · rw [if_neg hp, if_pos (by omega)]; simp
theorem tot_flat (l0 : List (List Int)) : ∀ s, octet_Sum.tot s l0 = l0.flatten.foldl octet_Sum.step s := by
  unfold octet_Sum.tot
  induction l0 with
  | nil => intro s; rfl
  | cons b l ih => intro s; rw [List.foldl_cons, ih, List.flatten_cons, List.foldl_append]
/-- The Sum of rows of bytes. -/
def sumOf (l : List Int) : Int := fold16 (wsum false l)
theorem sumOf_bound (l : List Int) : 0 ≤ sumOf l ∧ sumOf l ≤ 65535 := fold16_bound _
theorem sum_to (l0 : List (List Int)) (hb : Bytes l0.flatten) (hl : l0.flatten.length ≤ 1000000000) : octet_Sum.f l0 = some (sumOf l0.flatten) := by
  unfold octet_Sum.f sumOf
  have h := wsum_bound l0.flatten false hb
  rw [tot_flat, sum_foldl _ 0 false hb (by omega) (by omega), fold_to 8 (by omega) _ (by omega) (by omega)]
  simp
theorem sum_one (l : List Int) (hb : Bytes l) (hl : l.length ≤ 1000000000) : octet_Sum.f [l] = some (sumOf l) := by
  have := sum_to [l] (by simpa using hb) (by simpa using hl)
  simpa using this
theorem check_to (l0 : List (List Int)) (hb : Bytes l0.flatten) (hl : l0.flatten.length ≤ 1000000000) : octet_Check.f l0 = some (65535 - sumOf l0.flatten) := by
  unfold octet_Check.f
  rw [sum_to l0 hb hl]
  have := sumOf_bound l0.flatten
  simp only [Option.bind_some]
  rw [w64 (by omega) (by omega)]
theorem check_one (l : List Int) (hb : Bytes l) (hl : l.length ≤ 1000000000) : octet_Check.f [l] = some (65535 - sumOf l) := by
  have := check_to [l] (by simpa using hb) (by simpa using hl)
  simpa using this
theorem rdL_rd (x0 : List (List Int)) (i : Int) : rd_L1 x0 i = x0.getD i.toNat [] := rfl
theorem refSum_inner (x0 : List (List Int)) (i : Nat) (hi : i < x0.length) (hn : ((x0.getD i []).length : Int) ≤ 9223372036854775807) (rem : Nat) : ∀ (k j : Nat) (t : Int) (o : Bool), j + rem = (x0.getD i []).length →
    bailiwickref1_Sum.l1 (k + rem + 1) x0 t (!o) i j = bailiwickref1_Sum.l0 k x0 (((x0.getD i []).drop j).foldl octet_Sum.step (t, o)).1 (!(((x0.getD i []).drop j).foldl octet_Sum.step (t, o)).2) (wrap64 ((i : Int) + 1)) := by
  induction rem with
  | zero =>
    intro k j t o h
    rw [bailiwickref1_Sum.l1, if_pos (by omega), if_pos (by omega), rdL_rd, if_neg (by simp only [Int.toNat_natCast]; omega), List.drop_of_length_le (by omega)]
    rfl
  | succ rem ih =>
    intro k j t o h
    rw [show k + (rem + 1) + 1 = (k + rem + 1) + 1 by omega]
    have e2 : wrap64 ((j : Int) + 1) = ((j + 1 : Nat) : Int) := by rw [w64 (by omega) (by omega)]; simp
    rw [bailiwickref1_Sum.l1, if_pos (by omega), if_pos (by omega), rdL_rd, if_pos (by simp only [Int.toNat_natCast]; omega), e2]
    rw [if_pos (by omega : (0 : Int) ≤ (j : Int))]
    simp only [Int.toNat_natCast]
    rw [drop_rd (x0.getD i []) j (by omega), List.foldl_cons]
    cases o
    · simp only [Bool.not_false, if_true, Bool.not_true]
      have := ih k (j + 1) (octet_Sum.step (t, false) (rd (x0.getD i []) (j : Int))).1 true (by omega)
      simp only [Bool.not_true] at this
      exact this
    · simp only [Bool.not_true, Bool.false_eq_true, if_false, Bool.not_false]
      have := ih k (j + 1) (octet_Sum.step (t, true) (rd (x0.getD i []) (j : Int))).1 false (by omega)
      simp only [Bool.not_false] at this
      exact this
def cost : List (List Int) → Nat
  | [] => 0
  | b :: l => b.length + 2 + cost l
theorem refSum_outer (x0 : List (List Int)) (hx : (x0.length : Int) ≤ 9223372036854775806) (hn : ∀ b ∈ x0, (b.length : Int) ≤ 9223372036854775807) (rem : Nat) : ∀ (k i : Nat) (t : Int) (o : Bool), i + rem = x0.length →
    bailiwickref1_Sum.l0 (k + cost (x0.drop i) + 1) x0 t (!o) i = bailiwickref1_fold.f k (octet_Sum.tot (t, o) (x0.drop i)).1 := by
  induction rem with
  | zero =>
    intro k i t o h
    rw [List.drop_of_length_le (by omega)]
    simp only [cost, Nat.add_zero, bailiwickref1_Sum.l0]
    rw [if_neg (by omega)]
    simp [octet_Sum.tot]
  | succ rem ih =>
    intro k i t o h
    have hi : i < x0.length := by omega
    have hd : x0.drop i = x0.getD i [] :: x0.drop (i + 1) := by
      rw [List.drop_eq_getElem_cons hi]; simp [hi]
    have hm : ((x0.getD i []).length : Int) ≤ 9223372036854775807 := hn _ (by simp [hi])
    rw [hd]
    simp only [cost]
    rw [show k + ((x0.getD i []).length + 2 + cost (x0.drop (i + 1))) + 1 = ((k + cost (x0.drop (i + 1)) + 1) + (x0.getD i []).length + 1) + 1 by omega]
    rw [bailiwickref1_Sum.l0, if_pos (by omega)]
    have := refSum_inner x0 i hi hm (x0.getD i []).length (k + cost (x0.drop (i + 1)) + 1) 0 t o (by omega)
    rw [show ((0 : Nat) : Int) = 0 from rfl] at this
    rw [this, List.drop_zero, show wrap64 ((i : Int) + 1) = ((i + 1 : Nat) : Int) by rw [w64 (by omega) (by omega)]; simp]
    rw [ih k (i + 1) _ _ (by omega)]
    congr 2
theorem refSum_to (x0 : List (List Int)) (hx : (x0.length : Int) ≤ 9223372036854775806) (hb : Bytes x0.flatten) (hl : x0.flatten.length ≤ 1000000000) (k : Nat) (hk : cost x0 + 7 ≤ k) : bailiwickref1_Sum.f k x0 = some (sumOf x0.flatten) := by
  obtain ⟨m, rfl⟩ : ∃ m, k = m + cost x0 + 1 := ⟨k - cost x0 - 1, by omega⟩
  unfold bailiwickref1_Sum.f
  have hn : ∀ b ∈ x0, (b.length : Int) ≤ 9223372036854775807 := by
    intro b hb
    have : b.length ≤ x0.flatten.length := by
      clear hl hk hx
      induction x0 with
      | nil => simp at hb
      | cons c l ih =>
        rw [List.flatten_cons, List.length_append]
        rcases List.mem_cons.1 hb with rfl | h
        · omega
        · have := ih (fun d hd => by rename_i hB; exact hB d (by rw [List.flatten_cons]; exact List.mem_append_right _ hd)) h
          omega
    omega
  have := refSum_outer x0 hx hn x0.length m 0 0 false (by omega)
  simp only [List.drop_zero, Bool.not_false] at this
  rw [show ((0 : Nat) : Int) = 0 from rfl] at this
  rw [this, tot_flat]
  have h := wsum_bound x0.flatten false hb
  rw [sum_foldl _ 0 false hb (by omega) (by omega), refFold_to m (by omega) _ (by simp; omega) (by simp; omega)]
  simp [sumOf]
/-- Comparisons. -/
theorem same_loop (l : List Int) (hl : l.length ≤ 140737488351232) (rem : Nat) : ∀ (k i : Nat), i + rem = l.length → rem < k → bailiwickref1_Same.l0 k l l i = some true := by
  induction rem with
  | zero =>
    intro k i h hk
    obtain ⟨k, rfl⟩ : ∃ q, k = q + 1 := ⟨k - 1, by omega⟩
    simp only [bailiwickref1_Same.l0]
    rw [if_neg (by omega)]
  | succ rem ih =>
    intro k i h hk
    obtain ⟨k, rfl⟩ : ∃ q, k = q + 1 := ⟨k - 1, by omega⟩
    simp only [bailiwickref1_Same.l0]
    rw [if_pos (by omega), if_pos (by omega), if_pos (by omega), if_pos trivial, show wrap64 ((i : Int) + 1) = ((i + 1 : Nat) : Int) by rw [w64 (by omega) (by omega)]; simp]
    exact ih k (i + 1) (by omega) (by omega)
theorem same_to (l : List Int) (hl : l.length ≤ 140737488351232) (k : Nat) (hk : l.length < k) : bailiwickref1_Same.f k l l = some true := by
  unfold bailiwickref1_Same.f
  rw [if_pos rfl]
  have := same_loop l hl l.length k 0 (by omega) hk
  simpa using this
/-- The bytes behind n rounds of laying x from place a + n - 1 down to a. -/
def lay (l : List Int) (a : Nat) : Nat → Int → List Int
  | 0, _ => l
  | n + 1, x => lay (l.set (a + n) (x % 256)) a n (x / 256)
def put (l : List Int) (a n x : Int) : List Int × Bool := if 1 ≤ n ∧ n ≤ 8 ∧ 0 ≤ a ∧ a + n ≤ (l.length : Int) then (lay l a.toNat n.toNat x, true) else ([], false)
/-- What was laid is read: the value of n bytes. -/
def beVal (x : Int) (l : List Int) : Int := l.foldl (fun x c => x * 256 + c) x
theorem or_u64 (x c : Int) (h0 : 0 ≤ x) (h1 : x < 72057594037927936) (hc : 0 ≤ c) (hc1 : c < 256) : Go.bits .or .u64 (IntKind.u64.wrap (x * 256)) (IntKind.u64.wrap c) = x * 256 + c := by
  rw [wrap_u64, wrap_u64, Int.emod_eq_of_lt (by omega) (by omega), Int.emod_eq_of_lt (by omega) (by omega)]
  exact bits_join .u64 64 (by decide) (fun n h0 h1 => by rw [wrap_u64]; omega) 8 (x * 256) c (by omega) (by simp) (by omega) hc (by omega) (by omega)
theorem be_val (l : List Int) : ∀ (x : Int), Bytes l → 0 ≤ x → x * 256 ^ l.length + 256 ^ l.length ≤ 18446744073709551616 → octet_Get.be x l = beVal x l ∧ 0 ≤ beVal x l ∧ beVal x l < x * 256 ^ l.length + 256 ^ l.length := by
  induction l with
  | nil => intro x _ h0 h1; simp [octet_Get.be, beVal] at *; omega
  | cons c l ih =>
    intro x h h0 h1
    obtain ⟨hc, hl⟩ := h.cons
    have hp : (1 : Int) ≤ 256 ^ l.length := by
      have : (0 : Int) < 256 ^ l.length := Int.pow_pos (by decide)
      omega
    have hx : (256 : Int) ^ (c :: l).length = 256 ^ l.length * 256 := Int.pow_succ ..
    rw [hx] at h1 ⊢
    generalize hq : (256 : Int) ^ l.length = q at *
    have h2 : (x * 256 + c) * q + q ≤ x * (q * 256) + q * 256 := by
      have e : x * (q * 256) + q * 256 - ((x * 256 + c) * q + q) = q * (255 - c) := by
        rw [Int.mul_sub, Int.add_mul]
        have : x * (q * 256) = x * 256 * q := by rw [Int.mul_assoc, Int.mul_comm 256 q]
        rw [this, Int.mul_comm c q]
        omega
      have : 0 ≤ q * (255 - c) := Int.mul_nonneg (by omega) (by omega)
      omega
    have h3 : x * 256 + c < 18446744073709551616 := by
      have : (x * 256 + c) * 1 ≤ (x * 256 + c) * q := Int.mul_le_mul_of_nonneg_left hp (by omega)
      omega
    have e : octet_Get.be x (c :: l) = octet_Get.be (x * 256 + c) l := by
      show octet_Get.be (Go.bits .or .u64 (IntKind.u64.wrap (x * 256)) (IntKind.u64.wrap c)) l = _
      rw [or_u64 x c h0 (by omega) hc.1 hc.2]
    obtain ⟨i1, i2, i3⟩ := ih (x * 256 + c) hl (by omega) (by omega)
    refine ⟨by rw [e, i1]; rfl, i2, ?_⟩
    show beVal (x * 256 + c) l < _
    omega
theorem get_two (l : List Int) (a : Nat) (hb : Bytes l) (h : a + 2 ≤ l.length) : octet_Get.f l a 2 = some (l.getD a 0 * 256 + l.getD (a + 1) 0, true) := by
  unfold octet_Get.f
  rw [if_pos (by omega), show ((a : Int) + 2).toNat = a + 2 by omega, Int.toNat_natCast]
  have e : (l.take (a + 2)).drop a = [l.getD a 0, l.getD (a + 1) 0] := by
    rw [drop_rd _ a (by simp; omega), drop_rd _ (a + 1) (by simp; omega), List.drop_of_length_le (by simp; omega), rd_getD, rd_getD]
    simp [List.getD, List.getElem?_take]
  rw [e]
  have g : ∀ q, q < l.length → 0 ≤ l.getD q 0 ∧ l.getD q 0 < 256 := fun q hq => by
    have : l.getD q 0 = l[q] := by simp [hq]
    rw [this]; exact hb _ (List.getElem_mem hq)
  have := (be_val [l.getD a 0, l.getD (a + 1) 0] 0 (by
    intro c hc
    simp only [List.mem_cons, List.not_mem_nil, or_false] at hc
    rcases hc with rfl | rfl
    · exact g _ (by omega)
    · exact g _ (by omega)) (by omega) (by simp)).1
  rw [this]
  simp [beVal]
theorem shr_at (x y : Int) (j : Nat) (h : min (IntKind.u64.wrap y).toNat IntKind.u64.bits = j) : shr .u64 x (IntKind.u64.wrap y) = x / 2 ^ j := by unfold shr; rw [h]
theorem refLay2 (l : List Int) (x : Int) (hl : l.length ≤ 1000000000) (k : Nat) (hk : 3 ≤ k) : bailiwickref1_Lay.f k l 2 x = some (l ++ [x / 256 % 256, x % 256]) := by
  obtain ⟨k, rfl⟩ : ∃ m, k = m + 1 + 1 + 1 := ⟨k - 3, by omega⟩
  unfold bailiwickref1_Lay.f
  rw [show wrap64 (2 - 1) = 1 by decide +kernel, bailiwickref1_Lay.l0, if_pos (by decide), if_pos (by decide +kernel), if_pos (by omega),
    show wrap64 (1 - 1) = 0 by decide +kernel, bailiwickref1_Lay.l0, if_pos (by decide), if_pos (by decide +kernel), if_pos (by simp; omega),
    show wrap64 (0 - 1) = -1 by decide +kernel, bailiwickref1_Lay.l0, if_neg (by decide)]
  rw [shr_at x _ 8 (by decide +kernel), shr_at x _ 0 (by decide +kernel)]
  simp
theorem refLay4 (l : List Int) (x : Int) (hl : l.length ≤ 1000000000) (k : Nat) (hk : 5 ≤ k) : bailiwickref1_Lay.f k l 4 x = some (l ++ [x / 16777216 % 256, x / 65536 % 256, x / 256 % 256, x % 256]) := by
  obtain ⟨k, rfl⟩ : ∃ m, k = m + 1 + 1 + 1 + 1 + 1 := ⟨k - 5, by omega⟩
  unfold bailiwickref1_Lay.f
  rw [show wrap64 (4 - 1) = 3 by decide +kernel, bailiwickref1_Lay.l0, if_pos (by decide), if_pos (by decide +kernel), if_pos (by omega),
    show wrap64 (3 - 1) = 2 by decide +kernel, bailiwickref1_Lay.l0, if_pos (by decide), if_pos (by decide +kernel), if_pos (by simp; omega),
    show wrap64 (2 - 1) = 1 by decide +kernel, bailiwickref1_Lay.l0, if_pos (by decide), if_pos (by decide +kernel), if_pos (by simp; omega),
    show wrap64 (1 - 1) = 0 by decide +kernel, bailiwickref1_Lay.l0, if_pos (by decide), if_pos (by decide +kernel), if_pos (by simp; omega),
    show wrap64 (0 - 1) = -1 by decide +kernel, bailiwickref1_Lay.l0, if_neg (by decide)]
  rw [shr_at x _ 24 (by decide +kernel), shr_at x _ 16 (by decide +kernel),
    shr_at x _ 8 (by decide +kernel), shr_at x _ 0 (by decide +kernel)]
  simp
theorem part_loop (l : List Int) (n : Nat) (hl : l.length ≤ 140737488351232) (hn : n ≤ l.length) (rem : Nat) : ∀ (k i : Nat) (m : List Int), i + rem = n → m.length ≤ i → rem < k → bailiwickref1_Part.l0 k l n m i = some (m ++ (l.take n).drop i) := by
  induction rem with
  | zero =>
    intro k i m h hm hk
    obtain ⟨k, rfl⟩ : ∃ q, k = q + 1 := ⟨k - 1, by omega⟩
    rw [bailiwickref1_Part.l0, if_neg (by omega), List.drop_of_length_le (by simp; omega), List.append_nil]
  | succ rem ih =>
    intro k i m h hm hk
    obtain ⟨k, rfl⟩ : ∃ q, k = q + 1 := ⟨k - 1, by omega⟩
    have e3 : rd (l.take n) ((i : Nat) : Int) = rd l ((i : Nat) : Int) := by
      rw [rd_nat _ _ (by simp; omega), rd_nat _ _ (by omega), List.getElem_take]
    rw [bailiwickref1_Part.l0, if_pos (by omega), if_pos (by omega), if_pos (by omega), if_pos (by omega), show wrap64 ((i : Int) + 1) = ((i + 1 : Nat) : Int) by rw [w64 (by omega) (by omega)]; simp]
    rw [ih k (i + 1) _ (by omega) (by simp; omega) (by omega), drop_rd (l.take n) i (by simp; omega), e3]
    simp
theorem part_to (l : List Int) (a n : Nat) (hl : l.length ≤ 140737488351232) (ha : a ≤ n) (hn : n ≤ l.length) (k : Nat) (hk : l.length < k) : bailiwickref1_Part.f k l a n = some ((l.take n).drop a) := by
  unfold bailiwickref1_Part.f
  rw [part_loop l n hl hn (n - a) k a [] (by omega) (by simp) (by omega)]
  rfl
theorem one_to (l : List Int) (hb : Bytes l) (hl : l.length ≤ 1000000) (k : Nat) (hk : l.length + 9 ≤ k) : bailiwickref1_One.f k l = some (sumOf l) := by
  unfold bailiwickref1_One.f
  rw [refSum_to [l] (by simp) (by simpa using hb) (by simp; omega) k (by simp [cost]; omega)]
  simp
/-- Numbers of two and four bytes. -/
def two (l : List Int) (a : Nat) : Int := rd l a * 256 + rd l (a + 1 : Nat)
def four (l : List Int) (a : Nat) : Int := rd l a * 16777216 + rd l (a + 1 : Nat) * 65536 + rd l (a + 2 : Nat) * 256 + rd l (a + 3 : Nat)
theorem or64 (x y : Int) (h0 : 0 ≤ x) (h1 : x < 256) (hc : 0 ≤ y) (hc1 : y < 256) : Go.bits .or .i64 (wrap64 (wrap64 x * 256)) (wrap64 y) = x * 256 + y := by
  rw [w64 (x := x) (by omega) (by omega), w64 (x := y) (by omega) (by omega), w64 (by omega) (by omega)]
  exact bits_join .i64 63 (by decide) (fun n h0 h1 => by rw [IntKind.wrap_i64]; omega) 8 (x * 256) y (by omega) (by simp) (by omega) hc (by omega) (by omega)
theorem or32 (i : Nat) (x y : Int) (hx0 : 0 ≤ x) (hx : x < 4294967296) (hm : x % 2 ^ i = 0) (hi : i < 32) (hy0 : 0 ≤ y) (hy : y < 2 ^ i) (hs : x + y < 4294967296) : Go.bits .or .u32 x y = x + y := by
  exact bits_join .u32 32 (by decide) (fun n h0 h1 => by simp [IntKind.wrap, IntKind.bits, IntKind.signed]; omega) i x y hx0 hm hx hy0 hy (by simp; omega)
theorem get2_to (l : List Int) (a : Nat) (hb : Bytes l) (h : a + 2 ≤ l.length) : octet_Get.f l a 2 = some (two l a, true) := by
  rw [get_two l a hb h]
  unfold two
  rw [rd_getD, rd_getD]
theorem get4_to (l : List Int) (a : Nat) (hb : Bytes l) (h : a + 4 ≤ l.length) : octet_Get.f l a 4 = some (four l a, true) := by
  unfold octet_Get.f
  rw [if_pos (by omega), show ((a : Int) + 4).toNat = a + 4 by omega, Int.toNat_natCast]
  have e3 : ∀ i, i < a + 4 → rd (l.take (a + 4)) ((i : Nat) : Int) = rd l ((i : Nat) : Int) := fun i hi => by
    rw [rd_nat _ _ (by simp; omega), rd_nat _ _ (by omega), List.getElem_take]
  have e : (l.take (a + 4)).drop a = [rd l ((a : Nat) : Int), rd l ((a + 1 : Nat) : Int), rd l ((a + 2 : Nat) : Int), rd l ((a + 3 : Nat) : Int)] := by
    rw [drop_rd _ a (by simp; omega), drop_rd _ (a + 1) (by simp; omega), drop_rd _ (a + 1 + 1) (by simp; omega), drop_rd _ (a + 1 + 1 + 1) (by simp; omega), List.drop_of_length_le (by simp; omega)]
    rw [e3 a (by omega), e3 (a + 1) (by omega), e3 (a + 1 + 1) (by omega), e3 (a + 1 + 1 + 1) (by omega)]
  rw [e, (be_val _ 0 (by
    intro c hc
    simp only [List.mem_cons, List.not_mem_nil, or_false] at hc
    rcases hc with rfl | rfl | rfl | rfl
    · exact hb.get a (by omega)
    · exact hb.get (a + 1) (by omega)
    · exact hb.get (a + 2) (by omega)
    · exact hb.get (a + 3) (by omega)) (by omega) (by simp)).1]
  simp only [beVal, List.foldl_cons, List.foldl_nil]
  unfold four
  congr 2
  omega
theorem two_bound (l : List Int) (a : Nat) (hb : Bytes l) (h : a + 2 ≤ l.length) : 0 ≤ two l a ∧ two l a < 65536 := by
  have g0 := hb.get a (by omega)
  have g1 := hb.get (a + 1) (by omega)
  unfold two
  omega
theorem four_bound (l : List Int) (a : Nat) (hb : Bytes l) (h : a + 4 ≤ l.length) : 0 ≤ four l a ∧ four l a < 4294967296 := by
  have g0 := hb.get a (by omega)
  have g1 := hb.get (a + 1) (by omega)
  have g2 := hb.get (a + 2) (by omega)
  have g3 := hb.get (a + 3) (by omega)
  unfold four
  omega
def izero (e : Int) : Int × Int × Bool × Bool × Int × Int × Int × Int × Int × List Int × List Int × Int := (0, 0, false, false, 0, 0, 0, 0, 0, [], [], e)
def ihead (l : List Int) : Int := rd l 0 % 16 * 4
def ipOf (l : List Int) : Int × Int × Bool × Bool × Int × Int × Int × Int × Int × List Int × List Int × Int :=
  if (l.length : Int) > 2048 then izero 3
  else if (l.length : Int) < 20 then izero 2
  else if rd l 0 / 16 ≠ 4 ∨ ihead l < 20 then izero 4
  else if (l.length : Int) < ihead l then izero 2
  else if two l 2 < ihead l ∨ Go.bits .and .i64 (two l 6) 32768 ≠ 0 then izero 4
  else if two l 2 > (l.length : Int) then izero 2
  else if sumOf (l.take (ihead l).toNat) ≠ 65535 then izero 5
  else (rd l 1, two l 4, (Go.bits .and .i64 (two l 6) 16384 != 0), (Go.bits .and .i64 (two l 6) 8192 != 0), Go.bits .and .i64 (two l 6) 8191, rd l 8, rd l 9, four l 12, four l 16, (l.take (ihead l).toNat).drop 20, (l.take (two l 2).toNat).drop (ihead l).toNat, 0)
theorem iget2 (l : List Int) (a : Nat) (hb : Bytes l) (h : a + 2 ≤ l.length) : ip_get.f l a 2 = some (two l a) := by
  unfold ip_get.f
  have := two_bound l a hb h
  rw [get2_to l a hb h, Option.bind_some, w64 (by omega) (by omega)]
theorem iget4 (l : List Int) (a : Nat) (hb : Bytes l) (h : a + 4 ≤ l.length) : ip_get.f l a 4 = some (four l a) := by
  unfold ip_get.f
  have := four_bound l a hb h
  rw [get4_to l a hb h, Option.bind_some, w64 (by omega) (by omega)]
theorem u32w2 (x : Int) (h : 0 ≤ x ∧ x < 4294967296) : IntKind.u32.wrap x = x := by rw [IntKind.wrap_u32]; omega
theorem Bytes.take2 {l : List Int} (h : Bytes l) (n : Nat) : Bytes (l.take n) := fun c hc => h c (List.mem_of_mem_take hc)
theorem ipParse_to (l : List Int) (hb : Bytes l) : ip_Parse.f l = some (ipOf l) := by
  unfold ip_Parse.f ipOf ip_Parse.zero
  by_cases h1 : (l.length : Int) > 2048
  · rw [if_pos h1, if_pos h1]; rfl
  by_cases h2 : (l.length : Int) < 20
  · rw [if_neg h1, if_neg h1, if_pos h2, if_pos h2]; rfl
  have b0 := hb.get 0 (by omega)
  have b1 := hb.get 1 (by omega)
  have b8 := hb.get 8 (by omega)
  have b9 := hb.get 9 (by omega)
  rw [show ((0 : Nat) : Int) = 0 from rfl] at b0
  rw [show ((1 : Nat) : Int) = 1 from rfl] at b1
  rw [show ((8 : Nat) : Int) = 8 from rfl] at b8
  rw [show ((9 : Nat) : Int) = 9 from rfl] at b9
  have eh : ihead l = rd l 0 % 16 * 4 := rfl
  rw [if_neg h1, if_neg h1, if_neg h2, if_neg h2, if_neg (Classical.not_not.2 ⟨⟨b0.1, by omega⟩, ⟨b1.1, by omega⟩, ⟨b8.1, by omega⟩, ⟨b9.1, by omega⟩⟩), ← eh]
  by_cases h3 : rd l 0 / 16 ≠ 4
  · rw [if_pos h3, if_pos (.inl h3)]; rfl
  by_cases h4 : ihead l < 20
  · rw [if_neg h3, if_pos h4, if_pos (.inr h4)]; rfl
  rw [if_neg h3, if_neg h4, if_neg (show ¬ (rd l 0 / 16 ≠ 4 ∨ ihead l < 20) by omega)]
  by_cases h5 : (l.length : Int) < ihead l
  · rw [if_pos h5, if_pos h5]; rfl
  have g2 := iget2 l 2 hb (by omega)
  have g6 := iget2 l 6 hb (by omega)
  have g4 := iget2 l 4 hb (by omega)
  have g12 := iget4 l 12 hb (by omega)
  have g16 := iget4 l 16 hb (by omega)
  rw [show ((2 : Nat) : Int) = 2 from rfl] at g2
  rw [show ((6 : Nat) : Int) = 6 from rfl] at g6
  rw [show ((4 : Nat) : Int) = 4 from rfl] at g4
  rw [show ((12 : Nat) : Int) = 12 from rfl] at g12
  rw [show ((16 : Nat) : Int) = 16 from rfl] at g16
  rw [if_neg h5, if_neg h5, g2, Option.bind_some, g6, Option.bind_some]
  by_cases h6 : two l 2 < ihead l
  · rw [if_pos h6, if_pos (.inl h6)]; rfl
  by_cases h7 : Go.bits .and .i64 (two l 6) 32768 ≠ 0
  · rw [if_neg h6, if_pos h7, if_pos (.inr h7)]; rfl
  rw [if_neg h6, if_neg h7, if_neg (show ¬ (two l 2 < ihead l ∨ Go.bits .and .i64 (two l 6) 32768 ≠ 0) from fun h => h.elim h6 h7)]
  by_cases h8 : two l 2 > (l.length : Int)
  · rw [if_pos h8, if_pos h8]; rfl
  rw [if_neg h8, if_neg h8, sum_one _ (hb.take2 _) (by rw [List.length_take]; omega), Option.bind_some]
  by_cases h9 : sumOf (l.take (ihead l).toNat) ≠ 65535
  · rw [if_pos h9, if_pos h9]; rfl
  rw [if_neg h9, if_neg h9, g4, Option.bind_some, g12, Option.bind_some, g16, Option.bind_some, u32w2 _ (four_bound l 12 hb (by omega)), u32w2 _ (four_bound l 16 hb (by omega))]
theorem or_comm64 (x y : Int) : Go.bits .or .i64 x y = Go.bits .or .i64 y x := by
  simp only [Go.bits]
  rw [BitVec.or_comm]
theorem or_join64 (i : Nat) (x y : Int) (hx0 : 0 ≤ x) (hx : x < 4294967296) (hm : x % 2 ^ i = 0) (hi : i < 32) (hy0 : 0 ≤ y) (hy : y < 2 ^ i) (hs : x + y < 4294967296) : Go.bits .or .i64 x y = x + y :=
  bits_join .i64 63 (by decide) (fun n h0 h1 => by rw [IntKind.wrap_i64]; omega) i x y hx0 hm (by omega) hy0 hy (by omega)
/-- The header's first byte. -/
theorem first_to (n : Nat) (h : n ≤ 40) : Go.bits .or .i64 64 (wrap64 ((20 + (n : Int)).tdiv 4)) = 64 + (20 + (n : Int)) / 4 := by
  rw [Int.tdiv_eq_ediv_of_nonneg (by omega), w64 (by omega) (by omega)]
  exact or_join64 4 64 _ (by decide) (by decide) (by decide) (by decide) (by omega) (by omega) (by omega)
def ipart (df mf : Bool) (off : Int) : Int := off + (if df = true then 16384 else 0) + (if mf = true then 8192 else 0)
theorem part_to' (df mf : Bool) (off : Int) (h0 : 0 ≤ off) (h1 : off ≤ 8191) : ip_Build.part df mf off = ipart df mf off := by
  unfold ip_Build.part ipart
  have e1 : Go.bits .or .i64 off 16384 = 16384 + off := by rw [or_comm64]; exact or_join64 14 16384 off (by decide) (by decide) (by decide) (by decide) h0 (by omega) (by omega)
  have e2 : Go.bits .or .i64 off 8192 = 8192 + off := by rw [or_comm64]; exact or_join64 13 8192 off (by decide) (by decide) (by decide) (by decide) h0 (by omega) (by omega)
  have e3 : Go.bits .or .i64 (16384 + off) 8192 = 24576 + off := by
    have a1 := or_join64 14 16384 (8192 + off) (by decide) (by decide) (by decide) (by decide) (by omega) (by omega) (by omega)
    have : Go.bits .or .i64 (Go.bits .or .i64 16384 off) 8192 = Go.bits .or .i64 16384 (Go.bits .or .i64 8192 off) := by
      rw [or_join64 14 16384 off (by decide) (by decide) (by decide) (by decide) h0 (by omega) (by omega)]
      have q : (16384 + off) = Go.bits .or .i64 16384 off := (or_join64 14 16384 off (by decide) (by decide) (by decide) (by decide) h0 (by omega) (by omega)).symm
      obtain ⟨n, rfl⟩ := Int.eq_ofNat_of_zero_le h0
      have hn : n < 8192 := by omega
      have hh1 : (16384 : Nat) ||| n = 16384 + n := by
        have := Nat.two_pow_add_eq_or_of_lt (i := 14) (b := n) (by omega) 1
        simpa using this.symm
      have hh2 : (8192 : Nat) ||| n = 8192 + n := by
        have := Nat.two_pow_add_eq_or_of_lt (i := 13) (b := n) (by omega) 1
        simpa using this.symm
      have e5 : Go.bits .or .i64 8192 (n : Int) = ((8192 + n : Nat) : Int) := by rw [or_join64 13 8192 n (by decide) (by decide) (by decide) (by decide) (by omega) (by omega) (by omega)]; simp
      rw [e5, show ((16384 : Int) + (n : Int)) = ((16384 + n : Nat) : Int) by simp, or_comm64, show ((16384 + n : Nat) : Int) = ((8192 + n + 8192 : Nat) : Int) by omega]
      have a2 := or_join64 14 16384 ((8192 + n : Nat) : Int) (by decide) (by decide) (by decide) (by decide) (by omega) (by omega) (by omega)
      rw [a2]
      have a3 : (8192 : Nat) ||| (8192 + n + 8192) = 24576 + n := by
        rw [show 8192 + n + 8192 = 16384 + n by omega, ← hh1, Nat.or_comm 16384 n, ← Nat.or_assoc, hh2, Nat.or_comm]
        have := Nat.two_pow_add_eq_or_of_lt (i := 14) (b := 8192 + n) (by omega) 1
        simp at this
        omega
      have a4 : Go.bits .or .i64 8192 ((8192 + n + 8192 : Nat) : Int) = ((8192 ||| (8192 + n + 8192) : Nat) : Int) := by
        simp only [Go.bits, BitVec.toNat_or, BitVec.ofInt_natCast, show (8192 : Int) = ((8192 : Nat) : Int) from rfl, BitVec.toNat_ofNat]
        rw [Nat.mod_eq_of_lt (show 8192 < 2 ^ IntKind.i64.bits by decide), Nat.mod_eq_of_lt (show 8192 + n + 8192 < 2 ^ IntKind.i64.bits by simp [IntKind.bits]; omega), a3, IntKind.wrap_i64]
        omega
      rw [a4, a3]
      omega
    rw [or_join64 14 16384 off (by decide) (by decide) (by decide) (by decide) h0 (by omega) (by omega), or_join64 13 8192 off (by decide) (by decide) (by decide) (by decide) h0 (by omega) (by omega), a1] at this
    rw [this]
    omega
  cases df <;> cases mf <;> simp only [if_true, if_false, Bool.false_eq_true] <;> (try rw [e1]) <;> (try rw [e2]) <;> (try rw [e3]) <;> omega
theorem inW_to (x : Int) (n : Nat) (hn : n ≤ 16) (hx : x ≤ 9223372036854775807) : ip_Build.inW x n = decide (0 ≤ x ∧ x < 2 ^ n) := by
  unfold ip_Build.inW
  have hpos : (0 : Int) < 2 ^ n := Int.pow_pos (by decide)
  by_cases h : x ≥ 0
  · rw [if_pos h]
    have e : shr .i64 x (n : Int) = x / 2 ^ n := by
      unfold shr
      congr 2
      show min ((n : Int)).toNat 64 = n
      omega
    rw [e, Bool.eq_iff_iff]
    simp only [beq_iff_eq, decide_eq_true_eq]
    constructor
    · intro h2
      refine ⟨h, ?_⟩
      rcases Int.lt_or_le x (2 ^ n) with h3 | h3
      · exact h3
      · have := Int.le_ediv_of_mul_le hpos (show 1 * 2 ^ n ≤ x by omega)
        omega
    · intro h2
      exact Int.ediv_eq_zero_of_lt h2.1 h2.2
  · rw [if_neg h, eq_comm, decide_eq_false]
    omega
/-- The twenty bytes of a header, its check c laid in. -/
def iHead (tos id fl ttl proto src dst n tot c : Int) : List Int := [(64 + (20 + n) / 4) % 256, tos % 256, tot / 256 % 256, tot % 256, id / 256 % 256, id % 256, fl / 256 % 256, fl % 256, ttl % 256, proto % 256, c / 256 % 256, c % 256, src / 16777216 % 256, src / 65536 % 256, src / 256 % 256, src % 256, dst / 16777216 % 256, dst / 65536 % 256, dst / 256 % 256, dst % 256]
theorem iHead_len (tos id fl ttl proto src dst n tot c : Int) : (iHead tos id fl ttl proto src dst n tot c).length = 20 := rfl
theorem iHead_bytes (tos id fl ttl proto src dst n tot c : Int) : Bytes (iHead tos id fl ttl proto src dst n tot c) := by
  intro x hx
  unfold iHead at hx
  simp only [List.mem_cons, List.not_mem_nil, or_false] at hx
  rcases hx with rfl | rfl | rfl | rfl | rfl | rfl | rfl | rfl | rfl | rfl | rfl | rfl | rfl | rfl | rfl | rfl | rfl | rfl | rfl | rfl <;> omega
def ihd (tos id : Int) (df mf : Bool) (off ttl proto src dst c : Int) (opts body : List Int) : List Int := iHead tos id (ipart df mf off) ttl proto src dst opts.length (20 + opts.length + body.length) c ++ opts
theorem ihd_len (tos id : Int) (df mf : Bool) (off ttl proto src dst c : Int) (opts body : List Int) : (ihd tos id df mf off ttl proto src dst c opts body).length = 20 + opts.length := by
  unfold ihd
  rw [List.length_append, iHead_len]
theorem ihd_bytes (tos id : Int) (df mf : Bool) (off ttl proto src dst c : Int) (opts body : List Int) (ho : Bytes opts) : Bytes (ihd tos id df mf off ttl proto src dst c opts body) := Bytes.append (iHead_bytes _ _ _ _ _ _ _ _ _ _) ho
def icheck (tos id : Int) (df mf : Bool) (off ttl proto src dst : Int) (opts body : List Int) : Int := 65535 - sumOf (ihd tos id df mf off ttl proto src dst 0 opts body)
theorem icheck_bound (tos id : Int) (df mf : Bool) (off ttl proto src dst : Int) (opts body : List Int) : 0 ≤ icheck tos id df mf off ttl proto src dst opts body ∧ icheck tos id df mf off ttl proto src dst opts body ≤ 65535 := by
  have := sumOf_bound (ihd tos id df mf off ttl proto src dst 0 opts body)
  unfold icheck
  omega
def ibytes (tos id : Int) (df mf : Bool) (off ttl proto src dst : Int) (opts body : List Int) : List Int := ihd tos id df mf off ttl proto src dst (icheck tos id df mf off ttl proto src dst opts body) opts body ++ body
theorem ibytes_len (tos id : Int) (df mf : Bool) (off ttl proto src dst : Int) (opts body : List Int) : (ibytes tos id df mf off ttl proto src dst opts body).length = 20 + opts.length + body.length := by
  unfold ibytes
  rw [List.length_append, ihd_len]
def iok (tos id off ttl proto : Int) (opts : List Int) : Prop := (0 ≤ tos ∧ tos < 256) ∧ (0 ≤ ttl ∧ ttl < 256) ∧ (0 ≤ proto ∧ proto < 256) ∧ (0 ≤ id ∧ id < 65536) ∧ (0 ≤ off ∧ off < 8192) ∧ opts.length ≤ 40 ∧ opts.length % 4 = 0
instance (tos id off ttl proto : Int) (opts : List Int) : Decidable (iok tos id off ttl proto opts) := by unfold iok; infer_instance
def ibuild (tos id : Int) (df mf : Bool) (off ttl proto src dst : Int) (opts body : List Int) : List Int × Int := if iok tos id off ttl proto opts then (if (body.length : Int) > 2028 - (opts.length : Int) then ([], 3) else (ibytes tos id df mf off ttl proto src dst opts body, 0)) else ([], 1)
theorem iput1 (l : List Int) (a : Nat) (x : Int) (hl : l.length ≤ 1000) (h : a + 1 ≤ l.length) : ip_Build.put l a 1 x = some (l.set a (x % 256)) := by
  unfold ip_Build.put ip_put.f
  have e0 : wrap64 ((1 : Int) - 1) = 0 := by unfold wrap64; omega
  have e1 : wrap64 ((a : Int) + 0) = (a : Int) := by rw [w64 (by omega) (by omega)]; omega
  have e2 : wrap64 ((0 : Int) - 1) = -1 := by unfold wrap64; omega
  rw [e0, ip_put.l0, if_pos (by decide), e1, if_pos (by omega), if_pos (by omega), e2, ip_put.l0, if_neg (by decide), Int.toNat_natCast]
theorem iput2 (l : List Int) (a : Nat) (x : Int) (hl : l.length ≤ 1000) (h : a + 2 ≤ l.length) : ip_Build.put l a 2 x = some ((l.set (a + 1) (x % 256)).set a (x / 256 % 256)) := by
  unfold ip_Build.put ip_put.f
  have e0 : wrap64 ((2 : Int) - 1) = 1 := by unfold wrap64; omega
  have e1 : wrap64 ((a : Int) + 1) = ((a + 1 : Nat) : Int) := by rw [w64 (by omega) (by omega)]; omega
  have e2 : wrap64 ((1 : Int) - 1) = 0 := by unfold wrap64; omega
  have e3 : wrap64 ((a : Int) + 0) = (a : Int) := by rw [w64 (by omega) (by omega)]; omega
  have e4 : wrap64 ((0 : Int) - 1) = -1 := by unfold wrap64; omega
  rw [e0, ip_put.l0, if_pos (by decide), e1, if_pos (by omega), if_pos (by omega), e2, ip_put.l0, if_pos (by decide), e3, if_pos (by omega), if_pos (by rw [List.length_set]; omega), e4, ip_put.l0, if_neg (by decide), Int.toNat_natCast, Int.toNat_natCast]
theorem iput4 (l : List Int) (a : Nat) (x : Int) (hl : l.length ≤ 1000) (h : a + 4 ≤ l.length) : ip_Build.put l a 4 x = some ((((l.set (a + 3) (x % 256)).set (a + 2) (x / 256 % 256)).set (a + 1) (x / 65536 % 256)).set a (x / 16777216 % 256)) := by
  unfold ip_Build.put ip_put.f
  have e0 : wrap64 ((4 : Int) - 1) = 3 := by unfold wrap64; omega
  have e1 : wrap64 ((a : Int) + 3) = ((a + 3 : Nat) : Int) := by rw [w64 (by omega) (by omega)]; omega
  have e2 : wrap64 ((3 : Int) - 1) = 2 := by unfold wrap64; omega
  have e3 : wrap64 ((a : Int) + 2) = ((a + 2 : Nat) : Int) := by rw [w64 (by omega) (by omega)]; omega
  have e4 : wrap64 ((2 : Int) - 1) = 1 := by unfold wrap64; omega
  have e5 : wrap64 ((a : Int) + 1) = ((a + 1 : Nat) : Int) := by rw [w64 (by omega) (by omega)]; omega
  have e6 : wrap64 ((1 : Int) - 1) = 0 := by unfold wrap64; omega
  have e7 : wrap64 ((a : Int) + 0) = (a : Int) := by rw [w64 (by omega) (by omega)]; omega
  have e8 : wrap64 ((0 : Int) - 1) = -1 := by unfold wrap64; omega
  rw [e0, ip_put.l0, if_pos (by decide), e1, if_pos (by omega), if_pos (by omega), e2, ip_put.l0, if_pos (by decide), e3, if_pos (by omega), if_pos (by rw [List.length_set]; omega), e4, ip_put.l0, if_pos (by decide), e5, if_pos (by omega), if_pos (by rw [List.length_set, List.length_set]; omega), e6, ip_put.l0, if_pos (by decide), e7, if_pos (by omega), if_pos (by rw [List.length_set, List.length_set, List.length_set]; omega), e8, ip_put.l0, if_neg (by decide), Int.toNat_natCast, Int.toNat_natCast, Int.toNat_natCast, Int.toNat_natCast]
  rw [show x / 256 / 256 % 256 = x / 65536 % 256 by omega, show x / 256 / 256 / 256 % 256 = x / 16777216 % 256 by omega]
theorem ihd_set (tos id : Int) (df mf : Bool) (off ttl proto src dst c : Int) (opts body : List Int) : ((ihd tos id df mf off ttl proto src dst 0 opts body).set 11 (c % 256)).set 10 (c / 256 % 256) = ihd tos id df mf off ttl proto src dst c opts body := rfl
set_option maxHeartbeats 4000000 in
theorem ibuild_to (tos id : Int) (df mf : Bool) (off ttl proto src dst : Int) (opts body : List Int) (ht : tos ≤ 9223372036854775807) (hi : id ≤ 9223372036854775807) (hof : off ≤ 9223372036854775807) (htt : ttl ≤ 9223372036854775807) (hpr : proto ≤ 9223372036854775807) (hs : 0 ≤ src ∧ src < 4294967296) (hd : 0 ≤ dst ∧ dst < 4294967296) (ho : Bytes opts) :
    ip_Build.f tos id df mf off ttl proto src dst opts body = some (ibuild tos id df mf off ttl proto src dst opts body) := by
  have w1 := inW_to tos 8 (by decide) ht
  have w2 := inW_to ttl 8 (by decide) htt
  have w3 := inW_to proto 8 (by decide) hpr
  have w4 := inW_to id 16 (by decide) hi
  have w5 := inW_to off 13 (by decide) hof
  rw [show (((8 : Nat) : Int)) = 8 from rfl, show ((2 : Int) ^ 8) = 256 by decide] at w1 w2 w3
  rw [show (((16 : Nat) : Int)) = 16 from rfl, show ((2 : Int) ^ 16) = 65536 by decide] at w4
  rw [show (((13 : Nat) : Int)) = 13 from rfl, show ((2 : Int) ^ 13) = 8192 by decide] at w5
  unfold ip_Build.f ibuild
  rw [w1, w2, w3, w4, w5]
  by_cases h1 : 0 ≤ tos ∧ tos < 256
  case neg => rw [if_pos (decide_eq_false h1), if_neg (fun h => h1 h.1)]
  rw [if_neg (by simpa using h1)]
  by_cases h2 : 0 ≤ ttl ∧ ttl < 256
  case neg => rw [if_pos (decide_eq_false h2), if_neg (fun h => h2 h.2.1)]
  rw [if_neg (by simpa using h2)]
  by_cases h3 : 0 ≤ proto ∧ proto < 256
  case neg => rw [if_pos (decide_eq_false h3), if_neg (fun h => h3 h.2.2.1)]
  rw [if_neg (by simpa using h3)]
  by_cases h4 : 0 ≤ id ∧ id < 65536
  case neg => rw [if_pos (decide_eq_false h4), if_neg (fun h => h4 h.2.2.2.1)]
  rw [if_neg (by simpa using h4)]
  by_cases h5 : 0 ≤ off ∧ off < 8192
  case neg => rw [if_pos (decide_eq_false h5), if_neg (fun h => h5 h.2.2.2.2.1)]
  rw [if_neg (by simpa using h5)]
  by_cases h6 : (opts.length : Int) > 40
  · rw [if_pos h6, if_neg (fun h => by have := h.2.2.2.2.2.1; omega)]
  rw [if_neg h6]
  by_cases h7 : opts.length % 4 ≠ 0
  · rw [if_pos h7, if_neg (fun h => by have := h.2.2.2.2.2.2; omega)]
  rw [if_neg h7, if_pos (show iok tos id off ttl proto opts from ⟨h1, h2, h3, h4, h5, by omega, by omega⟩)]
  by_cases h8 : (body.length : Int) > 2028 - (opts.length : Int)
  · rw [if_pos h8, if_pos h8]
  rw [if_neg h8, if_neg h8]
  have p0 := iput1 (List.replicate (20 + opts.length) 0) 0 (Go.bits .or .i64 64 (wrap64 ((20 + (opts.length : Int)).tdiv 4))) (by simp; omega) (by simp; omega)
  rw [show ((0 : Nat) : Int) = 0 from rfl] at p0
  rw [p0, Option.bind_some, first_to _ (by omega), part_to' df mf off h5.1 (by omega), w64 (x := src) (by omega) (by omega), w64 (x := dst) (by omega) (by omega)]
  have p1 := fun (l : List Int) (hl : l.length = 20 + opts.length) => iput1 l 1 tos (by omega) (by omega)
  have p2 := fun (l : List Int) (hl : l.length = 20 + opts.length) => iput2 l 2 (20 + (opts.length : Int) + (body.length : Int)) (by omega) (by omega)
  have p4 := fun (l : List Int) (hl : l.length = 20 + opts.length) => iput2 l 4 id (by omega) (by omega)
  have p6 := fun (l : List Int) (hl : l.length = 20 + opts.length) => iput2 l 6 (ipart df mf off) (by omega) (by omega)
  have p8 := fun (l : List Int) (hl : l.length = 20 + opts.length) => iput1 l 8 ttl (by omega) (by omega)
  have p9 := fun (l : List Int) (hl : l.length = 20 + opts.length) => iput1 l 9 proto (by omega) (by omega)
  have p12 := fun (l : List Int) (hl : l.length = 20 + opts.length) => iput4 l 12 src (by omega) (by omega)
  have p16 := fun (l : List Int) (hl : l.length = 20 + opts.length) => iput4 l 16 dst (by omega) (by omega)
  have p10 := fun (l : List Int) (c : Int) (hl : l.length = 20 + opts.length) => iput2 l 10 c (by omega) (by omega)
  rw [show ((1 : Nat) : Int) = 1 from rfl] at p1
  rw [show ((2 : Nat) : Int) = 2 from rfl] at p2
  rw [show ((4 : Nat) : Int) = 4 from rfl] at p4
  rw [show ((6 : Nat) : Int) = 6 from rfl] at p6
  rw [show ((8 : Nat) : Int) = 8 from rfl] at p8
  rw [show ((9 : Nat) : Int) = 9 from rfl] at p9
  rw [show ((12 : Nat) : Int) = 12 from rfl] at p12
  rw [show ((16 : Nat) : Int) = 16 from rfl] at p16
  rw [show ((10 : Nat) : Int) = 10 from rfl] at p10
  rw [p1 _ (by simp), Option.bind_some, p2 _ (by simp), Option.bind_some, p4 _ (by simp), Option.bind_some, p6 _ (by simp), Option.bind_some, p8 _ (by simp), Option.bind_some, p9 _ (by simp), Option.bind_some, p12 _ (by simp), Option.bind_some, p16 _ (by simp), Option.bind_some, if_pos (by simp)]
  have e20 : List.replicate (20 + opts.length) (0 : Int) = [0, 0, 0, 0, 0, 0, 0, 0, 0, 0, 0, 0, 0, 0, 0, 0, 0, 0, 0, 0] ++ List.replicate opts.length 0 := by
    rw [← List.replicate_append_replicate]
    rfl
  rw [e20]
  have eh : ∀ R : List Int, ((((((((((((((((((([0, 0, 0, 0, 0, 0, 0, 0, 0, 0, 0, 0, 0, 0, 0, 0, 0, 0, 0, 0] ++ R).set 0 ((64 + (20 + (opts.length : Int)) / 4) % 256)).set 1 (tos % 256)).set (2 + 1) ((20 + (opts.length : Int) + (body.length : Int)) % 256)).set 2 ((20 + (opts.length : Int) + (body.length : Int)) / 256 % 256)).set (4 + 1) (id % 256)).set 4 (id / 256 % 256)).set (6 + 1) (ipart df mf off % 256)).set 6 (ipart df mf off / 256 % 256)).set 8 (ttl % 256)).set 9 (proto % 256)).set (12 + 3) (src % 256)).set (12 + 2) (src / 256 % 256)).set (12 + 1) (src / 65536 % 256)).set 12 (src / 16777216 % 256)).set (16 + 3) (dst % 256)).set (16 + 2) (dst / 256 % 256)).set (16 + 1) (dst / 65536 % 256)).set 16 (dst / 16777216 % 256)).take 20 ++ opts = ihd tos id df mf off ttl proto src dst 0 opts body := fun R => rfl
  rw [eh, check_one _ (ihd_bytes tos id df mf off ttl proto src dst 0 opts body ho) (by rw [ihd_len]; omega), Option.bind_some, p10 _ _ (ihd_len ..), Option.bind_some, if_pos (by rw [List.length_set, List.length_set, ihd_len]; omega), ihd_set]
  rfl
theorem rword_to (l : List Int) (a : Nat) (hb : Bytes l) (hl : l.length ≤ 140737488351232) (h : a + 2 ≤ l.length) : bailiwickref2_word.f l a = some (two l a) := by
  unfold bailiwickref2_word.f
  have e : wrap64 ((a : Int) + 1) = ((a + 1 : Nat) : Int) := by rw [w64 (by omega) (by omega)]; simp
  have g0 := hb.get a (by omega)
  have g1 := hb.get (a + 1) (by omega)
  rw [e, if_pos (by omega), if_pos (by omega), if_pos (by omega), if_pos (by omega), or64 _ _ g0.1 g0.2 g1.1 g1.2]
  rfl
theorem rlong_to (l : List Int) (a : Nat) (hb : Bytes l) (hl : l.length ≤ 140737488351232) (h : a + 4 ≤ l.length) : bailiwickref2_Long.f l a = some (four l a) := by
  unfold bailiwickref2_Long.f
  have e1 : wrap64 ((a : Int) + 1) = ((a + 1 : Nat) : Int) := by rw [w64 (by omega) (by omega)]; simp
  have e2 : wrap64 ((a : Int) + 2) = ((a + 2 : Nat) : Int) := by rw [w64 (by omega) (by omega)]; simp
  have e3 : wrap64 ((a : Int) + 3) = ((a + 3 : Nat) : Int) := by rw [w64 (by omega) (by omega)]; simp
  have g0 := hb.get a (by omega)
  have g1 := hb.get (a + 1) (by omega)
  have g2 := hb.get (a + 2) (by omega)
  have g3 := hb.get (a + 3) (by omega)
  rw [e1, e2, e3, if_pos (by omega), if_pos (by omega), if_pos (by omega), if_pos (by omega), if_pos (by omega), if_pos (by omega), if_pos (by omega), if_pos (by omega)]
  unfold four
  generalize rd l ((a : Nat) : Int) = c0 at *
  generalize rd l ((a + 1 : Nat) : Int) = c1 at *
  generalize rd l ((a + 2 : Nat) : Int) = c2 at *
  generalize rd l ((a + 3 : Nat) : Int) = c3 at *
  rw [Int.emod_eq_of_lt (a := c0) (by omega) (by omega), Int.emod_eq_of_lt (a := c1) (by omega) (by omega), Int.emod_eq_of_lt (a := c2) (by omega) (by omega), Int.emod_eq_of_lt (a := c3) (by omega) (by omega),
    Int.emod_eq_of_lt (a := c0 * 16777216) (by omega) (by omega), Int.emod_eq_of_lt (a := c1 * 65536) (by omega) (by omega), Int.emod_eq_of_lt (a := c2 * 256) (by omega) (by omega)]
  rw [or32 24 (c0 * 16777216) (c1 * 65536) (by omega) (by omega) (by omega) (by decide) (by omega) (by omega) (by omega)]
  rw [or32 16 (c0 * 16777216 + c1 * 65536) (c2 * 256) (by omega) (by omega) (by omega) (by decide) (by omega) (by omega) (by omega)]
  rw [or32 8 (c0 * 16777216 + c1 * 65536 + c2 * 256) c3 (by omega) (by omega) (by omega) (by decide) (by omega) (by omega) (by omega)]
theorem rin_to (x m : Int) : bailiwickref2_in.f x m = some (decide (0 ≤ x ∧ x ≤ m)) := by
  unfold bailiwickref2_in.f
  by_cases h : x ≥ 0
  · rw [if_pos h]
    congr 1
    rw [decide_eq_decide]
    omega
  · rw [if_neg h, decide_eq_false (by omega)]
theorem rBuild_l1 (tos id : Int) (df mf : Bool) (off ttl proto src dst : Int) (opts body H : List Int) (hH : H.length ≤ 100) (hl : body.length ≤ 5000) (rem : Nat) : ∀ (k j : Nat), j + rem = body.length → rem < k →
    bailiwickref2_Build.l1 k (H ++ body.take j) j tos id df mf off ttl proto src dst opts body = some (H ++ body, 0) := by
  induction rem with
  | zero =>
    intro k j h hk
    obtain ⟨k, rfl⟩ : ∃ q, k = q + 1 := ⟨k - 1, by omega⟩
    rw [bailiwickref2_Build.l1, if_neg (by omega), List.take_of_length_le (by omega)]
  | succ rem ih =>
    intro k j h hk
    obtain ⟨k, rfl⟩ : ∃ q, k = q + 1 := ⟨k - 1, by omega⟩
    rw [bailiwickref2_Build.l1, if_pos (by omega), if_pos (by omega), if_pos (by rw [List.length_append]; simp; omega), show wrap64 ((j : Int) + 1) = ((j + 1 : Nat) : Int) by rw [w64 (by omega) (by omega)]; simp]
    have e : H ++ body.take j ++ [rd body (j : Int)] = H ++ body.take (j + 1) := by
      rw [List.append_assoc, List.take_succ_eq_append_getElem (by omega : j < body.length), rd_nat body j (by omega)]
    rw [e]
    exact ih k (j + 1) (by omega) (by omega)
theorem ihd_set' (tos id : Int) (df mf : Bool) (off ttl proto src dst c : Int) (opts body : List Int) : ((ihd tos id df mf off ttl proto src dst 0 opts body).set 10 (c / 256 % 256)).set 11 (c % 256) = ihd tos id df mf off ttl proto src dst c opts body := rfl
theorem rBuild_l0 (tos id : Int) (df mf : Bool) (off ttl proto src dst : Int) (opts body : List Int) (ho : Bytes opts) (hol : opts.length ≤ 40) (hl : body.length ≤ 5000) (rem : Nat) : ∀ (k j : Nat), j + rem = opts.length → rem + 5100 ≤ k →
    bailiwickref2_Build.l0 k (iHead tos id (ipart df mf off) ttl proto src dst opts.length (20 + opts.length + body.length) 0 ++ opts.take j) j tos id df mf off ttl proto src dst opts body = some (ibytes tos id df mf off ttl proto src dst opts body, 0) := by
  induction rem with
  | zero =>
    intro k j h hk
    obtain ⟨k, rfl⟩ : ∃ q, k = q + 1 := ⟨k - 1, by omega⟩
    have hlen := ihd_len tos id df mf off ttl proto src dst 0 opts body
    have hc := icheck_bound tos id df mf off ttl proto src dst opts body
    have e : iHead tos id (ipart df mf off) ttl proto src dst opts.length (20 + opts.length + body.length) 0 ++ opts = ihd tos id df mf off ttl proto src dst 0 opts body := rfl
    rw [bailiwickref2_Build.l0, if_neg (by omega), List.take_of_length_le (by omega), e, one_to _ (ihd_bytes tos id df mf off ttl proto src dst 0 opts body ho) (by omega) k (by omega), Option.bind_some, if_pos (by omega), if_pos (by omega)]
    have ec : wrap64 (65535 - sumOf (ihd tos id df mf off ttl proto src dst 0 opts body)) = icheck tos id df mf off ttl proto src dst opts body := by
      unfold icheck at hc ⊢
      rw [w64 (by omega) (by omega)]
    rw [ec, show (10 : Int).toNat = 10 from rfl, show (11 : Int).toNat = 11 from rfl, ihd_set']
    have := rBuild_l1 tos id df mf off ttl proto src dst opts body (ihd tos id df mf off ttl proto src dst (icheck tos id df mf off ttl proto src dst opts body) opts body) (by rw [ihd_len]; omega) hl body.length k 0 (by omega) (by omega)
    simp only [List.take_zero, List.append_nil] at this
    exact this
  | succ rem ih =>
    intro k j h hk
    obtain ⟨k, rfl⟩ : ∃ q, k = q + 1 := ⟨k - 1, by omega⟩
    rw [bailiwickref2_Build.l0, if_pos (by omega), if_pos (by omega), if_pos (by rw [List.length_append, iHead_len]; simp; omega), show wrap64 ((j : Int) + 1) = ((j + 1 : Nat) : Int) by rw [w64 (by omega) (by omega)]; simp]
    have e : iHead tos id (ipart df mf off) ttl proto src dst opts.length (20 + opts.length + body.length) 0 ++ opts.take j ++ [rd opts (j : Int)] = iHead tos id (ipart df mf off) ttl proto src dst opts.length (20 + opts.length + body.length) 0 ++ opts.take (j + 1) := by
      rw [List.append_assoc, List.take_succ_eq_append_getElem (by omega : j < opts.length), rd_nat opts j (by omega)]
    rw [e]
    exact ih k (j + 1) (by omega) (by omega)
theorem rpart (df mf : Bool) (off : Int) (k : Nat) (x4 tos id ttl proto src dst : Int) (opts body : List Int) : (if df = true then bailiwickref2_Build.j1 (k + 1) x4 (Go.bits .or .i64 off 16384) tos id df mf off ttl proto src dst opts body else bailiwickref2_Build.j1 (k + 1) x4 off tos id df mf off ttl proto src dst opts body) = bailiwickref2_Build.j2 k x4 (ip_Build.part df mf off) tos id df mf off ttl proto src dst opts body := by
  unfold ip_Build.part
  cases df <;> cases mf <;> simp [bailiwickref2_Build.j1]
theorem rBuild_to (tos id : Int) (df mf : Bool) (off ttl proto src dst : Int) (opts body : List Int) (hs : 0 ≤ src ∧ src < 4294967296) (hd : 0 ≤ dst ∧ dst < 4294967296) (ho : Bytes opts) (hol : opts.length ≤ 5000) (hl : body.length ≤ 5000) (k : Nat) (hk : 6000 ≤ k) :
    bailiwickref2_Build.f k tos id df mf off ttl proto src dst opts body = some (ibuild tos id df mf off ttl proto src dst opts body) := by
  obtain ⟨k, rfl⟩ : ∃ q, k = q + 3 := ⟨k - 3, by omega⟩
  have bad : ¬ iok tos id off ttl proto opts → bailiwickref2_Build.j0 (k + 3) true tos id df mf off ttl proto src dst opts body = some (ibuild tos id df mf off ttl proto src dst opts body) := by
    intro h
    unfold ibuild
    rw [bailiwickref2_Build.j0, if_pos rfl, if_neg h]
  have good : iok tos id off ttl proto opts → ∀ b, b = false → bailiwickref2_Build.j0 (k + 3) b tos id df mf off ttl proto src dst opts body = some (ibuild tos id df mf off ttl proto src dst opts body) := by
    rintro h b rfl
    have h4 : opts.length ≤ 40 := h.2.2.2.2.2.1
    have h5 := h.2.2.2.2.1
    unfold ibuild
    rw [bailiwickref2_Build.j0, if_neg (by decide), if_pos h, w64 (x := 20 + (opts.length : Int)) (by omega) (by omega), w64 (by omega) (by omega)]
    by_cases h6 : (body.length : Int) > 2028 - (opts.length : Int)
    · rw [if_pos (by omega), if_pos h6]
    rw [if_neg (by omega), if_neg h6, rpart, part_to' df mf off h5.1 (by omega)]
    have hp : 0 ≤ ipart df mf off ∧ ipart df mf off < 65536 := by unfold ipart; cases df <;> cases mf <;> simp <;> omega
    have e1 : IntKind.u64.wrap (wrap64 (20 + (opts.length : Int) + (body.length : Int))) = 20 + (opts.length : Int) + (body.length : Int) := by rw [w64 (by omega) (by omega), wrap_u64, Int.emod_eq_of_lt (by omega) (by omega)]
    have e2 : IntKind.u64.wrap id = id := by rw [wrap_u64, Int.emod_eq_of_lt (by have := h.2.2.2.1; omega) (by have := h.2.2.2.1; omega)]
    have e3 : IntKind.u64.wrap (ipart df mf off) = ipart df mf off := by rw [wrap_u64, Int.emod_eq_of_lt (by omega) (by omega)]
    have e4 : IntKind.u64.wrap src = src := by rw [wrap_u64, Int.emod_eq_of_lt (by omega) (by omega)]
    have e5 : IntKind.u64.wrap dst = dst := by rw [wrap_u64, Int.emod_eq_of_lt (by omega) (by omega)]
    rw [bailiwickref2_Build.j2, first_to _ h4, e1, e2, e3, e4, e5, refLay2 _ _ (by simp) k (by omega), Option.bind_some, refLay2 _ _ (by simp) k (by omega), Option.bind_some, refLay2 _ _ (by simp) k (by omega), Option.bind_some, Option.bind_some, if_pos (by simp), refLay4 _ _ (by simp) k (by omega), Option.bind_some, refLay4 _ _ (by simp) k (by omega), Option.bind_some]
    have := rBuild_l0 tos id df mf off ttl proto src dst opts body ho h4 hl opts.length k 0 (by omega) (by omega)
    simp only [List.take_zero, List.append_nil] at this
    exact this
  unfold bailiwickref2_Build.f
  rw [rin_to, Option.bind_some]
  by_cases h1 : 0 ≤ tos ∧ tos ≤ 255
  case neg => rw [if_neg (by simpa using h1), bad (fun h => h1 (by have := h.1; omega))]
  rw [if_pos (decide_eq_true h1), rin_to, Option.bind_some]
  by_cases h2 : 0 ≤ ttl ∧ ttl ≤ 255
  case neg => rw [if_neg (by simpa using h2), bad (fun h => h2 (by have := h.2.1; omega))]
  rw [if_pos (decide_eq_true h2), rin_to, Option.bind_some]
  by_cases h3 : 0 ≤ proto ∧ proto ≤ 255
  case neg => rw [if_neg (by simpa using h3), bad (fun h => h3 (by have := h.2.2.1; omega))]
  rw [if_pos (decide_eq_true h3), rin_to, Option.bind_some]
  by_cases h4 : 0 ≤ id ∧ id ≤ 65535
  case neg => rw [if_neg (by simpa using h4), bad (fun h => h4 (by have := h.2.2.2.1; omega))]
  rw [if_pos (decide_eq_true h4), rin_to, Option.bind_some]
  by_cases h5 : 0 ≤ off ∧ off ≤ 8191
  case neg => rw [if_neg (by simpa using h5), bad (fun h => h5 (by have := h.2.2.2.2.1; omega))]
  rw [if_pos (decide_eq_true h5)]
  by_cases h6 : (opts.length : Int) > 40
  · rw [if_pos h6, bad (fun h => by have := h.2.2.2.2.2.1; omega)]
  rw [if_neg h6]
  by_cases h7 : (opts.length : Int) % 4 = 0
  · rw [good ⟨by omega, by omega, by omega, by omega, by omega, by omega, by omega⟩ _ (by rw [h7]; rfl)]
  · rw [show ((opts.length : Int) % 4 != 0) = true from bne_iff_ne.2 h7, bad (fun h => by have := h.2.2.2.2.2.2; omega)]
theorem rParse_to (l : List Int) (hb : Bytes l) (hl : l.length ≤ 1000000) (k : Nat) (hk : 1000100 ≤ k) : bailiwickref2_Parse.f k l = some (ipOf l) := by
  obtain ⟨k, rfl⟩ : ∃ q, k = q + 2 := ⟨k - 2, by omega⟩
  unfold bailiwickref2_Parse.f ipOf izero
  by_cases h1 : (l.length : Int) > 2048
  · rw [if_pos h1, if_pos h1]
  by_cases h2 : (l.length : Int) < 20
  · rw [if_neg h1, if_neg h1, if_pos h2, if_pos h2]
  have b0 := hb.get 0 (by omega)
  have b1 := hb.get 1 (by omega)
  have b8 := hb.get 8 (by omega)
  have b9 := hb.get 9 (by omega)
  rw [show ((0 : Nat) : Int) = 0 from rfl] at b0
  rw [show ((1 : Nat) : Int) = 1 from rfl] at b1
  rw [show ((8 : Nat) : Int) = 8 from rfl] at b8
  rw [show ((9 : Nat) : Int) = 9 from rfl] at b9
  have ea : Go.bits .and .u8 (rd l 0) 15 = rd l 0 % 16 := by
    have := and_mask .u8 4 (by decide) (rd l 0)
    rw [show ((2 : Int) ^ 4 - 1) = 15 by decide, show ((2 : Int) ^ 4) = 16 by decide] at this
    rw [this, IntKind.wrap_u8]
    omega
  have ew : wrap64 (wrap64 (rd l 0 % 16) * 4) = ihead l := by rw [w64 (x := rd l 0 % 16) (by omega) (by omega), w64 (by omega) (by omega)]; rfl
  have eh : ihead l = rd l 0 % 16 * 4 := rfl
  rw [if_neg h1, if_neg h1, if_neg h2, if_neg h2, if_pos (by omega), ea, ew]
  by_cases h3 : rd l 0 / 16 = 4
  case neg => rw [if_neg h3, if_pos (.inl h3), bailiwickref2_Parse.j0, if_pos rfl]
  rw [if_pos h3]
  by_cases h4 : ihead l < 20
  · rw [if_pos (.inr h4), decide_eq_true h4, bailiwickref2_Parse.j0, if_pos rfl]
  rw [if_neg (show ¬ (rd l 0 / 16 ≠ 4 ∨ ihead l < 20) by omega), decide_eq_false h4, bailiwickref2_Parse.j0, if_neg (by decide)]
  by_cases h5 : (l.length : Int) < ihead l
  · rw [if_pos (by omega), if_pos h5]
  have g2 := rword_to l 2 hb (by omega) (by omega)
  have g6 := rword_to l 6 hb (by omega) (by omega)
  have g4 := rword_to l 4 hb (by omega) (by omega)
  have g12 := rlong_to l 12 hb (by omega) (by omega)
  have g16 := rlong_to l 16 hb (by omega) (by omega)
  rw [show ((2 : Nat) : Int) = 2 from rfl] at g2
  rw [show ((6 : Nat) : Int) = 6 from rfl] at g6
  rw [show ((4 : Nat) : Int) = 4 from rfl] at g4
  rw [show ((12 : Nat) : Int) = 12 from rfl] at g12
  rw [show ((16 : Nat) : Int) = 16 from rfl] at g16
  rw [if_neg (by omega), if_neg h5, g2, Option.bind_some, g6, Option.bind_some]
  by_cases h6 : two l 2 < ihead l
  · rw [if_pos h6, if_pos (.inl h6), bailiwickref2_Parse.j1, if_pos rfl]
  by_cases h7 : Go.bits .and .i64 (two l 6) 32768 ≠ 0
  · rw [if_neg h6, if_pos (.inr h7), bailiwickref2_Parse.j1, if_pos (bne_iff_ne.2 h7)]
  rw [if_neg h6, if_neg (show ¬ (two l 2 < ihead l ∨ Go.bits .and .i64 (two l 6) 32768 ≠ 0) from fun h => h.elim h6 h7), bailiwickref2_Parse.j1, if_neg (by rw [bne_iff_ne]; exact h7)]
  by_cases h8 : two l 2 > (l.length : Int)
  · rw [if_pos h8, if_pos h8]
  rw [if_neg h8, if_neg h8, if_pos (by omega), if_pos (by omega), one_to _ (hb.take2 _) (by rw [List.length_take]; omega) k (by rw [List.length_take]; omega), Option.bind_some]
  by_cases h9 : sumOf (l.take (ihead l).toNat) = 65535
  case neg => rw [if_neg h9, if_pos h9]
  have p1 := part_to l 20 (ihead l).toNat (by omega) (by omega) (by omega) k (by omega)
  have p2 := part_to l (ihead l).toNat (two l 2).toNat (by omega) (by omega) (by omega) k (by omega)
  rw [show ((20 : Nat) : Int) = 20 from rfl, Int.toNat_of_nonneg (by omega)] at p1
  rw [Int.toNat_of_nonneg (by omega), Int.toNat_of_nonneg (by omega)] at p2
  rw [if_pos h9, if_neg (Classical.not_not.2 h9), if_pos (by omega), g4, Option.bind_some, if_pos (by omega), if_pos (by omega), g12, Option.bind_some, g16, Option.bind_some, p1, Option.bind_some, p2, Option.bind_some, w64 (x := rd l 1) (by omega) (by omega), w64 (x := rd l 8) (by omega) (by omega), w64 (x := rd l 9) (by omega) (by omega)]
def iMsg (t c r : Int) (d : List Int) : List Int := [t % 256, c % 256, 0, 0, r / 16777216 % 256, r / 65536 % 256, r / 256 % 256, r % 256] ++ d
def iBytes (t c r : Int) (d : List Int) : List Int := ((iMsg t c r d).set 2 ((65535 - sumOf (iMsg t c r d)) / 256 % 256)).set 3 ((65535 - sumOf (iMsg t c r d)) % 256)
def iBuild (t c r : Int) (d : List Int) : List Int × Int := if 0 ≤ t ∧ t ≤ 255 ∧ 0 ≤ c ∧ c ≤ 255 then (if (d.length : Int) > 2020 then ([], 3) else (iBytes t c r d, 0)) else ([], 1)
theorem iMsg_len (t c r : Int) (d : List Int) : (iMsg t c r d).length = d.length + 8 := by simp [iMsg]
theorem iMsg_bytes (t c r : Int) (d : List Int) (h : Bytes d) : Bytes (iMsg t c r d) := by
  intro x hx
  unfold iMsg at hx
  rcases List.mem_append.1 hx with hx | hx
  · simp only [List.mem_cons, List.not_mem_nil, or_false] at hx
    rcases hx with rfl | rfl | rfl | rfl | rfl | rfl | rfl | rfl <;> omega
  · exact h x hx
theorem iBuild_to (t c r : Int) (d : List Int) (hb : Bytes d) (hd : d.length ≤ 5000) (k : Nat) (hk : 1 ≤ k) : icmp_Build.f k t c r d = some (iBuild t c r d) := by
  obtain ⟨k, rfl⟩ : ∃ q, k = q + 1 := ⟨k - 1, by omega⟩
  unfold icmp_Build.f iBuild
  by_cases h1 : t < 0
  · rw [if_pos h1, if_neg (by omega), icmp_Build.j0, if_pos rfl]
  by_cases h2 : t > 255
  · rw [if_neg h1, if_pos h2, if_neg (by omega), icmp_Build.j0, if_pos rfl]
  by_cases h3 : c < 0
  · rw [if_neg h1, if_neg h2, if_pos h3, if_neg (by omega), icmp_Build.j0, if_pos rfl]
  rw [if_neg h1, if_neg h2, if_neg h3]
  by_cases h4 : c > 255
  · rw [if_neg (by omega), icmp_Build.j0, if_pos (by simpa using h4)]
  rw [if_pos (by omega), icmp_Build.j0, if_neg (by simpa using h4)]
  by_cases h5 : (d.length : Int) > 2020
  · rw [if_pos h5, if_pos h5]
  rw [if_neg h5, if_neg h5]
  have e : ([t % 256, c % 256, 0, 0, r / 16777216 % 256, r / 65536 % 256, r / 256 % 256, r % 256] : List Int) ++ d = iMsg t c r d := rfl
  rw [Option.bind_some, if_pos (by simp; omega), Option.bind_some, e, check_one _ (iMsg_bytes t c r d hb) (by rw [iMsg_len]; omega), Option.bind_some, if_pos (by rw [iMsg_len]; omega), if_pos (by rw [iMsg_len]; omega)]
  rfl
theorem refBuild_loop (t c r : Int) (d : List Int) (hd : d.length ≤ 5000) (hb : Bytes d) (rem : Nat) : ∀ (k j : Nat), j + rem = d.length → rem + 5100 ≤ k →
    bailiwickref3_BuildWord.l0 k (iMsg t c r (d.take j)) j t c r d = some (iBytes t c r d, 0) := by
  induction rem with
  | zero =>
    intro k j h hk
    obtain ⟨k, rfl⟩ : ∃ q, k = q + 1 := ⟨k - 1, by omega⟩
    rw [bailiwickref3_BuildWord.l0, if_neg (by omega), List.take_of_length_le (by omega), one_to _ (iMsg_bytes t c r d hb) (by rw [iMsg_len]; omega) k (by rw [iMsg_len]; omega), Option.bind_some,
      if_pos (by rw [iMsg_len]; omega), if_pos (by rw [iMsg_len]; omega)]
    have := sumOf_bound (iMsg t c r d)
    rw [w64 (by omega) (by omega)]
    rfl
  | succ rem ih =>
    intro k j h hk
    obtain ⟨k, rfl⟩ : ∃ q, k = q + 1 := ⟨k - 1, by omega⟩
    rw [bailiwickref3_BuildWord.l0, if_pos (by omega), if_pos (by omega), if_pos (by rw [iMsg_len]; simp; omega), show wrap64 ((j : Int) + 1) = ((j + 1 : Nat) : Int) by rw [w64 (by omega) (by omega)]; simp]
    have e : iMsg t c r (d.take j) ++ [rd d (j : Int)] = iMsg t c r (d.take (j + 1)) := by
      unfold iMsg
      rw [List.append_assoc, List.take_succ_eq_append_getElem (by omega : j < d.length), rd_nat d j (by omega)]
    rw [e]
    exact ih k (j + 1) (by omega) (by omega)
theorem refBuildWord_to (t c r : Int) (d : List Int) (hb : Bytes d) (hd : d.length ≤ 5000) (hr0 : 0 ≤ r) (hr1 : r < 4294967296) (k : Nat) (hk : 11000 ≤ k) : bailiwickref3_BuildWord.f k t c r d = some (iBuild t c r d) := by
  obtain ⟨k, rfl⟩ : ∃ q, k = q + 1 := ⟨k - 1, by omega⟩
  unfold bailiwickref3_BuildWord.f iBuild bailiwickref3_in.f
  have tail : 0 ≤ t ∧ t ≤ 255 ∧ 0 ≤ c ∧ c ≤ 255 → ∀ b : Bool, b = false → bailiwickref3_BuildWord.j0 (k + 1) b t c r d = some (if (d.length : Int) > 2020 then (([] : List Int), (3 : Int)) else (iBytes t c r d, 0)) := by
    rintro hr b rfl
    rw [bailiwickref3_BuildWord.j0, if_neg (by decide)]
    by_cases h5 : (d.length : Int) > 2020
    · rw [if_pos h5, if_pos h5]
    have ew : IntKind.u64.wrap r = r := by rw [wrap_u64, Int.emod_eq_of_lt (by omega) (by omega)]
    rw [if_neg h5, if_neg h5, ew, refLay4 _ _ (by simp) k (by omega), Option.bind_some]
    have := refBuild_loop t c r d hd hb d.length k 0 (by omega) (by omega)
    simp only [List.take_zero] at this
    exact this
  by_cases h1 : t ≥ 0
  · rw [if_pos h1, Option.bind_some]
    by_cases h2 : t ≤ 255
    · rw [if_pos (decide_eq_true h2)]
      by_cases h3 : c ≥ 0
      · rw [if_pos h3, Option.bind_some]
        by_cases h4 : c ≤ 255
        · rw [if_pos (by omega), tail (by omega) _ (by simpa using h4)]
        · rw [if_neg (by omega), bailiwickref3_BuildWord.j0, if_pos (by simpa using h4)]
      · rw [if_neg h3, Option.bind_some, if_neg (by omega), bailiwickref3_BuildWord.j0, if_pos (by decide)]
    · rw [if_neg (by simpa using h2), if_neg (by omega), bailiwickref3_BuildWord.j0, if_pos rfl]
  · rw [if_neg h1, Option.bind_some, if_neg (by decide), if_neg (by omega), bailiwickref3_BuildWord.j0, if_pos rfl]
def ifq (p : Int) (b : List Int) : Prop := p = 1 ∧ ((b.length : Int) = 0 ∨ (rd b 0 ≠ 0 ∧ rd b 0 ≠ 8))
instance (p : Int) (b : List Int) : Decidable (ifq p b) := by unfold ifq; infer_instance
def ifault (t c fr : Int) (l : List Int) : List Int × Int :=
  if (ipOf l).2.2.2.2.2.2.2.2.2.2.2 ≠ 0 then ([], 4)
  else if t < 0 ∨ t > 255 ∨ c < 0 ∨ c > 255 then ([], 1)
  else if (ipOf l).2.2.2.2.1 ≠ 0 ∨ ifq (ipOf l).2.2.2.2.2.2.1 (ipOf l).2.2.2.2.2.2.2.2.2.2.1 then ([], 12)
  else ibuild 0 0 false false 0 64 1 fr (ipOf l).2.2.2.2.2.2.2.1 [] (iBuild t c 0 (l.take ((ihead l).toNat + min 8 (ipOf l).2.2.2.2.2.2.2.2.2.2.1.length))).1
theorem f_good (l : List Int) (h : (ipOf l).2.2.2.2.2.2.2.2.2.2.2 = 0) :
    20 ≤ l.length ∧ l.length ≤ 2048 ∧ rd l 0 / 16 = 4 ∧ 20 ≤ ihead l ∧ ihead l ≤ two l 2 ∧ two l 2 ≤ (l.length : Int) ∧
    ipOf l = (rd l 1, two l 4, (Go.bits .and .i64 (two l 6) 16384 != 0), (Go.bits .and .i64 (two l 6) 8192 != 0), Go.bits .and .i64 (two l 6) 8191, rd l 8, rd l 9, four l 12, four l 16, (l.take (ihead l).toNat).drop 20, (l.take (two l 2).toNat).drop (ihead l).toNat, 0) := by
  unfold ipOf at h ⊢
  by_cases c1 : (l.length : Int) > 2048
  · rw [if_pos c1] at h; exact absurd h (by simp [izero])
  rw [if_neg c1] at h ⊢
  by_cases c2 : (l.length : Int) < 20
  · rw [if_pos c2] at h; exact absurd h (by simp [izero])
  rw [if_neg c2] at h ⊢
  by_cases c3 : rd l 0 / 16 ≠ 4 ∨ ihead l < 20
  · rw [if_pos c3] at h; exact absurd h (by simp [izero])
  rw [if_neg c3] at h ⊢
  by_cases c4 : (l.length : Int) < ihead l
  · rw [if_pos c4] at h; exact absurd h (by simp [izero])
  rw [if_neg c4] at h ⊢
  by_cases c5 : two l 2 < ihead l ∨ Go.bits .and .i64 (two l 6) 32768 ≠ 0
  · rw [if_pos c5] at h; exact absurd h (by simp [izero])
  rw [if_neg c5] at h ⊢
  by_cases c6 : two l 2 > (l.length : Int)
  · rw [if_pos c6] at h; exact absurd h (by simp [izero])
  rw [if_neg c6] at h ⊢
  by_cases c7 : sumOf (l.take (ihead l).toNat) ≠ 65535
  · rw [if_pos c7] at h; exact absurd h (by simp [izero])
  rw [if_neg c7] at h ⊢
  exact ⟨by omega, by omega, by omega, by omega, by omega, by omega, rfl⟩
theorem iBuild_good (t c : Int) (d : List Int) (h : ¬ (t < 0 ∨ t > 255 ∨ c < 0 ∨ c > 255)) (hd : d.length ≤ 2020) : (iBuild t c 0 d).2 = 0 ∧ (iBuild t c 0 d).1.length ≤ 5000 := by
  unfold iBuild
  rw [if_pos (by omega), if_neg (by omega)]
  refine ⟨rfl, ?_⟩
  show (iBytes t c 0 d).length ≤ 5000
  unfold iBytes iMsg
  simp
  omega
theorem mn_to (a b : Nat) : mn (a : Int) (b : Int) = ((min a b : Nat) : Int) := by
  unfold mn
  split <;> omega
theorem ifault_in (t c fr : Int) (l : List Int) (hb : Bytes l) (hf : 0 ≤ fr ∧ fr < 4294967296) (k : Nat) (hk : 10 ≤ k) : inner_Fault.f k t c fr l = some (ifault t c fr l) := by
  obtain ⟨k, rfl⟩ : ∃ n, k = n + 2 := ⟨k - 2, by omega⟩
  unfold inner_Fault.f ifault
  rw [ipParse_to l hb, Option.bind_some]
  by_cases e : (ipOf l).2.2.2.2.2.2.2.2.2.2.2 = 0
  case neg => rw [if_neg e, if_pos e]
  rw [if_pos e, if_neg (show ¬ ((ipOf l).2.2.2.2.2.2.2.2.2.2.2 ≠ 0) from fun q => q e)]
  obtain ⟨g1, g2, g3, g4, g5, g6, g7⟩ := f_good l e
  rw [g7]
  dsimp only
  have hd := four_bound l 12 hb (by omega)
  have b0 := hb.get 0 (by omega)
  rw [show ((0 : Nat) : Int) = 0 from rfl] at b0
  by_cases t1 : t < 0
  · rw [if_pos t1, if_pos (.inl t1), inner_Fault.j0, if_pos rfl]
  rw [if_neg t1]
  by_cases t2 : t > 255
  · rw [if_pos t2, if_pos (.inr (.inl t2)), inner_Fault.j0, if_pos rfl]
  rw [if_neg t2]
  by_cases t3 : c < 0
  · rw [if_pos t3, if_pos (.inr (.inr (.inl t3))), inner_Fault.j0, if_pos rfl]
  rw [if_neg t3]
  by_cases t4 : c > 255
  · rw [if_pos (show t < 0 ∨ t > 255 ∨ c < 0 ∨ c > 255 from .inr (.inr (.inr t4))), inner_Fault.j0, if_pos (decide_eq_true t4)]
  have tt : ¬ (t < 0 ∨ t > 255 ∨ c < 0 ∨ c > 255) := by omega
  rw [if_neg tt, inner_Fault.j0, if_neg (by rw [decide_eq_true_eq]; exact t4)]
  generalize Go.bits .and .i64 (two l 6) 8191 = off
  obtain ⟨body, hbd⟩ : ∃ y, y = (l.take (two l 2).toNat).drop (ihead l).toNat := ⟨_, rfl⟩
  have hbl : body.length = (two l 2).toNat - (ihead l).toNat := by rw [hbd, List.length_drop, List.length_take]; omega
  have h60 : ihead l ≤ 60 := by unfold ihead; omega
  rw [← hbd]
  by_cases o1 : off = 0
  case neg => rw [if_neg o1, if_pos (.inl o1), inner_Fault.j1, if_pos rfl]
  rw [if_pos o1]
  have hq : inner_fault.f (rd l 1) (two l 4) (Go.bits .and .i64 (two l 6) 16384 != 0) (Go.bits .and .i64 (two l 6) 8192 != 0) off (rd l 8) (rd l 9) (four l 12) (four l 16) ((l.take (ihead l).toNat).drop 20) body = some (decide (ifq (rd l 9) body)) := by
    unfold inner_fault.f
    by_cases p1 : rd l 9 = 1
    case neg => rw [if_neg p1, decide_eq_false (fun q => p1 q.1)]
    rw [if_pos p1]
    by_cases p2 : (body.length : Int) = 0
    · rw [if_pos p2, decide_eq_true ⟨p1, .inl p2⟩]
    rw [if_neg p2, if_pos (by omega)]
    by_cases p3 : rd body 0 = 0
    · rw [if_pos p3, decide_eq_false (fun q => q.2.elim p2 (fun z => z.1 p3))]
    rw [if_neg p3]
    congr 1
    by_cases p4 : rd body 0 = 8
    · rw [decide_eq_false (fun q => q.2.elim p2 (fun z => z.2 p4)), p4]; rfl
    · rw [decide_eq_true (show ifq (rd l 9) body from ⟨p1, .inr ⟨p3, p4⟩⟩)]; exact bne_iff_ne.2 p4
  rw [hq, Option.bind_some, inner_Fault.j1]
  by_cases q1 : ifq (rd l 9) body
  · rw [if_pos (decide_eq_true q1), if_pos (.inr q1)]
  rw [if_neg (by rw [decide_eq_true_eq]; exact q1), if_neg (show ¬ (off ≠ 0 ∨ ifq (rd l 9) body) from fun z => z.elim (fun y => y o1) q1), if_pos (show (0 : Int) < (l.length : Int) by omega)]
  have ea : Go.bits .and .u8 (rd l 0) 15 = rd l 0 % 16 := by
    have := and_mask .u8 4 (by decide) (rd l 0)
    rw [show ((2 : Int) ^ 4 - 1) = 15 by decide, show ((2 : Int) ^ 4) = 16 by decide] at this
    rw [this, IntKind.wrap_u8]
    omega
  have ew : wrap64 (wrap64 (rd l 0 % 16) * 4) = ihead l := by rw [w64 (x := rd l 0 % 16) (by omega) (by omega), w64 (by omega) (by omega)]; rfl
  have en : wrap64 (ihead l + mn (body.length : Int) 8) = (((ihead l).toNat + min 8 body.length : Nat) : Int) := by
    rw [show mn (body.length : Int) 8 = ((min body.length 8 : Nat) : Int) from mn_to body.length 8, w64 (by omega) (by omega)]
    omega
  rw [ea, ew, en, if_pos (by omega), if_pos (by omega), show (((ihead l).toNat + min 8 body.length : Nat) : Int).toNat = (ihead l).toNat + min 8 body.length from rfl]
  have hdl : (l.take ((ihead l).toNat + min 8 body.length)).length ≤ 68 := by rw [List.length_take]; omega
  obtain ⟨i1, i2⟩ := iBuild_good t c (l.take ((ihead l).toNat + min 8 body.length)) tt (by omega)
  rw [if_pos (by simp only [List.length_nil]; omega), List.nil_append, iBuild_to t c 0 _ (fun c hc => hb c (List.mem_of_mem_take hc)) (by omega) k (by omega), Option.bind_some]
  rw [ibuild_to 0 0 false false 0 64 1 fr (four l 12) [] _ (by decide) (by decide) (by decide) (by decide) (by decide) hf hd (fun c hc => by cases hc), Option.bind_some]
theorem ifault_ref (t c fr : Int) (l : List Int) (hb : Bytes l) (hl : l.length ≤ 5000) (hf : 0 ≤ fr ∧ fr < 4294967296) (k : Nat) (hk : 1000200 ≤ k) : bailiwickref21_Fault.f k t c fr l = some (ifault t c fr l) := by
  obtain ⟨k, rfl⟩ : ∃ n, k = n + 2 := ⟨k - 2, by omega⟩
  unfold bailiwickref21_Fault.f ifault
  rw [rParse_to l hb (by omega) _ (by omega), Option.bind_some]
  by_cases e : (ipOf l).2.2.2.2.2.2.2.2.2.2.2 = 0
  case neg => rw [if_neg e, if_pos e]
  rw [if_pos e, if_neg (show ¬ ((ipOf l).2.2.2.2.2.2.2.2.2.2.2 ≠ 0) from fun q => q e)]
  obtain ⟨g1, g2, g3, g4, g5, g6, g7⟩ := f_good l e
  rw [g7]
  dsimp only
  have hd := four_bound l 12 hb (by omega)
  by_cases t1 : t < 0
  · rw [if_pos t1, if_pos (.inl t1), bailiwickref21_Fault.j0, if_pos rfl]
  rw [if_neg t1]
  by_cases t2 : t > 255
  · rw [if_pos t2, if_pos (.inr (.inl t2)), bailiwickref21_Fault.j0, if_pos rfl]
  rw [if_neg t2]
  by_cases t3 : c < 0
  · rw [if_pos t3, if_pos (.inr (.inr (.inl t3))), bailiwickref21_Fault.j0, if_pos rfl]
  rw [if_neg t3]
  by_cases t4 : c > 255
  · rw [if_pos (show t < 0 ∨ t > 255 ∨ c < 0 ∨ c > 255 from .inr (.inr (.inr t4))), bailiwickref21_Fault.j0, if_pos (decide_eq_true t4)]
  have tt : ¬ (t < 0 ∨ t > 255 ∨ c < 0 ∨ c > 255) := by omega
  rw [if_neg tt, bailiwickref21_Fault.j0, if_neg (by rw [decide_eq_true_eq]; exact t4)]
  generalize Go.bits .and .i64 (two l 6) 8191 = off
  obtain ⟨body, hbd⟩ : ∃ y, y = (l.take (two l 2).toNat).drop (ihead l).toNat := ⟨_, rfl⟩
  obtain ⟨opts, hop⟩ : ∃ y, y = (l.take (ihead l).toNat).drop 20 := ⟨_, rfl⟩
  have hbl : body.length = (two l 2).toNat - (ihead l).toNat := by rw [hbd, List.length_drop, List.length_take]; omega
  have h60 : ihead l ≤ 60 := by unfold ihead; omega
  have hol : opts.length = (ihead l).toNat - 20 := by rw [hop, List.length_drop, List.length_take]; omega
  rw [← hbd, ← hop]
  by_cases o1 : off = 0
  case neg => rw [if_neg o1, if_pos (.inl o1), bailiwickref21_Fault.j1, if_pos rfl]
  rw [if_pos o1]
  have hdl : (l.take ((ihead l).toNat + min 8 body.length)).length ≤ 68 := by rw [List.length_take]; omega
  obtain ⟨i1, i2⟩ := iBuild_good t c (l.take ((ihead l).toNat + min 8 body.length)) tt (by omega)
  have en : wrap64 (wrap64 (20 + (opts.length : Int)) + mn 8 (body.length : Int)) = (((ihead l).toNat + min 8 body.length : Nat) : Int) := by
    rw [show mn 8 (body.length : Int) = ((min 8 body.length : Nat) : Int) from mn_to 8 body.length, w64 (x := 20 + (opts.length : Int)) (by omega) (by omega), w64 (by omega) (by omega)]
    omega
  have fin : ∀ z : Bool, z = decide (ifq (rd l 9) body) → bailiwickref21_Fault.j1 (k + 1) t c fr l z (rd l 1) (two l 4) (Go.bits .and .i64 (two l 6) 16384 != 0) (Go.bits .and .i64 (two l 6) 8192 != 0) off (rd l 8) (rd l 9) (four l 12) (four l 16) opts body = some (if off ≠ 0 ∨ ifq (rd l 9) body then ([], 12) else ibuild 0 0 false false 0 64 1 fr (four l 12) [] (iBuild t c 0 (l.take ((ihead l).toNat + min 8 body.length))).1) := by
    intro z hz
    rw [hz, bailiwickref21_Fault.j1]
    by_cases q1 : ifq (rd l 9) body
    · rw [if_pos (decide_eq_true q1), if_pos (.inr q1)]
    rw [if_neg (by rw [decide_eq_true_eq]; exact q1), if_neg (show ¬ (off ≠ 0 ∨ ifq (rd l 9) body) from fun z => z.elim (fun y => y o1) q1), en]
    rw [show bailiwickref1_Part.f k l 0 (((ihead l).toNat + min 8 body.length : Nat) : Int) = some (l.take ((ihead l).toNat + min 8 body.length)) from (part_to l 0 ((ihead l).toNat + min 8 body.length) (by omega) (by omega) (by omega) k (by omega)).trans (by rw [List.drop_zero]), Option.bind_some,
      refBuildWord_to t c 0 _ (fun c hc => hb c (List.mem_of_mem_take hc)) (by omega) (by decide) (by decide) k (by omega), Option.bind_some, if_pos i1,
      rBuild_to 0 0 false false 0 64 1 fr (four l 12) [] _ hf hd (fun c hc => by cases hc) (by simp) i2 k (by omega), Option.bind_some]
  by_cases p1 : rd l 9 = 1
  case neg => rw [if_neg p1]; exact fin false (decide_eq_false (fun q => p1 q.1)).symm
  rw [if_pos p1]
  by_cases p2 : (body.length : Int) = 0
  · rw [if_pos p2]; exact fin true (decide_eq_true (show ifq (rd l 9) body from ⟨p1, .inl p2⟩)).symm
  rw [if_neg p2, if_pos (by omega)]
  by_cases p4 : rd body 0 = 8
  · rw [if_pos p4]; exact fin false (decide_eq_false (fun q => q.2.elim p2 (fun z => z.2 p4))).symm
  rw [if_neg p4]
  refine fin _ ?_
  by_cases p3 : rd body 0 = 0
  · rw [decide_eq_false (fun q => q.2.elim p2 (fun z => z.1 p3)), p3]; rfl
  · rw [decide_eq_true (show ifq (rd l 9) body from ⟨p1, .inr ⟨p3, p4⟩⟩)]; exact bne_iff_ne.2 p3
theorem ifault_len (t c fr : Int) (l : List Int) : (ifault t c fr l).1.length ≤ 6000 := by
  unfold ifault
  split
  · simp
  · rename_i e
    split
    · simp
    · rename_i tt
      split
      · simp
      · have hd : (l.take ((ihead l).toNat + min 8 (ipOf l).2.2.2.2.2.2.2.2.2.2.1.length)).length ≤ 2020 := by
          have h60 : ihead l ≤ 60 := by unfold ihead; omega
          rw [List.length_take]; omega
        have i2 := (iBuild_good t c _ tt hd).2
        generalize (iBuild t c 0 (l.take ((ihead l).toNat + min 8 (ipOf l).2.2.2.2.2.2.2.2.2.2.1.length))).1 = b at i2
        unfold ibuild
        split
        · split
          · simp
          · show (ibytes 0 0 false false 0 64 1 fr _ [] b).length ≤ 6000
            rw [ibytes_len]; simp; omega
        · simp
theorem InnerFaults : bailiwicklaw22_InnerFaults.Pure := by
  intro t c l ht hc ⟨h1, h2, h3⟩
  refine ⟨1000200, ?_⟩
  have hb : Bytes l := bytes_of h3
  unfold bailiwicklaw22_InnerFaults.f
  rw [show bailiwicklaw22_awake.f = some true from rfl, Option.bind_some, if_pos rfl]
  by_cases e : (l.length : Int) > 5000
  · rw [if_pos e]
  have hn := ifault_len t c 167772161 l
  rw [if_neg e, ifault_in t c 167772161 l hb (by decide) _ (by decide), Option.bind_some, ifault_ref t c 167772161 l hb (by omega) (by decide) _ (by decide), Option.bind_some, if_pos rfl, same_to _ (by omega) _ (by omega), Option.bind_some]
end Go.Proofs.Ytljnnhloinbjhaa.Pure
