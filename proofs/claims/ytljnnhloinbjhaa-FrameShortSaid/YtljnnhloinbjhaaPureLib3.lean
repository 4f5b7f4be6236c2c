/- Plain lemmas: sums of rows of bytes as sums of words; copies; comparisons. No program in sight. -/
import Derived.Test.YtljnnhloinbjhaaPoctet
import Derived.Test.YtljnnhloinbjhaaPureLib2
import Derived.Test.YtljnnhloinbjhaaPbailiwickref1Copy
import Derived.Test.YtljnnhloinbjhaaPbailiwickref1Same
namespace Go.Proofs.Ytljnnhloinbjhaa.Pure
open Go.RowKit Go.Proofs.Ytljnnhloinbjhaa.P Go.Proofs.YtljnnhloinbjhaaW.PrintWords Go.Proofs.YtljnnhloinbjhaaW.PrintLast
set_option linter.unusedVariables false
set_option linter.unusedSimpArgs false
/-- Bytes. -/
def Bytes (l : List Int) : Prop := ∀ c ∈ l, 0 ≤ c ∧ c < 256
theorem bytes_of {l : List Int} (h : ∀ a ∈ l, (Lit.int .u8 a).wf = true) : Bytes l := by
  intro c hc
  have := h c hc
  simp [Lit.wf, IntKind.min, IntKind.max, IntKind.bits, IntKind.signed] at this
  omega
theorem Bytes.cons {c : Int} {l : List Int} (h : Bytes (c :: l)) : (0 ≤ c ∧ c < 256) ∧ Bytes l := ⟨h c (by simp), fun d hd => h d (by simp [hd])⟩
theorem Bytes.append {l m : List Int} (h : Bytes l) (h2 : Bytes m) : Bytes (l ++ m) := fun c hc => (List.mem_append.1 hc).elim (h c) (h2 c)
theorem Bytes.get {l : List Int} (h : Bytes l) (i : Nat) (hi : i < l.length) : 0 ≤ rd l (i : Int) ∧ rd l (i : Int) < 256 := by
  rw [rd_nat l i hi]
  exact h _ (List.getElem_mem hi)
/-- The sum of words, unfolded: o: is the next byte a lower one? -/
def wsum : Bool → List Int → Int
  | _, [] => 0
  | o, c :: l => (if o then c else c * 256) + wsum (!o) l
theorem wsum_bound (l : List Int) : ∀ o, Bytes l → 0 ≤ wsum o l ∧ wsum o l ≤ 65280 * l.length := by
  induction l with
  | nil => intro o _; simp [wsum]
  | cons c l ih =>
    intro o h
    obtain ⟨hc, hl⟩ := h.cons
    have := ih (!o) hl
    cases o <;> simp only [wsum, List.length_cons] at * <;> simp at * <;> omega
def parity (o : Bool) (l : List Int) : Bool := if l.length % 2 = 0 then o else !o
theorem sum_foldl (l : List Int) : ∀ (t : Int) (o : Bool), Bytes l → 0 ≤ t → t + 65280 * l.length < 18446744073709551616 → l.foldl octet_Sum.step (t, o) = (t + wsum o l, parity o l) := by
  induction l with
  | nil => intro t o _ _ _; simp [wsum, parity]
  | cons c l ih =>
    intro t o h h0 h1
    obtain ⟨hc, hl⟩ := h.cons
    simp only [List.length_cons] at h1
    have e : octet_Sum.step (t, o) c = (t + (if o then c else c * 256), !o) := by
      unfold octet_Sum.step
      cases o
      · simp only [Bool.false_eq_true, if_false]
        rw [wrap_u64, wrap_u64, wrap_u64, Int.emod_eq_of_lt (a := c) (by omega) (by omega), Int.emod_eq_of_lt (a := c * 256) (by omega) (by omega), Int.emod_eq_of_lt (by omega) (by omega)]
      · simp only [if_true]
        rw [wrap_u64, wrap_u64, Int.emod_eq_of_lt (a := c) (by omega) (by omega), Int.emod_eq_of_lt (by omega) (by omega)]
    rw [List.foldl_cons, e, ih _ _ hl (by split <;> omega) (by split <;> omega)]
    refine Prod.ext ?_ ?_
    · simp only [wsum]; omega
    · simp only [parity, List.length_cons]
      by_cases hp : l.length % 2 = 0
      · rw [if_pos hp, if_neg (by omega)]
      · rw [if_neg hp, if_pos (by omega)]; simp
theorem tot_flat (l0 : List (List Int)) : ∀ s, octet_Sum.tot s l0 = l0.flatten.foldl octet_Sum.step s := by
  unfold octet_Sum.tot
  induction l0 with
  | nil => intro s; rfl
  | cons b l ih => intro s; rw [List.foldl_cons, ih, List.flatten_cons, List.foldl_append]
/-- The Sum of rows of bytes. -/
def sumOf (l : List Int) : Int := fold16 (wsum false l)
theorem sumOf_bound (l : List Int) : 0 ≤ sumOf l ∧ sumOf l ≤ 65535 := fold16_bound _
theorem sum_to (l0 : List (List Int)) (hb : Bytes l0.flatten) (hl : l0.flatten.length ≤ 1000000000) : octet_Sum.f l0 = some (sumOf l0.flatten) := by
  unfold octet_Sum.f sumOf
  have h := wsum_bound l0.flatten false hb
  rw [tot_flat, sum_foldl _ 0 false hb (by omega) (by omega), fold_to 8 (by omega) _ (by omega) (by omega)]
  simp
theorem sum_one (l : List Int) (hb : Bytes l) (hl : l.length ≤ 1000000000) : octet_Sum.f [l] = some (sumOf l) := by
  have := sum_to [l] (by simpa using hb) (by simpa using hl)
  simpa using this
theorem check_to (l0 : List (List Int)) (hb : Bytes l0.flatten) (hl : l0.flatten.length ≤ 1000000000) : octet_Check.f l0 = some (65535 - sumOf l0.flatten) := by
  unfold octet_Check.f
  rw [sum_to l0 hb hl]
  have := sumOf_bound l0.flatten
  simp only [Option.bind_some]
  rw [w64 (by omega) (by omega)]
theorem check_one (l : List Int) (hb : Bytes l) (hl : l.length ≤ 1000000000) : octet_Check.f [l] = some (65535 - sumOf l) := by
  have := check_to [l] (by simpa using hb) (by simpa using hl)
  simpa using this
theorem rdL_rd (x0 : List (List Int)) (i : Int) : rd_L1 x0 i = x0.getD i.toNat [] := rfl
theorem refSum_inner (x0 : List (List Int)) (i : Nat) (hi : i < x0.length) (hn : ((x0.getD i []).length : Int) ≤ 9223372036854775807) (rem : Nat) : ∀ (k j : Nat) (t : Int) (o : Bool), j + rem = (x0.getD i []).length →
    bailiwickref1_Sum.l1 (k + rem + 1) x0 t (!o) i j = bailiwickref1_Sum.l0 k x0 (((x0.getD i []).drop j).foldl octet_Sum.step (t, o)).1 (!(((x0.getD i []).drop j).foldl octet_Sum.step (t, o)).2) (wrap64 ((i : Int) + 1)) := by
  induction rem with
  | zero =>
    intro k j t o h
    rw [bailiwickref1_Sum.l1, if_pos (by omega), if_pos (by omega), rdL_rd, if_neg (by simp only [Int.toNat_natCast]; omega), List.drop_of_length_le (by omega)]
    rfl
  | succ rem ih =>
    intro k j t o h
    rw [show k + (rem + 1) + 1 = (k + rem + 1) + 1 by omega]
    have e2 : wrap64 ((j : Int) + 1) = ((j + 1 : Nat) : Int) := by rw [w64 (by omega) (by omega)]; simp
    rw [bailiwickref1_Sum.l1, if_pos (by omega), if_pos (by omega), rdL_rd, if_pos (by simp only [Int.toNat_natCast]; omega), e2]
    rw [if_pos (by omega : (0 : Int) ≤ (j : Int))]
    simp only [Int.toNat_natCast]
    rw [drop_rd (x0.getD i []) j (by omega), List.foldl_cons]
    cases o
    · simp only [Bool.not_false, if_true, Bool.not_true]
      have := ih k (j + 1) (octet_Sum.step (t, false) (rd (x0.getD i []) (j : Int))).1 true (by omega)
      simp only [Bool.not_true] at this
      exact this
    · simp only [Bool.not_true, Bool.false_eq_true, if_false, Bool.not_false]
      have := ih k (j + 1) (octet_Sum.step (t, true) (rd (x0.getD i []) (j : Int))).1 false (by omega)
      simp only [Bool.not_false] at this
      exact this
def cost : List (List Int) → Nat
  | [] => 0
  | b :: l => b.length + 2 + cost l
theorem refSum_outer (x0 : List (List Int)) (hx : (x0.length : Int) ≤ 9223372036854775806) (hn : ∀ b ∈ x0, (b.length : Int) ≤ 9223372036854775807) (rem : Nat) : ∀ (k i : Nat) (t : Int) (o : Bool), i + rem = x0.length →
    bailiwickref1_Sum.l0 (k + cost (x0.drop i) + 1) x0 t (!o) i = bailiwickref1_fold.f k (octet_Sum.tot (t, o) (x0.drop i)).1 := by
  induction rem with
  | zero =>
    intro k i t o h
    rw [List.drop_of_length_le (by omega)]
    simp only [cost, Nat.add_zero, bailiwickref1_Sum.l0]
    rw [if_neg (by omega)]
    simp [octet_Sum.tot]
  | succ rem ih =>
    intro k i t o h
    have hi : i < x0.length := by omega
    have hd : x0.drop i = x0.getD i [] :: x0.drop (i + 1) := by
      rw [List.drop_eq_getElem_cons hi]; simp [hi]
    have hm : ((x0.getD i []).length : Int) ≤ 9223372036854775807 := hn _ (by simp [hi])
    rw [hd]
    simp only [cost]
    rw [show k + ((x0.getD i []).length + 2 + cost (x0.drop (i + 1))) + 1 = ((k + cost (x0.drop (i + 1)) + 1) + (x0.getD i []).length + 1) + 1 by omega]
    rw [bailiwickref1_Sum.l0, if_pos (by omega)]
    have := refSum_inner x0 i hi hm (x0.getD i []).length (k + cost (x0.drop (i + 1)) + 1) 0 t o (by omega)
    rw [show ((0 : Nat) : Int) = 0 from rfl] at this
    rw [this, List.drop_zero, show wrap64 ((i : Int) + 1) = ((i + 1 : Nat) : Int) by rw [w64 (by omega) (by omega)]; simp]
    rw [ih k (i + 1) _ _ (by omega)]
    congr 2
theorem refSum_to (x0 : List (List Int)) (hx : (x0.length : Int) ≤ 9223372036854775806) (hb : Bytes x0.flatten) (hl : x0.flatten.length ≤ 1000000000) (k : Nat) (hk : cost x0 + 7 ≤ k) : bailiwickref1_Sum.f k x0 = some (sumOf x0.flatten) := by
  obtain ⟨m, rfl⟩ : ∃ m, k = m + cost x0 + 1 := ⟨k - cost x0 - 1, by omega⟩
  unfold bailiwickref1_Sum.f
  have hn : ∀ b ∈ x0, (b.length : Int) ≤ 9223372036854775807 := by
    intro b hb
    have : b.length ≤ x0.flatten.length := by
      clear hl hk hx
      induction x0 with
      | nil => simp at hb
      | cons c l ih =>
        rw [List.flatten_cons, List.length_append]
        rcases List.mem_cons.1 hb with rfl | h
        · omega
        · have := ih (fun d hd => by rename_i hB; exact hB d (by rw [List.flatten_cons]; exact List.mem_append_right _ hd)) h
          omega
    omega
  have := refSum_outer x0 hx hn x0.length m 0 0 false (by omega)
  simp only [List.drop_zero, Bool.not_false] at this
  rw [show ((0 : Nat) : Int) = 0 from rfl] at this
  rw [this, tot_flat]
  have h := wsum_bound x0.flatten false hb
  rw [sum_foldl _ 0 false hb (by omega) (by omega), refFold_to m (by omega) _ (by simp; omega) (by simp; omega)]
  simp [sumOf]
theorem cost_le (x0 : List (List Int)) : cost x0 = x0.flatten.length + 2 * x0.length := by
  induction x0 with
  | nil => rfl
  | cons b l ih => simp only [cost, List.flatten_cons, List.length_append, List.length_cons]; omega
/-- Copies. -/
theorem copy_loop (l : List Int) (hl : l.length ≤ 140737488351232) (rem : Nat) : ∀ (k i : Nat) (m : List Int), i + rem = l.length → m.length = i → rem < k → bailiwickref1_Copy.l0 k l m i = some (m ++ l.drop i) := by
  induction rem with
  | zero =>
    intro k i m h hm hk
    obtain ⟨k, rfl⟩ : ∃ q, k = q + 1 := ⟨k - 1, by omega⟩
    simp only [bailiwickref1_Copy.l0]
    rw [if_neg (by omega), List.drop_of_length_le (by omega), List.append_nil]
  | succ rem ih =>
    intro k i m h hm hk
    obtain ⟨k, rfl⟩ : ∃ q, k = q + 1 := ⟨k - 1, by omega⟩
    simp only [bailiwickref1_Copy.l0]
    rw [if_pos (by omega), if_pos (by omega), if_pos (by omega), show wrap64 ((i : Int) + 1) = ((i + 1 : Nat) : Int) by rw [w64 (by omega) (by omega)]; simp]
    rw [ih k (i + 1) _ (by omega) (by simp [hm]) (by omega), drop_rd l i (by omega)]
    simp
theorem copy_to (l : List Int) (hl : l.length ≤ 140737488351232) (k : Nat) (hk : l.length < k) : bailiwickref1_Copy.f k l = some l := by
  unfold bailiwickref1_Copy.f
  have := copy_loop l hl l.length k 0 [] (by omega) rfl hk
  simpa using this
/-- Comparisons. -/
theorem same_loop (l : List Int) (hl : l.length ≤ 140737488351232) (rem : Nat) : ∀ (k i : Nat), i + rem = l.length → rem < k → bailiwickref1_Same.l0 k l l i = some true := by
  induction rem with
  | zero =>
    intro k i h hk
    obtain ⟨k, rfl⟩ : ∃ q, k = q + 1 := ⟨k - 1, by omega⟩
    simp only [bailiwickref1_Same.l0]
    rw [if_neg (by omega)]
  | succ rem ih =>
    intro k i h hk
    obtain ⟨k, rfl⟩ : ∃ q, k = q + 1 := ⟨k - 1, by omega⟩
    simp only [bailiwickref1_Same.l0]
    rw [if_pos (by omega), if_pos (by omega), if_pos (by omega), if_pos trivial, show wrap64 ((i : Int) + 1) = ((i + 1 : Nat) : Int) by rw [w64 (by omega) (by omega)]; simp]
    exact ih k (i + 1) (by omega) (by omega)
theorem same_to (l : List Int) (hl : l.length ≤ 140737488351232) (k : Nat) (hk : l.length < k) : bailiwickref1_Same.f k l l = some true := by
  unfold bailiwickref1_Same.f
  rw [if_pos rfl]
  have := same_loop l hl l.length k 0 (by omega) hk
  simpa using this
end Go.Proofs.Ytljnnhloinbjhaa.Pure
