/- Plain lemmas: sums of rows of bytes as sums of words; copies; comparisons. No program in sight. -/
import Derived.Test.YthnhpbplglmmmaaDoorPoctet
import Derived.Test.YthnhpbplglmmmaaDoorPureLib2
import Derived.Test.YthnhpbplglmmmaaDoorPbailiwickref1
namespace Go.Proofs.YthnhpbplglmmmaaDoor.Pure
open Go.RowKit Go.Proofs.YthnhpbplglmmmaaDoor.P Go.Proofs.YthnhpbplglmmmaaDoorW.PrintWords Go.Proofs.YthnhpbplglmmmaaDoorW.PrintLast
set_option linter.unusedVariables false
set_option linter.unusedSimpArgs false
/-- Bytes. -/
def Bytes (l : List Int) : Prop := ∀ c ∈ l, 0 ≤ c ∧ c < 256
theorem bytes_of {l : List Int} (h : ∀ a ∈ l, (Lit.int .u8 a).wf = true) : Bytes l := by
  intro c hc
  have := h c hc
  simp [Lit.wf, IntKind.min, IntKind.max, IntKind.bits, IntKind.signed] at this
  omega
theorem Bytes.cons {c : Int} {l : List Int} (h : Bytes (c :: l)) : (0 ≤ c ∧ c < 256) ∧ Bytes l := ⟨h c (by simp), fun d hd => h d (by simp [hd])⟩
theorem Bytes.append {l m : List Int} (h : Bytes l) (h2 : Bytes m) : Bytes (l ++ m) := fun c hc => (List.mem_append.1 hc).elim (h c) (h2 c)
theorem Bytes.get {l : List Int} (h : Bytes l) (i : Nat) (hi : i < l.length) : 0 ≤ rd l (i : Int) ∧ rd l (i : Int) < 256 := by
  rw [rd_nat l i hi]
  exact h _ (List.getElem_mem hi)
/-- The sum of words, unfolded: o: is the next byte a lower one? -/
def wsum : Bool → List Int → Int
  | _, [] => 0
  | o, c :: l => (if o then c else c * 256) + wsum (!o) l
theorem wsum_bound (l : List Int) : ∀ o, Bytes l → 0 ≤ wsum o l ∧ wsum o l ≤ 65280 * l.length := by
  induction l with
  | nil => intro o _; simp [wsum]
  | cons c l ih =>
    intro o h
    obtain ⟨hc, hl⟩ := h.cons
    have := ih (!o) hl
    cases o <;> simp only [wsum, List.length_cons] at * <;> simp at * <;> omega
def parity (o : Bool) (l : List Int) : Bool := if l.length % 2 = 0 then o else !o
theorem sum_foldl (l : List Int) : ∀ (t : Int) (o : Bool), Bytes l → 0 ≤ t → t + 65280 * l.length < 18446744073709551616 → l.foldl octet_Sum.step (t, o) = (t + wsum o l, parity o l) := by
  induction l with
  | nil => intro t o _ _ _; simp [wsum, parity]
  | cons c l ih =>
    intro t o h h0 h1
    obtain ⟨hc, hl⟩ := h.cons
    simp only [List.length_cons] at h1
    have e : octet_Sum.step (t, o) c = (t + (if o then c else c * 256), !o) := by
      unfold octet_Sum.step
      cases o
      · simp only [Bool.false_eq_true, if_false]
        rw [wrap_u64, wrap_u64, wrap_u64, Int.emod_eq_of_lt (a := c) (by omega) (by omega), Int.emod_eq_of_lt (a := c * 256) (by omega) (by omega), Int.emod_eq_of_lt (by omega) (by omega)]
      · simp only [if_true]
        rw [wrap_u64, wrap_u64, Int.emod_eq_of_lt (a := c) (by omega) (by omega), Int.emod_eq_of_lt (by omega) (by omega)]
    rw [List.foldl_cons, e, ih _ _ hl (by split <;> omega) (by split <;> omega)]
    refine Prod.ext ?_ ?_
    · simp only [wsum]; omega
    · simp only [parity, List.length_cons]
      by_cases hp : l.length % 2 = 0
      · rw [if_pos hp, if_neg (by omega)]
      · rw [if_neg hp, if_pos (by omega)]; simp
theorem tot_flat (l0 : List (List Int)) : ∀ s, octet_Sum.tot s l0 = l0.flatten.foldl octet_Sum.step s := by
  unfold octet_Sum.tot
  induction l0 with
  | nil => intro s; rfl
  | cons b l ih => intro s; rw [List.foldl_cons, ih, List.flatten_cons, List.foldl_append]
/-- The Sum of rows of bytes. -/
def sumOf (l : List Int) : Int := fold16 (wsum false l)
theorem sumOf_bound (l : List Int) : 0 ≤ sumOf l ∧ sumOf l ≤ 65535 := fold16_bound _
theorem rdL_rd (x0 : List (List Int)) (i : Int) : rd_L1 x0 i = x0.getD i.toNat [] := rfl
def cost : List (List Int) → Nat
  | [] => 0
  | b :: l => b.length + 2 + cost l
theorem cost_le (x0 : List (List Int)) : cost x0 = x0.flatten.length + 2 * x0.length := by
  induction x0 with
  | nil => rfl
  | cons b l ih => simp only [cost, List.flatten_cons, List.length_append, List.length_cons]; omega
/-- Copies. -/
theorem copy_loop (l : List Int) (hl : l.length ≤ 140737488351232) (rem : Nat) : ∀ (k i : Nat) (m : List Int), i + rem = l.length → m.length = i → rem < k → bailiwickref1_Copy.l0 k l m i = some (m ++ l.drop i) := by
  induction rem with
  | zero =>
    intro k i m h hm hk
    obtain ⟨k, rfl⟩ : ∃ q, k = q + 1 := ⟨k - 1, by omega⟩
    simp only [bailiwickref1_Copy.l0]
    rw [if_neg (by omega), List.drop_of_length_le (by omega), List.append_nil]
  | succ rem ih =>
    intro k i m h hm hk
    obtain ⟨k, rfl⟩ : ∃ q, k = q + 1 := ⟨k - 1, by omega⟩
    simp only [bailiwickref1_Copy.l0]
    rw [if_pos (by omega), if_pos (by omega), if_pos (by omega), show wrap64 ((i : Int) + 1) = ((i + 1 : Nat) : Int) by rw [w64 (by omega) (by omega)]; simp]
    rw [ih k (i + 1) _ (by omega) (by simp [hm]) (by omega), drop_rd l i (by omega)]
    simp
theorem copy_to (l : List Int) (hl : l.length ≤ 140737488351232) (k : Nat) (hk : l.length < k) : bailiwickref1_Copy.f k l = some l := by
  unfold bailiwickref1_Copy.f
  have := copy_loop l hl l.length k 0 [] (by omega) rfl hk
  simpa using this
/-- Comparisons. -/
theorem same_loop (l : List Int) (hl : l.length ≤ 140737488351232) (rem : Nat) : ∀ (k i : Nat), i + rem = l.length → rem < k → bailiwickref1_Same.l0 k l l i = some true := by
  induction rem with
  | zero =>
    intro k i h hk
    obtain ⟨k, rfl⟩ : ∃ q, k = q + 1 := ⟨k - 1, by omega⟩
    simp only [bailiwickref1_Same.l0]
    rw [if_neg (by omega)]
  | succ rem ih =>
    intro k i h hk
    obtain ⟨k, rfl⟩ : ∃ q, k = q + 1 := ⟨k - 1, by omega⟩
    simp only [bailiwickref1_Same.l0]
    rw [if_pos (by omega), if_pos (by omega), if_pos (by omega), if_pos trivial, show wrap64 ((i : Int) + 1) = ((i + 1 : Nat) : Int) by rw [w64 (by omega) (by omega)]; simp]
    exact ih k (i + 1) (by omega) (by omega)
theorem same_to (l : List Int) (hl : l.length ≤ 140737488351232) (k : Nat) (hk : l.length < k) : bailiwickref1_Same.f k l l = some true := by
  unfold bailiwickref1_Same.f
  rw [if_pos rfl]
  have := same_loop l hl l.length k 0 (by omega) hk
  simpa using this
end Go.Proofs.YthnhpbplglmmmaaDoor.Pure
