/- Plain lemmas: sums of rows of bytes as sums of words; copies; comparisons. No program in sight. -/
import Derived.Test.YtnbanjbhjjhkdaaDoorPureLib2
import Derived.Test.YtnbanjbhjjhkdaaDoorPbailiwickref1
namespace Go.Proofs.YtnbanjbhjjhkdaaDoor.Pure
open Go.RowKit Go.Proofs.YtnbanjbhjjhkdaaDoor.P Go.Proofs.YtnbanjbhjjhkdaaDoorW.PrintWords Go.Proofs.YtnbanjbhjjhkdaaDoorW.PrintLast
set_option linter.unusedVariables false
set_option linter.unusedSimpArgs false
/-- Bytes. -/
def Bytes (l : List Int) : Prop := ∀ c ∈ l, 0 ≤ c ∧ c < 256
theorem bytes_of {l : List Int} (h : ∀ a ∈ l, (Lit.int .u8 a).wf = true) : Bytes l := by
  intro c hc
  have := h c hc
  simp [Lit.wf, IntKind.min, IntKind.max, IntKind.bits, IntKind.signed] at this
  omega
theorem Bytes.cons {c : Int} {l : List Int} (h : Bytes (c :: l)) : (0 ≤ c ∧ c < 256) ∧ Bytes l := ⟨h c (by simp), fun d hd => h d (by simp [hd])⟩
theorem Bytes.append {l m : List Int} (h : Bytes l) (h2 : Bytes m) : Bytes (l ++ m) := fun c hc => (List.mem_append.1 hc).elim (h c) (h2 c)
theorem Bytes.get {l : List Int} (h : Bytes l) (i : Nat) (hi : i < l.length) : 0 ≤ rd l (i : Int) ∧ rd l (i : Int) < 256 := by
  rw [rd_nat l i hi]
  exact h _ (List.getElem_mem hi)
/-- The sum of words, unfolded: o: is the next byte a lower one? -/
def wsum : Bool → List Int → Int
  | _, [] => 0
  | o, c :: l => (if o then c else c * 256) + wsum (!o) l
theorem wsum_bound (l : List Int) : ∀ o, Bytes l → 0 ≤ wsum o l ∧ wsum o l ≤ 65280 * l.length := by
  induction l with
  | nil => intro o _; simp [wsum]
  | cons c l ih =>
    intro o h
    obtain ⟨hc, hl⟩ := h.cons
    have := ih (!o) hl
    cases o <;> simp only [wsum, List.length_cons] at * <;> simp at * <;> omega
def parity (o : Bool) (l : List Int) : Bool := if l.length % 2 = 0 then o else !o
/-- The Sum of rows of bytes. -/
def sumOf (l : List Int) : Int := fold16 (wsum false l)
theorem sumOf_bound (l : List Int) : 0 ≤ sumOf l ∧ sumOf l ≤ 65535 := fold16_bound _
theorem rdL_rd (x0 : List (List Int)) (i : Int) : rd_L1 x0 i = x0.getD i.toNat [] := rfl
def cost : List (List Int) → Nat
  | [] => 0
  | b :: l => b.length + 2 + cost l
theorem cost_le (x0 : List (List Int)) : cost x0 = x0.flatten.length + 2 * x0.length := by
  induction x0 with
  | nil => rfl
  | cons b l ih => simp only [cost, List.flatten_cons, List.length_append, List.length_cons]; omega
/-- Comparisons. -/
theorem same_loop (l : List Int) (hl : l.length ≤ 140737488351232) (rem : Nat) : ∀ (k i : Nat), i + rem = l.length → rem < k → bailiwickref1_Same.l0 k l l i = some true := by
  induction rem with
  | zero =>
    intro k i h hk
    obtain ⟨k, rfl⟩ : ∃ q, k = q + 1 := ⟨k - 1, by omega⟩
    simp only [bailiwickref1_Same.l0]
    rw [if_neg (by omega)]
  | succ rem ih =>
    intro k i h hk
    obtain ⟨k, rfl⟩ : ∃ q, k = q + 1 := ⟨k - 1, by omega⟩
    simp only [bailiwickref1_Same.l0]
    rw [if_pos (by omega), if_pos (by omega), if_pos (by omega), if_pos trivial, show wrap64 ((i : Int) + 1) = ((i + 1 : Nat) : Int) by rw [w64 (by omega) (by omega)]; simp]
    exact ih k (i + 1) (by omega) (by omega)
theorem same_to (l : List Int) (hl : l.length ≤ 140737488351232) (k : Nat) (hk : l.length < k) : bailiwickref1_Same.f k l l = some true := by
  unfold bailiwickref1_Same.f
  rw [if_pos rfl]
  have := same_loop l hl l.length k 0 (by omega) hk
  simpa using this
end Go.Proofs.YtnbanjbhjjhkdaaDoor.Pure
