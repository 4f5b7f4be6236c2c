/- Plain lemmas on package line: what is found in bytes; what the reader's functions come to. No statement of its own. -/
import Derived.Test.YtnbanjbhjjhkdaaDoorPureLibL
import Derived.Test.YtnbanjbhjjhkdaaDoorPline
import Derived.Test.YtnbanjbhjjhkdaaDoorPbailiwicklaw23
namespace Go.Proofs.YtnbanjbhjjhkdaaDoor.Pure
open Go.RowKit Go.Proofs.YtnbanjbhjjhkdaaDoor.P Go.Proofs.YtnbanjbhjjhkdaaDoorW.PrintWords Go.Proofs.YtnbanjbhjjhkdaaDoorW.PrintLast
set_option linter.unusedVariables false
set_option linter.unusedSimpArgs false
def LBytes (l : List Int) : Prop := ∀ c ∈ l, 0 ≤ c ∧ c ≤ 255
theorem lbytes_of {l : List Int} (h : ∀ a ∈ l, (Lit.int .u8 a).wf = true) : LBytes l := by
  intro c hc
  have := h c hc
  simp [Lit.wf, IntKind.min, IntKind.max, IntKind.bits, IntKind.signed] at this
  omega
theorem lw64 {x : Int} (h0 : -9223372036854775808 ≤ x) (h1 : x ≤ 9223372036854775807) : wrap64 x = x := by
  unfold wrap64
  omega
theorem lrd (l : List Int) (i : Nat) : rd l (i : Int) = lineAt l i := by
  unfold rd lineAt
  rw [Int.toNat_natCast]
theorem ldrop (l : List Int) (i : Nat) (h : i < l.length) : l.drop i = rd l (i : Int) :: l.drop (i + 1) := by
  have e : rd l (i : Int) = l[i] := by simp [rd, h]
  rw [e, List.drop_eq_getElem_cons h]
def findT (l : List Int) : Int × Int × Int × Int × Int × Bool := match lineFind l with
  | some (k, f, t, a, p) => (k, (f : Int), (t : Int), a, p, true)
  | none => (0, 0, 0, 0, 0, false)
theorem find_to {l : List Int} (h : LBytes l) : line_Find.f l = some (findT l) := by
  unfold line_Find.f findT
  rw [if_pos (show ∀ x ∈ l, 0 ≤ x ∧ x ≤ 255 from h)]
  cases lineFind l with
  | none => rfl
  | some r => rfl
theorem lawake : bailiwicklaw23_awake.f = some true := rfl
theorem skip_len (l : List Int) : ∀ (s : List Int) (k k' : Nat), lineSkip l s k = some k' → k' = k + s.length
  | [], k, k', h => by
    unfold lineSkip at h
    cases h
    rfl
  | x :: s, k, k', h => by
    unfold lineSkip at h
    split at h
    · have := skip_len l s (k + 1) k' h
      rw [List.length_cons]
      omega
    · cases h
theorem number_ge {l : List Int} {k d k' : Nat} {m n : Int} (h : lineNumber l k d m = some (n, k')) : k ≤ k' := by
  unfold lineNumber at h
  split at h
  · split at h
    · cases h
      omega
    · cases h
  · cases h
theorem open_ge : ∀ (l : List Int) (k k' : Nat), lineOpen l k = some k' → k ≤ k'
  | [], k, k', h => by cases h
  | x :: l, k, k', h => by
    unfold lineOpen at h
    split at h
    · cases h; omega
    · have := open_ge l (k + 1) k' h; omega
end Go.Proofs.YtnbanjbhjjhkdaaDoor.Pure
