/- Plain: bounds of what the finder of lines tells. No statement of its own. -/
import Derived.Test.YtnbanjbhjjhkdaaDoorPline
import Derived.Test.YtnbanjbhjjhkdaaDoorPureLibLS
namespace Go.Proofs.YtnbanjbhjjhkdaaDoor.Pure
open Go.RowKit Go.Proofs.YtnbanjbhjjhkdaaDoor.P Go.Proofs.YtnbanjbhjjhkdaaDoorW.PrintWords Go.Proofs.YtnbanjbhjjhkdaaDoorW.PrintLast
set_option linter.unusedVariables false
set_option linter.unusedSimpArgs false
theorem skip_le (l : List Int) : ∀ (s : List Int) (k k' : Nat), k ≤ l.length → lineSkip l s k = some k' → k' ≤ l.length
  | [], k, k', hk, h => by
    unfold lineSkip at h
    cases h
    exact hk
  | x :: s, k, k', hk, h => by
    unfold lineSkip at h
    split at h
    · rename_i hc
      exact skip_le l s (k + 1) k' hc.2 h
    · cases h
theorem bytes_le (l s : List Int) : ∀ (n : Nat) (f : Bool) (x x' : Int) (k k' : Nat), k ≤ l.length → lineBytes l s n f x k = some (x', k') → k ≤ k' ∧ k' ≤ l.length
  | 0, f, x, x', k, k', hk, h => by
    unfold lineBytes at h
    cases h
    exact ⟨Nat.le_refl _, hk⟩
  | n + 1, f, x, x', k, k', hk, h => by
    unfold lineBytes at h
    split at h
    · cases h
    · rename_i k1 h1
      have hk1 : k ≤ k1 ∧ k1 ≤ l.length := by
        split at h1
        · cases h1
          exact ⟨Nat.le_refl _, hk⟩
        · have := skip_len l s k k1 h1
          exact ⟨by omega, skip_le l s k k1 hk h1⟩
      split at h
      · cases h
      · rename_i v k2 h2
        have hb := number_len hk1.2 h2
        have := bytes_le l s n false _ x' k2 k' hb.2 h
        omega
/-- Where what is found lies. -/
structure Lies (l : List Int) (r : Int × Nat × Nat × Int × Int) : Prop where
  lo : 5 ≤ r.2.1
  mid : r.2.1 ≤ r.2.2.1
  hi : r.2.2.1 ≤ l.length
theorem port_lies {l : List Int} {r : Int × Nat × Nat × Int × Int} (h : linePort l = some r) : Lies l r := by
  unfold linePort at h
  split at h
  · cases h
  · rename_i k h1
    have e1 := skip_len _ _ _ _ h1
    have l1 := skip_le _ _ _ _ (Nat.zero_le _) h1
    split at h
    · cases h
    · rename_i a p k1 h2
      split at h
      · rename_i hc
        cases h
        simp only [List.length_cons, List.length_nil] at e1
        exact ⟨by simp only; omega, by simp only; omega, by simp only; omega⟩
      · cases h
theorem eprt_lies {l : List Int} {r : Int × Nat × Nat × Int × Int} (h : lineEprt l = some r) : Lies l r := by
  unfold lineEprt at h
  split at h
  · cases h
  rename_i k h1
  have e1 := skip_len _ _ _ _ h1
  have l1 := skip_le _ _ _ _ (Nat.zero_le _) h1
  split at h
  · cases h
  rename_i k1 h2
  split at h
  · cases h
  rename_i a k2 h3
  split at h
  · cases h
  rename_i k3 h4
  split at h
  · cases h
  rename_i p k4 h5
  split at h
  · cases h
  rename_i k5 h6
  split at h
  · rename_i hc
    cases h
    simp only [List.length_cons, List.length_nil] at e1
    exact ⟨by simp only; omega, by simp only; omega, by simp only; omega⟩
  · cases h
theorem pasv_lies {l : List Int} {r : Int × Nat × Nat × Int × Int} (h : linePasv l = some r) : Lies l r := by
  unfold linePasv at h
  split at h
  · cases h
  rename_i k h1
  have e1 := skip_len _ _ _ _ h1
  have l1 := skip_le _ _ _ _ (Nat.zero_le _) h1
  simp only [List.length_cons, List.length_nil] at e1
  split at h
  · cases h
  rename_i k1 h2
  have b1 := open_bound _ _ _ h2
  rw [List.length_drop] at b1
  split at h
  · cases h
  rename_i a p k2 h3
  have b2 : k1 ≤ k2 ∧ k2 ≤ l.length := by
    unfold lineSix at h3
    split at h3
    · cases h3
    · rename_i x k' h4
      cases h3
      exact bytes_le l [44] 6 true 0 _ _ _ (by omega) h4
  split at h
  · cases h
  split at h
  · cases h
    exact ⟨by simp only; omega, by simp only; omega, by simp only; omega⟩
  · cases h
theorem epsv_lies {l : List Int} {r : Int × Nat × Nat × Int × Int} (h : lineEpsv l = some r) : Lies l r := by
  unfold lineEpsv at h
  split at h
  · cases h
  rename_i k h1
  have e1 := skip_len _ _ _ _ h1
  have l1 := skip_le _ _ _ _ (Nat.zero_le _) h1
  simp only [List.length_cons, List.length_nil] at e1
  split at h
  · cases h
  rename_i k1 h2
  have b1 := open_bound _ _ _ h2
  rw [List.length_drop] at b1
  split at h
  · cases h
  rename_i k2 h3
  have e2 := skip_len _ _ _ _ h3
  have l2 := skip_le _ _ _ _ (by omega) h3
  split at h
  · cases h
  rename_i p k3 h4
  have b3 := number_len l2 h4
  split at h
  · cases h
  rename_i k4 h5
  have e4 := skip_len _ _ _ _ h5
  have l4 := skip_le _ _ _ _ b3.2 h5
  split at h
  · cases h
  split at h
  · cases h
    exact ⟨by simp only; omega, by simp only; omega, by simp only; omega⟩
  · cases h
theorem read_lies {l : List Int} {kind : Int} {r : Int × Nat × Nat × Int × Int} (h : lineRead l kind = some r) : Lies l r := by
  unfold lineRead at h
  split at h
  · exact port_lies h
  split at h
  · exact eprt_lies h
  split at h
  · exact pasv_lies h
  split at h
  · exact epsv_lies h
  · cases h
theorem text_take {b l : List Int} (h : lineText b = some l) : l = b.take (b.length - 2) ∧ 2 ≤ b.length := by
  unfold lineText at h
  split at h
  · rename_i hh
    cases h
    exact ⟨rfl, hh.1⟩
  · cases h
theorem find_lies {b : List Int} {r : Int × Nat × Nat × Int × Int} (h : lineFind b = some r) : 5 ≤ r.2.1 ∧ r.2.1 ≤ r.2.2.1 ∧ r.2.2.1 + 2 ≤ b.length := by
  unfold lineFind at h
  split at h
  · cases h
  rename_i l ht
  obtain ⟨h1, h2⟩ := text_take ht
  have hl : l.length = b.length - 2 := by rw [h1, List.length_take]; omega
  have key : Lies l r := by
    split at h
    · rename_i r' hr
      cases h
      exact read_lies hr
    · split at h
      · rename_i r' hr
        cases h
        exact read_lies hr
      · split at h
        · rename_i r' hr
          cases h
          exact read_lies hr
        · exact read_lies h
  have := key.lo
  have := key.mid
  have := key.hi
  omega
/-- The premise of line.Put's contract. -/
theorem find_fb {l : List Int} (hb : LBytes l) : ∀ r1 r2 r3 r4 r5, line_Find.f l = some (r1, r2, r3, r4, r5, true) → 0 ≤ r2 ∧ r2 ≤ l.length ∧ 0 ≤ r3 ∧ r3 ≤ l.length := by
  intro r1 r2 r3 r4 r5 h
  rw [find_to hb] at h
  unfold findT at h
  split at h
  · rename_i k f t a p hf
    have := find_lies hf
    simp only at this
    simp only [Option.some.injEq, Prod.mk.injEq] at h
    omega
  · simp at h
end Go.Proofs.YtnbanjbhjjhkdaaDoor.Pure
