/- Plain lemmas: what the document's own functions for lines come to, in words of package line's. No statement of its own. -/
import Derived.Test.YtnbanjbhjjhkdaaDoorPureLibLF
import Derived.Test.YtnbanjbhjjhkdaaDoorPbailiwickref23
import Derived.Laws.BitsAllLaws
namespace Go.Proofs.YtnbanjbhjjhkdaaDoor.Pure
open Go.RowKit Go.Proofs.YtnbanjbhjjhkdaaDoor.P Go.Proofs.YtnbanjbhjjhkdaaDoorW.PrintWords Go.Proofs.YtnbanjbhjjhkdaaDoorW.PrintLast
set_option linter.unusedVariables false
set_option linter.unusedSimpArgs false
theorem upper_to (x : Int) : bailiwickref23_upper.f x = some (lineUp x) := by
  unfold bailiwickref23_upper.f lineUp
  by_cases h1 : x ≥ 97
  · rw [if_pos h1]
    by_cases h2 : x ≤ 122
    · rw [if_pos h2, if_pos ⟨h1, h2⟩, show (x - 32) % 256 = x - 32 by omega]
    · rw [if_neg h2, if_neg (fun h => h2 h.2)]
  · rw [if_neg h1, if_neg (fun h => h1 h.1)]
theorem starts_loop (l : List Int) (S : ByteArray) (hl : S.size ≤ l.length) (hS : S.size ≤ 1000) (rem : Nat) : ∀ (k i : Nat), i + rem = S.size → rem < k → bailiwickref23_starts.l0 k l S i = some (lineSkip l ((bytesOf S).drop i) i).isSome := by
  induction rem with
  | zero =>
    intro k i h hk
    obtain ⟨k, rfl⟩ : ∃ q, k = q + 1 := ⟨k - 1, by omega⟩
    simp only [bailiwickref23_starts.l0]
    rw [if_neg (by omega), List.drop_of_length_le (by rw [bytesOf_length]; omega)]
    rfl
  | succ rem ih =>
    intro k i h hk
    obtain ⟨k, rfl⟩ : ∃ q, k = q + 1 := ⟨k - 1, by omega⟩
    simp only [bailiwickref23_starts.l0]
    rw [if_pos (by omega), if_pos (by omega), if_pos (by omega), upper_to, Option.bind_some, lineSkip_drop l (bytesOf S) i i (by rw [bytesOf_length]; omega), lrd, ← rd_bytesOf]
    by_cases hc : lineUp (lineAt l i) = rd (bytesOf S) (i : Int)
    · rw [if_pos hc, if_pos ⟨hc, by omega⟩, show wrap64 ((i : Int) + 1) = ((i + 1 : Nat) : Int) by rw [lw64 (by omega) (by omega)]; simp]
      exact ih k (i + 1) (by omega) (by omega)
    · rw [if_neg hc, if_neg (fun hh => hc hh.1)]
      rfl
theorem starts_to (l : List Int) (S : ByteArray) (hS : S.size ≤ 1000) (k : Nat) (hk : S.size < k) : bailiwickref23_starts.f k l S = some (lineSkip l (bytesOf S) 0).isSome := by
  unfold bailiwickref23_starts.f
  by_cases h : (l.length : Int) < (S.size : Int)
  · rw [if_pos h]
    cases hs : lineSkip l (bytesOf S) 0 with
    | none => rfl
    | some k' =>
      have h1 := skip_len l _ 0 k' hs
      have h2 := lineSkip_le l _ 0 k' hs (Nat.zero_le _)
      rw [bytesOf_length] at h1
      omega
  · rw [if_neg h]
    have := starts_loop l S (by omega) hS S.size k 0 (by omega) hk
    simpa using this
theorem skip_drop (l : List Int) (i : Nat) (hi : i ≤ l.length) : ∀ (s : List Int) (j : Nat), (lineSkip (l.drop i) s j).isSome = (lineSkip l s (i + j)).isSome
  | [], j => rfl
  | c :: s, j => by
    have e : lineAt (l.drop i) j = lineAt l (i + j) := by
      unfold lineAt
      simp [List.getD_eq_getElem?_getD, List.getElem?_drop]
    unfold lineSkip
    rw [e, List.length_drop]
    by_cases hc : lineUp (lineAt l (i + j)) = c ∧ i + j < l.length
    · rw [if_pos hc, if_pos ⟨hc.1, by omega⟩, skip_drop l i hi s (j + 1), show i + (j + 1) = i + j + 1 by omega]
    · rw [if_neg hc, if_neg (fun hh => hc ⟨hh.1, by omega⟩)]
theorem skip_at (l : List Int) : ∀ (s : List Int) (k k' : Nat), lineSkip l s k = some k' → ∀ j c, s[j]? = some c → lineUp (lineAt l (k + j)) = c
  | [], k, k', h, j, c, hj => by simp at hj
  | x :: s, k, k', h, j, c, hj => by
    unfold lineSkip at h
    split at h
    · rename_i hh
      cases j with
      | zero => simp at hj; subst hj; exact hh.1
      | succ j =>
        have := skip_at l s (k + 1) k' h j c (by simpa using hj)
        rw [show k + (j + 1) = k + 1 + j by omega]
        exact this
    · cases h
theorem up_plain (x c : Int) (h1 : ¬ (65 ≤ c ∧ c ≤ 90)) (h2 : ¬ (97 ≤ c ∧ c ≤ 122)) : lineUp x = c ↔ x = c := by
  unfold lineUp
  split <;> constructor <;> intro h <;> omega
theorem skip_one (l : List Int) (c : Int) (k : Nat) (h1 : ¬ (65 ≤ c ∧ c ≤ 90)) (h2 : ¬ (97 ≤ c ∧ c ≤ 122)) : lineSkip l [c] k = if lineAt l k = c ∧ k < l.length then some (k + 1) else none := by
  unfold lineSkip
  by_cases hc : lineAt l k = c ∧ k < l.length
  · rw [if_pos hc, if_pos ⟨(up_plain _ c h1 h2).mpr hc.1, hc.2⟩]
    rfl
  · rw [if_neg hc, if_neg (fun hh => hc ⟨(up_plain _ c h1 h2).mp hh.1, hh.2⟩)]
/-! Numbers. -/
def numP (d a : Nat) : Option (Int × Nat) → Int × Int
  | some (n, i) => if 0 < i then (n, ((a + i : Nat) : Int)) else (0, -1)
  | none => (0, -1)
theorem number_fin (l : List Int) (a d i : Nat) (n : Int) (k : Nat) (hdig : lineDig (lineAt l (a + i)) = false) : bailiwickref23_number.j1 (k + 1) l a d n ((a + i : Nat) : Int) false = some (numP d a (lineNum d (l.drop (a + i)) i n)) := by
  rw [lineNum_step, if_neg (by rw [hdig]; simp)]
  simp only [bailiwickref23_number.j1, numP]
  rw [if_neg (by simp)]
  by_cases hi : 0 < i
  · rw [if_neg (by omega), if_pos hi]
  · rw [if_pos (by omega), if_neg hi]
theorem number_loop (l : List Int) (hl : l.length ≤ 200000) (a d : Nat) (hd : d ≤ 5) (rem : Nat) : ∀ (k i : Nat) (n : Int), a + i + rem = l.length → 2 * rem + 2 ≤ k → i ≤ d → 0 ≤ n → n < ((10 ^ i : Nat) : Int) →
    bailiwickref23_number.l0 k l a d n ((a + i : Nat) : Int) = some (numP d a (lineNum d (l.drop (a + i)) i n)) := by
  induction rem with
  | zero =>
    intro k i n h hk hi h0 h1
    obtain ⟨k, rfl⟩ : ∃ q, k = q + 2 := ⟨k - 2, by omega⟩
    simp only [bailiwickref23_number.l0]
    rw [if_neg (by omega)]
    exact number_fin l a d i n k (by rw [lineAt_out l (a + i) (by omega)]; rfl)
  | succ rem ih =>
    intro k i n h hk hi h0 h1
    obtain ⟨k, rfl⟩ : ∃ q, k = q + 2 := ⟨k - 2, by omega⟩
    simp only [bailiwickref23_number.l0]
    rw [if_pos (by omega), if_pos (by omega), lrd]
    obtain ⟨x, hx⟩ : ∃ x, x = lineAt l (a + i) := ⟨_, rfl⟩
    rw [← hx]
    by_cases hdg : 48 ≤ x ∧ x ≤ 57
    · have hdig : lineDig x = true := decide_eq_true hdg
      rw [if_pos hdg.1, show decide (x ≤ 57) = true from decide_eq_true hdg.2, lineNum_step, ← hx, if_pos hdig]
      simp only [bailiwickref23_number.j1]
      rw [if_pos trivial]
      by_cases hid : i < d
      · have e2 : 10 ^ i ≤ 10 ^ 5 := Nat.pow_le_pow_right (by omega) (by omega)
        have e3 : 10 ^ (i + 1) = 10 ^ i * 10 := Nat.pow_succ 10 i
        rw [if_neg (by rw [lw64 (by omega) (by omega)]; omega), if_pos (by omega), if_pos (by omega), if_pos hid, lrd, ← hx, show (x - 48) % 256 = x - 48 by omega,
          lw64 (x := n * 10) (by omega) (by omega), lw64 (x := n * 10 + (x - 48)) (by omega) (by omega), lw64 (x := ((a + i : Nat) : Int) + 1) (by omega) (by omega),
          show ((a + i : Nat) : Int) + 1 = ((a + (i + 1) : Nat) : Int) by omega, show n * 10 + (x - 48) = 10 * n + (x - 48) by omega, show a + i + 1 = a + (i + 1) by omega]
        exact ih k (i + 1) (10 * n + (x - 48)) (by omega) (by omega) (by omega) (by omega) (by rw [e3]; push_cast; push_cast at h1; omega)
      · rw [if_pos (by rw [lw64 (by omega) (by omega)]; omega), if_neg hid]
        rfl
    · have hdig : lineDig (lineAt l (a + i)) = false := by rw [← hx]; exact decide_eq_false hdg
      by_cases h48 : x ≥ 48
      · rw [if_pos h48, show decide (x ≤ 57) = false from decide_eq_false (fun hh => hdg ⟨h48, hh⟩)]
        exact number_fin l a d i n k hdig
      · rw [if_neg h48]
        exact number_fin l a d i n k hdig
theorem number_to (l : List Int) (hl : l.length ≤ 200000) (a d : Nat) (hd : d ≤ 5) (ha : a ≤ l.length) (k : Nat) (hk : 2 * l.length + 4 ≤ k) : bailiwickref23_number.f k l a d = some (numP d a (lineNum d (l.drop a) 0 0)) := by
  unfold bailiwickref23_number.f
  have := number_loop l hl a d hd (l.length - a) k 0 0 (by omega) (by omega) (Nat.zero_le _) (Int.le_refl _) (by simp)
  simpa using this
theorem lineNum_len (d : Nat) : ∀ (xs : List Int) (i : Nat) (n n' : Int) (i' : Nat), lineNum d xs i n = some (n', i') → i' ≤ i + xs.length
  | [], i, n, n', i', h => by cases h; simp
  | x :: xs, i, n, n', i', h => by
    unfold lineNum at h
    split at h
    · split at h
      · have := lineNum_len d xs (i + 1) _ n' i' h
        rw [List.length_cons]
        omega
      · cases h
    · cases h
      omega
theorem number_len {l : List Int} {k d k' : Nat} {m n : Int} (hk : k ≤ l.length) (h : lineNumber l k d m = some (n, k')) : k < k' ∧ k' ≤ l.length := by
  unfold lineNumber at h
  split at h
  · rename_i n1 i1 he
    split at h
    · rename_i hh
      cases h
      have := lineNum_len d _ _ _ _ _ he
      rw [List.length_drop] at this
      omega
    · cases h
  · cases h
/-- A number of a greatest value, out of the document's. -/
theorem number_ok (l : List Int) (a d : Nat) (most : Int) (hm : 0 ≤ most) : lineNumber l a d most = (if (numP d a (lineNum d (l.drop a) 0 0)).2 < 0 then none else if (numP d a (lineNum d (l.drop a) 0 0)).1 > most then none else some ((numP d a (lineNum d (l.drop a) 0 0)).1, (numP d a (lineNum d (l.drop a) 0 0)).2.toNat)) := by
  unfold lineNumber numP
  cases h : lineNum d (l.drop a) 0 0 with
  | none => simp
  | some r =>
    obtain ⟨n, i⟩ := r
    simp only
    by_cases hi : 0 < i
    · have h2 : ¬ (((a + i : Nat) : Int) < 0) := by omega
      by_cases hn : n ≤ most
      · have h3 : ¬ (n > most) := by omega
        rw [if_pos hi, if_pos ⟨hi, hn⟩]
        show some (n, a + i) = if ((a + i : Nat) : Int) < 0 then none else if n > most then none else some (n, ((a + i : Nat) : Int).toNat)
        rw [if_neg h2, if_neg h3, Int.toNat_natCast]
      · have h3 : n > most := by omega
        rw [if_pos hi, if_neg (fun hh => hn hh.2)]
        show none = if ((a + i : Nat) : Int) < 0 then none else if n > most then none else some (n, ((a + i : Nat) : Int).toNat)
        rw [if_neg h2, if_pos h3]
    · rw [if_neg hi, if_neg (fun hh => hi hh.1)]
      rfl
end Go.Proofs.YtnbanjbhjjhkdaaDoor.Pure
