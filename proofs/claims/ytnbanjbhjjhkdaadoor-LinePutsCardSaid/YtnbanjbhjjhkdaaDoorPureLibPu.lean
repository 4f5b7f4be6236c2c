/- What the document's own change of a line comes to. No statement of its own. -/
import Derived.Test.YtnbanjbhjjhkdaaDoorPureLibFb
import Derived.Test.YtnbanjbhjjhkdaaDoorPureLib5
import Derived.Test.YtnbanjbhjjhkdaaDoorPureLibTp
import Derived.Test.YtnbanjbhjjhkdaaDoorPureLibTr
import Derived.Test.YtnbanjbhjjhkdaaDoorPureLineRef
import Derived.Test.YtnbanjbhjjhkdaaDoorPbailiwickref23Put
namespace Go.Proofs.YtnbanjbhjjhkdaaDoor.Pure
open Go.RowKit Go.Proofs.YtnbanjbhjjhkdaaDoor.P Go.Proofs.YtnbanjbhjjhkdaaDoorW.PrintWords Go.Proofs.YtnbanjbhjjhkdaaDoorW.PrintLast
set_option linter.unusedVariables false
set_option linter.unusedSimpArgs false
theorem bytes_drop (S : ByteArray) (i : Nat) (h : i < S.size) : (bytesOf S).drop i = bt S (i : Int) :: (bytesOf S).drop (i + 1) := by
  rw [ldrop (bytesOf S) i (by rw [bytesOf_length]; exact h), rd_bytesOf]
theorem rput_loop (l : List Int) (hl : l.length ≤ 100000) (S : ByteArray) (hS : S.size ≤ 1000) (a0 a1 a3 a4 : Int) (t : Nat) (ht : t ≤ l.length) (rem : Nat) : ∀ (k i : Nat) (acc : List Int), i + rem = S.size → rem < k → acc.length + rem ≤ 200000 →
    bailiwickref23_Put.l0 k l S acc i a0 a1 t a3 a4 = some (acc ++ (bytesOf S).drop i ++ l.drop t, 0) := by
  induction rem with
  | zero =>
    intro k i acc h hk ha
    obtain ⟨k, rfl⟩ : ∃ q, k = q + 1 := ⟨k - 1, by omega⟩
    simp only [bailiwickref23_Put.l0]
    rw [if_neg (by omega), if_pos (by omega), if_pos (by omega), Int.toNat_natCast, if_pos (by rw [List.length_drop]; omega), List.drop_of_length_le (l := bytesOf S) (by rw [bytesOf_length]; omega), List.append_nil]
  | succ rem ih =>
    intro k i acc h hk ha
    obtain ⟨k, rfl⟩ : ∃ q, k = q + 1 := ⟨k - 1, by omega⟩
    simp only [bailiwickref23_Put.l0]
    rw [if_pos (by omega), if_pos (by omega), if_pos (by omega), show wrap64 ((i : Int) + 1) = ((i + 1 : Nat) : Int) by rw [lw64 (by omega) (by omega)]; simp]
    rw [ih k (i + 1) _ (by omega) (by omega) (by rw [List.length_append, List.length_cons, List.length_nil]; omega), bytes_drop S i (by omega)]
    simp
theorem rput_to (l : List Int) (hl : l.length ≤ 100000) (hb : LBytes l) (k f t a p ea ep : Int) (h : 0 ≤ ea ∧ ea < 4294967296) (K : Nat) (hK : 300000 ≤ K) : bailiwickref23_Put.f K l k f t a p ea ep = some (putL l k f t a p ea ep) := by
  obtain ⟨K, rfl⟩ : ∃ q, K = q + 1 := ⟨K - 1, by omega⟩
  unfold bailiwickref23_Put.f putL
  rw [refFind_to l hl _ (by omega), Option.bind_some, find_to hb]
  have hfb := find_fb hb
  rw [find_to hb] at hfb
  generalize findT l = T at hfb ⊢
  obtain ⟨r1, r2, r3, r4, r5, r6⟩ := T
  simp only
  have bad : ∀ (x : Bool), x = true → bailiwickref23_Put.j0 (K + 1) l x k f t a p ea ep = some ([], 1) := fun x hx => by
    rw [hx]
    simp only [bailiwickref23_Put.j0]
    rfl
  cases r6 with
  | false => rw [if_neg (by decide), bad true rfl, if_neg (fun h => by cases h.1)]
  | true =>
  rw [if_pos rfl]
  by_cases he : r1 = k ∧ r2 = f ∧ r3 = t ∧ r4 = a ∧ r5 = p
  case neg =>
    rw [bad _ (by
      rw [← Bool.not_eq_false]
      intro hx
      simp only [Bool.or_eq_false_iff, Bool.not_eq_false', beq_iff_eq] at hx
      exact he hx), if_neg (fun h => he h.2)]
  obtain ⟨rfl, rfl, rfl, rfl, rfl⟩ := he
  obtain ⟨b1, b2, b3, b4⟩ := hfb r1 r2 r3 r4 r5 rfl
  obtain ⟨F, rfl⟩ : ∃ F : Nat, r2 = F := ⟨r2.toNat, by omega⟩
  obtain ⟨G, rfl⟩ : ∃ F : Nat, r3 = F := ⟨r3.toNat, by omega⟩
  rw [if_pos ⟨rfl, rfl, rfl, rfl, rfl, rfl⟩]
  simp only [beq_self_eq_true, Bool.not_true, Bool.or_false, bailiwickref23_Put.j0]
  rw [if_neg (by decide), rtext_to _ (by omega) r1 ea ep h, Option.bind_some]
  simp only
  by_cases hE : textE r1 ep = 0
  · have hlen := textL_len r1 ea ep h.1
    have hS : (toS (textL r1 ea ep)).size ≤ 100 := by rw [toS_size]; exact hlen
    rw [if_pos hE, if_pos hE, show (0 : Int) = ((0 : Nat) : Int) from rfl, part_to l 0 F (by omega) (by omega) (by omega) _ (by omega), Option.bind_some, rput_loop l hl _ (by omega) _ _ _ _ G (by omega) (toS (textL r1 ea ep)).size _ 0 _ (by omega) (by omega) (by rw [List.drop_zero, List.length_take]; omega)]
    rw [List.drop_zero, List.drop_zero, Int.toNat_natCast, Int.toNat_natCast, bytesOf_toS]
    rfl
  · rw [if_neg hE, if_neg hE]
end Go.Proofs.YtnbanjbhjjhkdaaDoor.Pure
