/- An address's text split at its dots, and its parts read: plain. No statement of its own. -/
import Derived.Test.YthnhpbplglmmmaaDoorPureLibTr
import Derived.Lib.Split
import Derived.Lib.ParseIntB
namespace Go.Proofs.YthnhpbplglmmmaaDoor.Pure
open Go.RowKit Go.Proofs.YthnhpbplglmmmaaDoor.P Go.Proofs.YthnhpbplglmmmaaDoorW.PrintWords Go.Proofs.YthnhpbplglmmmaaDoorW.PrintLast
set_option linter.unusedVariables false
set_option linter.unusedSimpArgs false
theorem index_none (s : List UInt8) (h : (46 : UInt8) ∉ s) : Lib.indexByte s 46 = -1 := by
  induction s with
  | nil => rfl
  | cons b l ih =>
    unfold Lib.indexByte
    rw [if_neg (by simp; exact fun e => h (by rw [e]; exact List.mem_cons_self ..)), ih (fun e => h (List.mem_cons_of_mem _ e))]
    rfl
theorem indexB_dot (l : List UInt8) : Lib.indexB (toS l) (toS [46]) = Lib.indexByte l 46 := by
  rw [Lib.one (toS l) (toS [46]) rfl]
  rfl
theorem extract_toS (l : List UInt8) (i j : Nat) : (toS l).extract i j = toS ((l.drop i).take (j - i)) := Lib.extract_eq _ _ _
theorem split_mid (pre post : List UInt8) (h : (46 : UInt8) ∉ pre) (k : Nat) : Lib.splitB (toS [46]) 0 (k + 1) (toS (pre ++ 46 :: post)) = toS pre :: Lib.splitB (toS [46]) 0 k (toS post) := by
  rw [Lib.splitB_hit _ _ _ _ pre.length (by rw [indexB_dot, index_mid pre post h]), extract_toS, extract_toS]
  congr 2
  · congr 1
    simp
  · congr 1
    have e : (toS [46]).size = 1 := rfl
    rw [e, toS_size]
    simp only [List.length_append, List.length_cons]
    rw [show (pre ++ 46 :: post).drop (pre.length + 1) = post by simp]
    exact List.take_of_length_le (by omega)
theorem split_last (s : List UInt8) (h : (46 : UInt8) ∉ s) (k : Nat) : Lib.splitB (toS [46]) 0 k (toS s) = [toS s] := Lib.splitB_miss _ _ _ _ (by rw [indexB_dot, index_none s h])
theorem NI_pos (x : Int) (h : 0 ≤ x) : 0 < (Lib.itoa x).length := by
  unfold Lib.itoa
  rw [if_neg (by omega), Lib.decDigits]
  split
  · simp
  · rw [List.length_append]
    simp
theorem show_lens (a : Int) (h : 0 ≤ a) : 4 ≤ (showL a).length := by
  rw [showL_app]
  simp only [List.length_append, List.length_cons, List.length_nil]
  have := NI_pos (a / 16777216 % 256) (by omega)
  omega
theorem split_show (a : Int) (h : 0 ≤ a) : Lib.splitB (toS [46]) 0 4 (toS (showL a)) = (octs a).map fun x => toS (Lib.itoa x) := by
  have e : showL a = Lib.itoa (a / 16777216 % 256) ++ 46 :: (Lib.itoa (a / 65536 % 256) ++ 46 :: (Lib.itoa (a / 256 % 256) ++ 46 :: Lib.itoa (a % 256))) := by
    rw [showL_app]
    simp
  rw [e, split_mid _ _ (itoa_nodot _ (by omega)), split_mid _ _ (itoa_nodot _ (by omega)), split_mid _ _ (itoa_nodot _ (by omega)), split_last _ (itoa_nodot _ (by omega))]
  rfl
theorem parse_dd : ∀ (b n : Nat) (r : List UInt8), n ≤ b → n ≤ 255 → Lib.parseUintM 255 0 (Lib.decDigits n ++ r) = Lib.parseUintM 255 n r := by
  intro b
  induction b with
  | zero =>
    intro n r h h2
    obtain rfl : n = 0 := by omega
    rw [dd_small 0 (by decide)]
    rfl
  | succ b ih =>
    intro n r h h2
    have hc : ∀ m, m < 10 → (UInt8.ofNat (48 + m)).toNat = 48 + m := fun m hm => by
      show (48 + m) % 256 = _
      omega
    by_cases h10 : n < 10
    · rw [dd_small n h10, List.cons_append, List.nil_append, Lib.parseUintM, hc n h10, if_pos (by omega), if_neg (by omega), if_neg (by omega)]
      congr 1
      omega
    · rw [dd_big n h10, List.append_assoc, ih (n / 10) _ (by omega) (by omega), List.cons_append, List.nil_append, Lib.parseUintM, hc (n % 10) (by omega), if_pos (by omega), if_neg (by omega), if_neg (by omega)]
      congr 1
      omega
theorem parse_itoa (x : Int) (h : 0 ≤ x ∧ x ≤ 255) : Lib.parseUintB 8 (toS (Lib.itoa x)).data.toList = .ok x.toNat := by
  obtain ⟨n, rfl⟩ : ∃ n : Nat, x = n := ⟨x.toNat, by omega⟩
  have e : (toS (Lib.itoa (n : Int))).data.toList = Lib.decDigits n := by
    unfold Lib.itoa
    rw [if_neg (by omega)]
    simp [toS]
  have hne : Lib.decDigits n ≠ [] := by
    have := NI_pos (n : Int) (by omega)
    unfold Lib.itoa at this
    rw [if_neg (by omega)] at this
    intro h0
    simp at this
    rw [h0] at this
    simp at this
  unfold Lib.parseUintB
  rw [e, if_neg hne]
  have := parse_dd n n [] (Nat.le_refl _) (by omega)
  rw [List.append_nil] at this
  exact this
def partsF : Int → List ByteArray → Option Int
  | a, [] => some a
  | a, p :: ps => match Lib.parseUintB 8 p.data.toList with
    | .ok u => partsF (a * 256 % 4294967296 + (u : Int)) ps
    | _ => none
def readL (s : ByteArray) : Int × Bool :=
  match partsF 0 (Lib.splitB (toS [46]) 0 (min 5 (s.size + 1) - 1) s) with
  | none => (0, false)
  | some a => if toS (showL a) = s then (a, true) else (0, false)
theorem parts_cons (a x : Int) (h : 0 ≤ x ∧ x ≤ 255) (ps : List ByteArray) : partsF a (toS (Lib.itoa x) :: ps) = partsF (a * 256 % 4294967296 + x) ps := by
  rw [partsF, parse_itoa x h]
  show partsF (a * 256 % 4294967296 + ((x.toNat : Nat) : Int)) ps = _
  rw [Int.toNat_of_nonneg h.1]
theorem parts_show (a : Int) (h : 0 ≤ a ∧ a < 4294967296) : partsF 0 ((octs a).map fun x => toS (Lib.itoa x)) = some a := by
  unfold octs
  simp only [List.map_cons, List.map_nil]
  rw [parts_cons _ _ (by omega), parts_cons _ _ (by omega), parts_cons _ _ (by omega), parts_cons _ _ (by omega), partsF]
  congr 1
  omega
theorem read_show (a : Int) (h : 0 ≤ a ∧ a < 4294967296) : readL (toS (showL a)) = (a, true) := by
  unfold readL
  have hl := show_lens a h.1
  rw [show min 5 ((toS (showL a)).size + 1) - 1 = 4 by rw [toS_size]; omega, split_show a h.1, parts_show a h]
  simp
theorem read_cases (s : ByteArray) : (∃ a, readL s = (a, true) ∧ toS (showL a) = s) ∨ (readL s = (0, false)) := by
  unfold readL
  split
  · exact Or.inr rfl
  · split
    · exact Or.inl ⟨_, rfl, by assumption⟩
    · exact Or.inr rfl
theorem parts_range : ∀ (ps : List ByteArray) (a b : Int), (0 ≤ a ∧ a < 4294967296) → partsF a ps = some b → 0 ≤ b ∧ b < 4294967296
  | [], a, b, h, e => by
    rw [partsF] at e
    cases e
    exact h
  | p :: ps, a, b, h, e => by
    rw [partsF] at e
    cases hp : Lib.parseUintB 8 p.data.toList with
    | ok u =>
      rw [hp] at e
      have := Lib.parseUintB_le hp
      exact parts_range ps _ b (by omega) e
    | «syntax» => rw [hp] at e; cases e
    | range => rw [hp] at e; cases e
theorem read_range (s : ByteArray) : 0 ≤ (readL s).1 ∧ (readL s).1 < 4294967296 := by
  unfold readL
  split
  · exact ⟨by decide, by decide⟩
  · rename_i a e
    split
    · exact parts_range _ _ _ ⟨by decide, by decide⟩ e
    · exact ⟨by decide, by decide⟩
end Go.Proofs.YthnhpbplglmmmaaDoor.Pure
