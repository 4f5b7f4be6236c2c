/- What the document's own reader of an address comes to: plain. No statement of its own. -/
import Derived.Test.YthnhpbplglmmmaaDoorPureLibSp
namespace Go.Proofs.YthnhpbplglmmmaaDoor.Pure
open Go.RowKit Go.Proofs.YthnhpbplglmmmaaDoor.P Go.Proofs.YthnhpbplglmmmaaDoorW.PrintWords Go.Proofs.YthnhpbplglmmmaaDoorW.PrintLast
set_option linter.unusedVariables false
set_option linter.unusedSimpArgs false
def rda : List UInt8 → Int → Int → Int → Option (Int × Int × Int)
  | [], a, p, n => some (a, p, n)
  | c :: r, a, p, n =>
    if c.toNat = 46 then rda r (a * 256 % 4294967296 + p) 0 (n + 1)
    else if c.toNat < 48 ∨ 57 < c.toNat then none
    else if 255 < p * 10 + ((c.toNat : Int) - 48) then none
    else rda r a (p * 10 + ((c.toNat : Int) - 48)) n
theorem rda_dot (r : List UInt8) (a p n : Int) : rda (46 :: r) a p n = rda r (a * 256 % 4294967296 + p) 0 (n + 1) := by
  rw [rda, if_pos (by decide)]
theorem rda_dig (m : Nat) (h : m < 10) (r : List UInt8) (a p n : Int) (hp : p * 10 + (m : Int) ≤ 255) : rda (UInt8.ofNat (48 + m) :: r) a p n = rda r a (p * 10 + (m : Int)) n := by
  have e : (UInt8.ofNat (48 + m)).toNat = 48 + m := by
    show (48 + m) % 256 = _
    omega
  rw [rda, e, if_neg (by omega), if_neg (by omega), if_neg (by omega)]
  congr 1
  omega
theorem rda_dd : ∀ (b m : Nat) (r : List UInt8) (a n : Int), m ≤ b → m ≤ 255 → rda (Lib.decDigits m ++ r) a 0 n = rda r a (m : Int) n := by
  intro b
  induction b with
  | zero =>
    intro m r a n h h2
    obtain rfl : m = 0 := by omega
    rw [dd_small 0 (by decide), List.cons_append, List.nil_append, rda_dig 0 (by decide) _ _ _ _ (by decide)]
    rfl
  | succ b ih =>
    intro m r a n h h2
    by_cases h10 : m < 10
    · rw [dd_small m h10, List.cons_append, List.nil_append, rda_dig m h10 _ _ _ _ (by omega)]
      congr 1
      omega
    · rw [dd_big m h10, List.append_assoc, ih (m / 10) _ _ _ (by omega) (by omega), List.cons_append, List.nil_append, rda_dig (m % 10) (by omega) _ _ _ _ (by omega)]
      congr 1
      omega
theorem rda_itoa (x : Int) (h : 0 ≤ x ∧ x ≤ 255) (r : List UInt8) (a n : Int) : rda (Lib.itoa x ++ r) a 0 n = rda r a x n := by
  obtain ⟨m, rfl⟩ : ∃ m : Nat, x = m := ⟨x.toNat, by omega⟩
  unfold Lib.itoa
  rw [if_neg (by omega)]
  exact rda_dd m m r a n (Nat.le_refl _) (by omega)
theorem rda_show (a : Int) (h : 0 ≤ a ∧ a < 4294967296) : rda (showL a) 0 0 0 = some (a / 256, a % 256, 3) := by
  rw [showL_app, rda_itoa _ (by omega), List.append_assoc, List.cons_append, List.nil_append, rda_dot, rda_itoa _ (by omega), List.append_assoc, List.cons_append, List.nil_append, rda_dot, rda_itoa _ (by omega), List.cons_append, List.nil_append, rda_dot]
  have e := rda_itoa (a % 256) (by omega) [] (((0 * 256 % 4294967296 + a / 16777216 % 256) * 256 % 4294967296 + a / 65536 % 256) * 256 % 4294967296 + a / 256 % 256) (0 + 1 + 1 + 1)
  rw [List.append_nil] at e
  rw [e, rda]
  congr 2
  omega
theorem rda_range : ∀ (l : List UInt8) (a p n : Int) {a' p' n' : Int}, (0 ≤ a ∧ a < 4294967296) → (0 ≤ p ∧ p ≤ 255) → rda l a p n = some (a', p', n') → (0 ≤ a' ∧ a' < 4294967296) ∧ (0 ≤ p' ∧ p' ≤ 255)
  | [], a, p, n, a', p', n', ha, hp, e => by
    rw [rda] at e
    cases e
    exact ⟨ha, hp⟩
  | c :: r, a, p, n, a', p', n', ha, hp, e => by
    have hc := c.toNat_lt
    rw [rda] at e
    split at e
    · exact rda_range r _ _ _ (by omega) (by omega) e
    · split at e
      · cases e
      · split at e
        · cases e
        · exact rda_range r _ _ _ ha (by omega) e
end Go.Proofs.YthnhpbplglmmmaaDoor.Pure
