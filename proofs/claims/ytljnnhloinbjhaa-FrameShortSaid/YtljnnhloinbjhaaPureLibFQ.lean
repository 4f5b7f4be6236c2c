/- What a fault quotes: the plain answer of frame.Quote. No statement of its own. -/
import Derived.Test.YtljnnhloinbjhaaPureLib5
import Derived.Test.YtljnnhloinbjhaaPframeQuote
namespace Go.Proofs.Ytljnnhloinbjhaa.Pure
open Go.RowKit Go.Proofs.Ytljnnhloinbjhaa.P Go.Proofs.YtljnnhloinbjhaaW.PrintWords Go.Proofs.YtljnnhloinbjhaaW.PrintLast Go.Proofs.YtljnnhloinbjhaaW.PrintMore
set_option linter.unusedVariables false
set_option linter.unusedSimpArgs false
theorem q_and8191 (p : Int) (h0 : 0 ≤ p) (h1 : p < 65536) : Go.bits .and .i64 p 8191 = p % 8192 := by
  have := and_mask .i64 13 (by decide) p
  rw [show ((2 : Int) ^ 13 - 1) = 8191 by decide, show ((2 : Int) ^ 13) = 8192 by decide] at this
  rw [this, IntKind.wrap_i64]
  omega
theorem q_gt2 (l : List Int) (a : Nat) (hb : Bytes l) (h : a + 2 ≤ l.length) : frame_Quote.gt l a 2 = two l a := by
  have := two_bound l a hb h
  unfold frame_Quote.gt
  rw [get2_to l a hb h]
  exact w64 (by show _ ≤ two l a; omega) (by show two l a ≤ _; omega)
theorem q_gt4 (l : List Int) (a : Nat) (hb : Bytes l) (h : a + 4 ≤ l.length) : IntKind.u32.wrap (frame_Quote.gt l a 4) = four l a := by
  have := four_bound l a hb h
  unfold frame_Quote.gt
  rw [get4_to l a hb h]
  rw [show wrap64 ((some (four l a, true)).getD (0, false)).1 = four l a from w64 (by show _ ≤ four l a; omega) (by show four l a ≤ _; omega), IntKind.wrap_u32]
  omega
def fhead (l : List Int) : Nat := (rd l 0 % 16 * 4).toNat
theorem fhead_to (l : List Int) : rd l 0 % 16 * 4 = (fhead l : Int) ∧ fhead l ≤ 60 := by
  unfold fhead
  omega
def fno : Int × Int × Int × Int × Int × Bool := (0, 0, 0, 0, 0, false)
def fquote (l : List Int) : Int × Int × Int × Int × Int × Bool :=
  if (l.length : Int) < 20 then fno else if rd l 0 / 16 ≠ 4 then fno else if rd l 0 % 16 < 5 then fno else if l.length < fhead l + 8 then fno else if two l 6 % 8192 ≠ 0 then fno
  else if rd l 9 = 17 ∨ rd l 9 = 6 then (rd l 9, four l 12, two l (fhead l), four l 16, two l (fhead l + 2), true)
  else if rd l 9 = 1 then (if (rd l (fhead l : Nat) ≠ 8 ∧ rd l (fhead l : Nat) ≠ 0) ∨ rd l (fhead l + 1 : Nat) ≠ 0 then fno else (rd l 9, four l 12, two l (fhead l + 4), four l 16, two l (fhead l + 4), true))
  else fno
theorem fquote_frame (l : List Int) (hb : Bytes l) : frame_Quote.f l = some (fquote l) := by
  obtain ⟨hh, h60⟩ := fhead_to l
  unfold frame_Quote.f fquote
  rw [hh]
  by_cases c1 : (l.length : Int) < 20
  · rw [if_pos c1, if_pos c1]; rfl
  have b0 := hb.get 0 (by omega)
  have b9 := hb.get 9 (by omega)
  rw [show ((0 : Nat) : Int) = 0 from rfl] at b0
  rw [show ((9 : Nat) : Int) = 9 from rfl] at b9
  rw [if_neg c1, if_neg c1, if_neg (by omega)]
  by_cases c3 : rd l 0 / 16 ≠ 4
  · rw [if_pos c3, if_pos c3]; rfl
  rw [if_neg c3, if_neg c3]
  by_cases c4 : rd l 0 % 16 < 5
  · rw [if_pos c4, if_pos c4]; rfl
  rw [if_neg c4, if_neg c4]
  by_cases c5 : l.length < fhead l + 8
  · rw [if_pos c5, if_pos (by omega)]; rfl
  rw [if_neg c5, if_neg (by omega)]
  have t6 := two_bound l 6 hb (by omega)
  rw [show frame_Quote.gt l 6 2 = two l 6 from q_gt2 l 6 hb (by omega), q_and8191 _ t6.1 t6.2]
  by_cases c6 : two l 6 % 8192 ≠ 0
  · rw [if_pos c6, if_pos c6]; rfl
  rw [if_neg c6, if_neg c6]
  rw [show IntKind.u32.wrap (frame_Quote.gt l 12 4) = four l 12 from q_gt4 l 12 hb (by omega), show IntKind.u32.wrap (frame_Quote.gt l 16 4) = four l 16 from q_gt4 l 16 hb (by omega)]
  rw [show frame_Quote.gt l (fhead l) 2 = two l (fhead l) from q_gt2 l _ hb (by omega), show frame_Quote.gt l ((fhead l : Int) + 2) 2 = two l (fhead l + 2) from q_gt2 l (fhead l + 2) hb (by omega), show frame_Quote.gt l ((fhead l : Int) + 4) 2 = two l (fhead l + 4) from q_gt2 l (fhead l + 4) hb (by omega)]
  rw [show ((fhead l : Int) + 1) = ((fhead l + 1 : Nat) : Int) from rfl]
  by_cases c7 : rd l 9 = 17 ∨ rd l 9 = 6
  · rw [if_pos c7, if_pos c7]
  rw [if_neg c7, if_neg c7]
  by_cases c8 : rd l 9 = 1
  · rw [if_pos c8, if_pos c8]
    by_cases c9 : (rd l (fhead l : Nat) ≠ 8 ∧ rd l (fhead l : Nat) ≠ 0) ∨ rd l (fhead l + 1 : Nat) ≠ 0
    · rw [if_pos c9, if_pos c9]; rfl
    · rw [if_neg c9, if_neg c9]
  · rw [if_neg c8, if_neg c8]; rfl
end Go.Proofs.Ytljnnhloinbjhaa.Pure
