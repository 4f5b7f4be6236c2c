/- What a fault quotes: the plain answer, and that both texts give it. No statement of its own. -/
import Derived.Test.YtljnnhloinbjhaaPbailiwickref2Long
import Derived.Test.YtljnnhloinbjhaaPureLib5
import Derived.Test.YtljnnhloinbjhaaPframeQuote
import Derived.Test.YtljnnhloinbjhaaPbailiwickref6Quote
namespace Go.Proofs.Ytljnnhloinbjhaa.Pure
open Go.RowKit Go.Proofs.Ytljnnhloinbjhaa.P Go.Proofs.YtljnnhloinbjhaaW.PrintWords Go.Proofs.YtljnnhloinbjhaaW.PrintLast Go.Proofs.YtljnnhloinbjhaaW.PrintMore
set_option linter.unusedVariables false
set_option linter.unusedSimpArgs false
theorem q_and8191 (p : Int) (h0 : 0 ≤ p) (h1 : p < 65536) : Go.bits .and .i64 p 8191 = p % 8192 := by
  have := and_mask .i64 13 (by decide) p
  rw [show ((2 : Int) ^ 13 - 1) = 8191 by decide, show ((2 : Int) ^ 13) = 8192 by decide] at this
  rw [this, IntKind.wrap_i64]
  omega
theorem q_and15 (x : Int) (h0 : 0 ≤ x) (h1 : x < 256) : Go.bits .and .u8 x 15 = x % 16 := by
  have := and_mask .u8 4 (by decide) x
  rw [show ((2 : Int) ^ 4 - 1) = 15 by decide, show ((2 : Int) ^ 4) = 16 by decide] at this
  rw [this, IntKind.wrap_u8]
  omega
theorem q_and31 (x : Int) (h0 : 0 ≤ x) (h1 : x < 256) : Go.bits .and .u8 x 31 = x % 32 := by
  have := and_mask .u8 5 (by decide) x
  rw [show ((2 : Int) ^ 5 - 1) = 31 by decide, show ((2 : Int) ^ 5) = 32 by decide] at this
  rw [this, IntKind.wrap_u8]
  omega
theorem q_gt2 (l : List Int) (a : Nat) (hb : Bytes l) (h : a + 2 ≤ l.length) : frame_Quote.gt l a 2 = two l a := by
  have := two_bound l a hb h
  unfold frame_Quote.gt
  rw [get2_to l a hb h]
  exact w64 (by show _ ≤ two l a; omega) (by show two l a ≤ _; omega)
theorem q_gt4 (l : List Int) (a : Nat) (hb : Bytes l) (h : a + 4 ≤ l.length) : IntKind.u32.wrap (frame_Quote.gt l a 4) = four l a := by
  have := four_bound l a hb h
  unfold frame_Quote.gt
  rw [get4_to l a hb h]
  rw [show wrap64 ((some (four l a, true)).getD (0, false)).1 = four l a from w64 (by show _ ≤ four l a; omega) (by show four l a ≤ _; omega), IntKind.wrap_u32]
  omega
theorem q_long (l : List Int) (a : Nat) (hb : Bytes l) (hl : l.length ≤ 140737488351232) (h : a + 4 ≤ l.length) : bailiwickref2_Long.f l a = some (four l a) := by
  unfold bailiwickref2_Long.f
  have e1 : wrap64 ((a : Int) + 1) = ((a + 1 : Nat) : Int) := by rw [w64 (by omega) (by omega)]; simp
  have e2 : wrap64 ((a : Int) + 2) = ((a + 2 : Nat) : Int) := by rw [w64 (by omega) (by omega)]; simp
  have e3 : wrap64 ((a : Int) + 3) = ((a + 3 : Nat) : Int) := by rw [w64 (by omega) (by omega)]; simp
  have g0 := hb.get a (by omega)
  have g1 := hb.get (a + 1) (by omega)
  have g2 := hb.get (a + 2) (by omega)
  have g3 := hb.get (a + 3) (by omega)
  rw [e1, e2, e3, if_pos (by omega), if_pos (by omega), if_pos (by omega), if_pos (by omega), if_pos (by omega), if_pos (by omega), if_pos (by omega), if_pos (by omega)]
  unfold four
  generalize rd l ((a : Nat) : Int) = c0 at *
  generalize rd l ((a + 1 : Nat) : Int) = c1 at *
  generalize rd l ((a + 2 : Nat) : Int) = c2 at *
  generalize rd l ((a + 3 : Nat) : Int) = c3 at *
  rw [Int.emod_eq_of_lt (a := c0) (by omega) (by omega), Int.emod_eq_of_lt (a := c1) (by omega) (by omega), Int.emod_eq_of_lt (a := c2) (by omega) (by omega), Int.emod_eq_of_lt (a := c3) (by omega) (by omega),
    Int.emod_eq_of_lt (a := c0 * 16777216) (by omega) (by omega), Int.emod_eq_of_lt (a := c1 * 65536) (by omega) (by omega), Int.emod_eq_of_lt (a := c2 * 256) (by omega) (by omega)]
  rw [or32 24 (c0 * 16777216) (c1 * 65536) (by omega) (by omega) (by omega) (by decide) (by omega) (by omega) (by omega)]
  rw [or32 16 (c0 * 16777216 + c1 * 65536) (c2 * 256) (by omega) (by omega) (by omega) (by decide) (by omega) (by omega) (by omega)]
  rw [or32 8 (c0 * 16777216 + c1 * 65536 + c2 * 256) c3 (by omega) (by omega) (by omega) (by decide) (by omega) (by omega) (by omega)]
def fhead (l : List Int) : Nat := (rd l 0 % 16 * 4).toNat
theorem fhead_to (l : List Int) : rd l 0 % 16 * 4 = (fhead l : Int) ∧ fhead l ≤ 60 := by
  unfold fhead
  omega
def fno : Int × Int × Int × Int × Int × Bool := (0, 0, 0, 0, 0, false)
def fquote (l : List Int) : Int × Int × Int × Int × Int × Bool :=
  if (l.length : Int) < 20 then fno else if rd l 0 / 16 ≠ 4 then fno else if rd l 0 % 16 < 5 then fno else if l.length < fhead l + 8 then fno else if two l 6 % 8192 ≠ 0 then fno
  else if rd l 9 = 17 ∨ rd l 9 = 6 then (rd l 9, four l 12, two l (fhead l), four l 16, two l (fhead l + 2), true)
  else if rd l 9 = 1 then (if (rd l (fhead l : Nat) ≠ 8 ∧ rd l (fhead l : Nat) ≠ 0) ∨ rd l (fhead l + 1 : Nat) ≠ 0 then fno else (rd l 9, four l 12, two l (fhead l + 4), four l 16, two l (fhead l + 4), true))
  else fno
theorem fquote_frame (l : List Int) (hb : Bytes l) : frame_Quote.f l = some (fquote l) := by
  obtain ⟨hh, h60⟩ := fhead_to l
  unfold frame_Quote.f fquote
  rw [hh]
  by_cases c1 : (l.length : Int) < 20
  · rw [if_pos c1, if_pos c1]; rfl
  have b0 := hb.get 0 (by omega)
  have b9 := hb.get 9 (by omega)
  rw [show ((0 : Nat) : Int) = 0 from rfl] at b0
  rw [show ((9 : Nat) : Int) = 9 from rfl] at b9
  rw [if_neg c1, if_neg c1, if_neg (by omega)]
  by_cases c3 : rd l 0 / 16 ≠ 4
  · rw [if_pos c3, if_pos c3]; rfl
  rw [if_neg c3, if_neg c3]
  by_cases c4 : rd l 0 % 16 < 5
  · rw [if_pos c4, if_pos c4]; rfl
  rw [if_neg c4, if_neg c4]
  by_cases c5 : l.length < fhead l + 8
  · rw [if_pos c5, if_pos (by omega)]; rfl
  rw [if_neg c5, if_neg (by omega)]
  have t6 := two_bound l 6 hb (by omega)
  rw [show frame_Quote.gt l 6 2 = two l 6 from q_gt2 l 6 hb (by omega), q_and8191 _ t6.1 t6.2]
  by_cases c6 : two l 6 % 8192 ≠ 0
  · rw [if_pos c6, if_pos c6]; rfl
  rw [if_neg c6, if_neg c6]
  rw [show IntKind.u32.wrap (frame_Quote.gt l 12 4) = four l 12 from q_gt4 l 12 hb (by omega), show IntKind.u32.wrap (frame_Quote.gt l 16 4) = four l 16 from q_gt4 l 16 hb (by omega)]
  rw [show frame_Quote.gt l (fhead l) 2 = two l (fhead l) from q_gt2 l _ hb (by omega), show frame_Quote.gt l ((fhead l : Int) + 2) 2 = two l (fhead l + 2) from q_gt2 l (fhead l + 2) hb (by omega), show frame_Quote.gt l ((fhead l : Int) + 4) 2 = two l (fhead l + 4) from q_gt2 l (fhead l + 4) hb (by omega)]
  rw [show ((fhead l : Int) + 1) = ((fhead l + 1 : Nat) : Int) from rfl]
  by_cases c7 : rd l 9 = 17 ∨ rd l 9 = 6
  · rw [if_pos c7, if_pos c7]
  rw [if_neg c7, if_neg c7]
  by_cases c8 : rd l 9 = 1
  · rw [if_pos c8, if_pos c8]
    by_cases c9 : (rd l (fhead l : Nat) ≠ 8 ∧ rd l (fhead l : Nat) ≠ 0) ∨ rd l (fhead l + 1 : Nat) ≠ 0
    · rw [if_pos c9, if_pos c9]; rfl
    · rw [if_neg c9, if_neg c9]
  · rw [if_neg c8, if_neg c8]; rfl
theorem fquote_ref (l : List Int) (hb : Bytes l) (hl : l.length ≤ 140737488351232) (k : Nat) (hk : 3 ≤ k) : bailiwickref6_Quote.f k l = some (fquote l) := by
  obtain ⟨k, rfl⟩ : ∃ n, k = n + 3 := ⟨k - 3, by omega⟩
  obtain ⟨hh, h60⟩ := fhead_to l
  unfold bailiwickref6_Quote.f fquote
  by_cases c1 : (l.length : Int) < 20
  · rw [if_pos c1, if_pos c1, bailiwickref6_Quote.j0, if_pos rfl]; rfl
  have b0 := hb.get 0 (by omega)
  have b6 := hb.get 6 (by omega)
  have b7 := hb.get 7 (by omega)
  have b9 := hb.get 9 (by omega)
  rw [show ((0 : Nat) : Int) = 0 from rfl] at b0
  rw [show ((6 : Nat) : Int) = 6 from rfl] at b6
  rw [show ((7 : Nat) : Int) = 7 from rfl] at b7
  rw [show ((9 : Nat) : Int) = 9 from rfl] at b9
  have e0 := q_and15 _ b0.1 b0.2
  have ew : wrap64 (wrap64 (rd l 0 % 16) * 4) = (fhead l : Int) := by rw [w64 (x := rd l 0 % 16) (by omega) (by omega), w64 (by omega) (by omega)]; exact hh
  have e2 : two l 6 = rd l 6 * 256 + rd l 7 := rfl
  rw [if_neg c1, if_neg c1, if_pos (by omega)]
  by_cases c3 : rd l 0 / 16 = 4
  case neg => rw [if_neg c3, if_pos c3, bailiwickref6_Quote.j0, if_pos rfl]; rfl
  rw [if_pos c3, if_neg (by omega), e0, bailiwickref6_Quote.j0]
  by_cases c4 : rd l 0 % 16 < 5
  · rw [if_pos (decide_eq_true c4), if_pos c4]; rfl
  rw [if_neg (by rw [decide_eq_true_eq]; exact c4), if_neg c4, if_pos (by omega), e0, ew, show wrap64 ((fhead l : Int) + 8) = (fhead l : Int) + 8 from w64 (by omega) (by omega)]
  by_cases c5 : l.length < fhead l + 8
  · rw [if_pos (by omega), if_pos c5, bailiwickref6_Quote.j1, if_pos rfl]; rfl
  rw [if_neg (by omega), if_neg c5, if_pos (by omega), q_and31 _ b6.1 b6.2]
  by_cases c6 : rd l 6 % 32 = 0
  case neg => rw [if_neg c6, if_pos (by omega), bailiwickref6_Quote.j1, if_pos rfl]; rfl
  rw [if_pos c6, if_pos (by omega), bailiwickref6_Quote.j1]
  by_cases c7 : rd l 7 = 0
  case neg => rw [if_pos (bne_iff_ne.2 c7), if_pos (by omega)]; rfl
  rw [if_neg (by rw [bne_iff_ne]; exact fun h => h c7), if_neg (show ¬ (two l 6 % 8192 ≠ 0) by omega), if_pos (show (9 : Int) < (l.length : Int) by omega), show bailiwickref2_Long.f l 12 = some (four l 12) from q_long l 12 hb hl (by omega), Option.bind_some, show bailiwickref2_Long.f l 16 = some (four l 16) from q_long l 16 hb hl (by omega), Option.bind_some,
    show wrap64 (rd l 9) = rd l 9 from w64 (by omega) (by omega)]
  have w1 : wrap64 ((fhead l : Int) + 1) = ((fhead l + 1 : Nat) : Int) := by rw [w64 (by omega) (by omega)]; simp
  have w2 : wrap64 ((fhead l : Int) + 2) = ((fhead l + 2 : Nat) : Int) := by rw [w64 (by omega) (by omega)]; simp
  have w3 : wrap64 ((fhead l : Int) + 3) = ((fhead l + 3 : Nat) : Int) := by rw [w64 (by omega) (by omega)]; simp
  have w4 : wrap64 ((fhead l : Int) + 4) = ((fhead l + 4 : Nat) : Int) := by rw [w64 (by omega) (by omega)]; simp
  have w5 : wrap64 ((fhead l : Int) + 5) = ((fhead l + 5 : Nat) : Int) := by rw [w64 (by omega) (by omega)]; simp
  have g0 := hb.get (fhead l) (by omega)
  have g1 := hb.get (fhead l + 1) (by omega)
  have g2 := hb.get (fhead l + 2) (by omega)
  have g3 := hb.get (fhead l + 3) (by omega)
  have g4 := hb.get (fhead l + 4) (by omega)
  have g5 := hb.get (fhead l + 5) (by omega)
  have yes : ∀ b : Bool, b = true → bailiwickref6_Quote.j2 (k + 1) l (fhead l) (rd l 9) b (rd l 9) (four l 12) 0 (four l 16) 0 = some (rd l 9, four l 12, two l (fhead l), four l 16, two l (fhead l + 2), true) := by
    intro b hbt
    rw [bailiwickref6_Quote.j2, if_pos hbt, w1, w2, w3, if_pos (by omega), if_pos (by omega), if_pos (by omega), if_pos (by omega), if_pos (by omega), if_pos (by omega), if_pos (by omega), if_pos (by omega), or64 _ _ g0.1 g0.2 g1.1 g1.2, or64 _ _ g2.1 g2.2 g3.1 g3.2]
    rfl
  by_cases d1 : rd l 9 = 17
  · rw [if_pos d1, if_pos (.inl d1), yes _ (beq_iff_eq.2 d1)]
  rw [if_neg d1]
  by_cases d2 : rd l 9 = 6
  · rw [if_pos (.inr d2), yes _ (beq_iff_eq.2 d2)]
  rw [if_neg (fun q => q.elim d1 d2), bailiwickref6_Quote.j2, if_neg (by rw [beq_iff_eq]; exact d2)]
  by_cases d3 : rd l 9 = 1
  case neg => rw [if_neg d3, if_neg d3]; rfl
  rw [if_pos d3, if_pos d3, w1, w4, w5, if_pos (by omega), if_pos (by omega), or64 _ _ g4.1 g4.2 g5.1 g5.2]
  have last : (if 0 ≤ ((fhead l + 1 : Nat) : Int) then (if ((fhead l + 1 : Nat) : Int) < (l.length : Int) then (if rd l ((fhead l + 1 : Nat) : Int) = 0 then (if 0 ≤ ((fhead l + 4 : Nat) : Int) then (if ((fhead l + 4 : Nat) : Int) < (l.length : Int) then (if 0 ≤ ((fhead l + 5 : Nat) : Int) then (if ((fhead l + 5 : Nat) : Int) < (l.length : Int) then (some (rd l 9, four l 12, two l (fhead l + 4), four l 16, two l (fhead l + 4), true)) else none) else none) else none) else none) else (some (0, 0, 0, 0, 0, false))) else none) else none)
      = some (if rd l (fhead l + 1 : Nat) ≠ 0 then fno else (rd l 9, four l 12, two l (fhead l + 4), four l 16, two l (fhead l + 4), true)) := by
    rw [if_pos (by omega), if_pos (by omega)]
    by_cases e1 : rd l (fhead l + 1 : Nat) = 0
    · rw [if_pos e1, if_pos (by omega), if_pos (by omega), if_pos (by omega), if_pos (by omega), if_neg (fun q => q e1)]
    · rw [if_neg e1, if_pos e1]; rfl
  by_cases d4 : rd l (fhead l : Nat) = 8
  · rw [if_pos d4]
    refine last.trans ?_
    by_cases e1 : rd l (fhead l + 1 : Nat) = 0
    · rw [if_neg (fun q => q e1), if_neg (by omega)]
    · rw [if_pos e1, if_pos (.inr e1)]
  rw [if_neg d4]
  by_cases d5 : rd l (fhead l : Nat) = 0
  · rw [if_pos d5]
    refine last.trans ?_
    by_cases e1 : rd l (fhead l + 1 : Nat) = 0
    · rw [if_neg (fun q => q e1), if_neg (by omega)]
    · rw [if_pos e1, if_pos (.inr e1)]
  rw [if_neg d5, if_pos (.inl ⟨d4, d5⟩)]; rfl
end Go.Proofs.Ytljnnhloinbjhaa.Pure
