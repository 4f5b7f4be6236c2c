/- Plain lemmas on the reference for chapters 3 to 5: word and long. No program in sight. -/
import Derived.Test.YthnhpbplglmmmaaPureLib5
import Derived.Test.YthnhpbplglmmmaaPbailiwickref3
namespace Go.Proofs.Ythnhpbplglmmmaa.Pure
open Go.RowKit Go.Proofs.Ythnhpbplglmmmaa.P Go.Proofs.YthnhpbplglmmmaaW.PrintWords Go.Proofs.YthnhpbplglmmmaaW.PrintLast Go.Proofs.YthnhpbplglmmmaaW.PrintMore
set_option linter.unusedVariables false
set_option linter.unusedSimpArgs false
theorem word_to (l : List Int) (a : Nat) (hb : Bytes l) (hl : l.length ≤ 140737488351232) (h : a + 2 ≤ l.length) : bailiwickref3_word.f l a = some (two l a) := by
  unfold bailiwickref3_word.f
  have e : wrap64 ((a : Int) + 1) = ((a + 1 : Nat) : Int) := by rw [w64 (by omega) (by omega)]; simp
  have g0 := hb.get a (by omega)
  have g1 := hb.get (a + 1) (by omega)
  rw [e, if_pos (by omega), if_pos (by omega), if_pos (by omega), if_pos (by omega), or64 _ _ g0.1 g0.2 g1.1 g1.2]
  rfl
theorem long_to (l : List Int) (a : Nat) (hb : Bytes l) (hl : l.length ≤ 140737488351232) (h : a + 4 ≤ l.length) : bailiwickref3_long.f l a = some (four l a) := by
  unfold bailiwickref3_long.f
  have e1 : wrap64 ((a : Int) + 1) = ((a + 1 : Nat) : Int) := by rw [w64 (by omega) (by omega)]; simp
  have e2 : wrap64 ((a : Int) + 2) = ((a + 2 : Nat) : Int) := by rw [w64 (by omega) (by omega)]; simp
  have e3 : wrap64 ((a : Int) + 3) = ((a + 3 : Nat) : Int) := by rw [w64 (by omega) (by omega)]; simp
  have g0 := hb.get a (by omega)
  have g1 := hb.get (a + 1) (by omega)
  have g2 := hb.get (a + 2) (by omega)
  have g3 := hb.get (a + 3) (by omega)
  rw [e1, e2, e3, if_pos (by omega), if_pos (by omega), if_pos (by omega), if_pos (by omega), if_pos (by omega), if_pos (by omega), if_pos (by omega), if_pos (by omega)]
  unfold four
  generalize rd l ((a : Nat) : Int) = c0 at *
  generalize rd l ((a + 1 : Nat) : Int) = c1 at *
  generalize rd l ((a + 2 : Nat) : Int) = c2 at *
  generalize rd l ((a + 3 : Nat) : Int) = c3 at *
  rw [Int.emod_eq_of_lt (a := c0) (by omega) (by omega), Int.emod_eq_of_lt (a := c1) (by omega) (by omega), Int.emod_eq_of_lt (a := c2) (by omega) (by omega), Int.emod_eq_of_lt (a := c3) (by omega) (by omega),
    Int.emod_eq_of_lt (a := c0 * 16777216) (by omega) (by omega), Int.emod_eq_of_lt (a := c1 * 65536) (by omega) (by omega), Int.emod_eq_of_lt (a := c2 * 256) (by omega) (by omega)]
  rw [or32 24 (c0 * 16777216) (c1 * 65536) (by omega) (by omega) (by omega) (by decide) (by omega) (by omega) (by omega)]
  rw [or32 16 (c0 * 16777216 + c1 * 65536) (c2 * 256) (by omega) (by omega) (by omega) (by decide) (by omega) (by omega) (by omega)]
  rw [or32 8 (c0 * 16777216 + c1 * 65536 + c2 * 256) c3 (by omega) (by omega) (by omega) (by decide) (by omega) (by omega) (by omega)]
end Go.Proofs.Ythnhpbplglmmmaa.Pure
