/- Plain lemmas on ip.Parse: what is read of bytes. No program in sight. -/
import Derived.Test.YtljnnhloinbjhaaPureLib5
import Derived.Test.YtljnnhloinbjhaaPip
namespace Go.Proofs.Ytljnnhloinbjhaa.Pure
open Go.RowKit Go.Proofs.Ytljnnhloinbjhaa.P Go.Proofs.YtljnnhloinbjhaaW.PrintWords Go.Proofs.YtljnnhloinbjhaaW.PrintLast Go.Proofs.YtljnnhloinbjhaaW.PrintMore
set_option linter.unusedVariables false
set_option linter.unusedSimpArgs false
def izero (e : Int) : Int × Int × Bool × Bool × Int × Int × Int × Int × Int × List Int × List Int × Int := (0, 0, false, false, 0, 0, 0, 0, 0, [], [], e)
def ihead (l : List Int) : Int := rd l 0 % 16 * 4
def ipOf (l : List Int) : Int × Int × Bool × Bool × Int × Int × Int × Int × Int × List Int × List Int × Int :=
  if (l.length : Int) > 2048 then izero 3
  else if (l.length : Int) < 20 then izero 2
  else if rd l 0 / 16 ≠ 4 ∨ ihead l < 20 then izero 4
  else if (l.length : Int) < ihead l then izero 2
  else if two l 2 < ihead l ∨ Go.bits .and .i64 (two l 6) 32768 ≠ 0 then izero 4
  else if two l 2 > (l.length : Int) then izero 2
  else if sumOf (l.take (ihead l).toNat) ≠ 65535 then izero 5
  else (rd l 1, two l 4, (Go.bits .and .i64 (two l 6) 16384 != 0), (Go.bits .and .i64 (two l 6) 8192 != 0), Go.bits .and .i64 (two l 6) 8191, rd l 8, rd l 9, four l 12, four l 16, (l.take (ihead l).toNat).drop 20, (l.take (two l 2).toNat).drop (ihead l).toNat, 0)
theorem iget2 (l : List Int) (a : Nat) (hb : Bytes l) (h : a + 2 ≤ l.length) : ip_get.f l a 2 = some (two l a) := by
  unfold ip_get.f
  have := two_bound l a hb h
  rw [get2_to l a hb h, Option.bind_some, w64 (by omega) (by omega)]
theorem iget4 (l : List Int) (a : Nat) (hb : Bytes l) (h : a + 4 ≤ l.length) : ip_get.f l a 4 = some (four l a) := by
  unfold ip_get.f
  have := four_bound l a hb h
  rw [get4_to l a hb h, Option.bind_some, w64 (by omega) (by omega)]
theorem u32w2 (x : Int) (h : 0 ≤ x ∧ x < 4294967296) : IntKind.u32.wrap x = x := by rw [IntKind.wrap_u32]; omega
theorem Bytes.take2 {l : List Int} (h : Bytes l) (n : Nat) : Bytes (l.take n) := fun c hc => h c (List.mem_of_mem_take hc)
theorem ipParse_to (l : List Int) (hb : Bytes l) : ip_Parse.f l = some (ipOf l) := by
  unfold ip_Parse.f ipOf ip_Parse.zero
  by_cases h1 : (l.length : Int) > 2048
  · rw [if_pos h1, if_pos h1]; rfl
  by_cases h2 : (l.length : Int) < 20
  · rw [if_neg h1, if_neg h1, if_pos h2, if_pos h2]; rfl
  have b0 := hb.get 0 (by omega)
  have b1 := hb.get 1 (by omega)
  have b8 := hb.get 8 (by omega)
  have b9 := hb.get 9 (by omega)
  rw [show ((0 : Nat) : Int) = 0 from rfl] at b0
  rw [show ((1 : Nat) : Int) = 1 from rfl] at b1
  rw [show ((8 : Nat) : Int) = 8 from rfl] at b8
  rw [show ((9 : Nat) : Int) = 9 from rfl] at b9
  have eh : ihead l = rd l 0 % 16 * 4 := rfl
  rw [if_neg h1, if_neg h1, if_neg h2, if_neg h2, if_neg (Classical.not_not.2 ⟨⟨b0.1, by omega⟩, ⟨b1.1, by omega⟩, ⟨b8.1, by omega⟩, ⟨b9.1, by omega⟩⟩), ← eh]
  by_cases h3 : rd l 0 / 16 ≠ 4
  · rw [if_pos h3, if_pos (.inl h3)]; rfl
  by_cases h4 : ihead l < 20
  · rw [if_neg h3, if_pos h4, if_pos (.inr h4)]; rfl
  rw [if_neg h3, if_neg h4, if_neg (show ¬ (rd l 0 / 16 ≠ 4 ∨ ihead l < 20) by omega)]
  by_cases h5 : (l.length : Int) < ihead l
  · rw [if_pos h5, if_pos h5]; rfl
  have g2 := iget2 l 2 hb (by omega)
  have g6 := iget2 l 6 hb (by omega)
  have g4 := iget2 l 4 hb (by omega)
  have g12 := iget4 l 12 hb (by omega)
  have g16 := iget4 l 16 hb (by omega)
  rw [show ((2 : Nat) : Int) = 2 from rfl] at g2
  rw [show ((6 : Nat) : Int) = 6 from rfl] at g6
  rw [show ((4 : Nat) : Int) = 4 from rfl] at g4
  rw [show ((12 : Nat) : Int) = 12 from rfl] at g12
  rw [show ((16 : Nat) : Int) = 16 from rfl] at g16
  rw [if_neg h5, if_neg h5, g2, Option.bind_some, g6, Option.bind_some]
  by_cases h6 : two l 2 < ihead l
  · rw [if_pos h6, if_pos (.inl h6)]; rfl
  by_cases h7 : Go.bits .and .i64 (two l 6) 32768 ≠ 0
  · rw [if_neg h6, if_pos h7, if_pos (.inr h7)]; rfl
  rw [if_neg h6, if_neg h7, if_neg (show ¬ (two l 2 < ihead l ∨ Go.bits .and .i64 (two l 6) 32768 ≠ 0) from fun h => h.elim h6 h7)]
  by_cases h8 : two l 2 > (l.length : Int)
  · rw [if_pos h8, if_pos h8]; rfl
  rw [if_neg h8, if_neg h8, sum_one _ (hb.take2 _) (by rw [List.length_take]; omega), Option.bind_some]
  by_cases h9 : sumOf (l.take (ihead l).toNat) ≠ 65535
  · rw [if_pos h9, if_pos h9]; rfl
  rw [if_neg h9, if_neg h9, g4, Option.bind_some, g12, Option.bind_some, g16, Option.bind_some, u32w2 _ (four_bound l 12 hb (by omega)), u32w2 _ (four_bound l 16 hb (by omega))]
end Go.Proofs.Ytljnnhloinbjhaa.Pure
