/- Plain lemmas on icmp.Parse: what is read of bytes. No program in sight. -/
import Derived.Test.YtljnnhloinbjhaaPureLib5
import Derived.Test.YtljnnhloinbjhaaPicmp
namespace Go.Proofs.Ytljnnhloinbjhaa.Pure
open Go.RowKit Go.Proofs.Ytljnnhloinbjhaa.P Go.Proofs.YtljnnhloinbjhaaW.PrintWords Go.Proofs.YtljnnhloinbjhaaW.PrintLast Go.Proofs.YtljnnhloinbjhaaW.PrintMore
set_option linter.unusedVariables false
set_option linter.unusedSimpArgs false
def iParse (l : List Int) : Int × Int × Int × List Int × Int := if (l.length : Int) < 8 then (0, 0, 0, [], 2) else (if sumOf l = 65535 then (rd l 0, rd l 1, four l 4, l.drop 8, 0) else (0, 0, 0, [], 5))
theorem iParse_to (l : List Int) (hb : Bytes l) (hl : l.length ≤ 100000) : icmp_Parse.f l = some (iParse l) := by
  unfold icmp_Parse.f iParse
  by_cases h : (l.length : Int) < 8
  · rw [if_pos h, if_pos h]
  rw [if_neg h, if_neg h, sum_one l hb (by omega), Option.bind_some]
  by_cases hs : sumOf l = 65535
  · have g0 := hb.get 0 (by omega)
    have g1 := hb.get 1 (by omega)
    have gf := get4_to l 4 hb (by omega)
    rw [show ((4 : Nat) : Int) = 4 from rfl] at gf
    rw [show ((0 : Nat) : Int) = 0 from rfl] at g0
    rw [show ((1 : Nat) : Int) = 1 from rfl] at g1
    have gb := four_bound l 4 hb (by omega)
    rw [if_pos hs, if_pos hs, gf, Option.bind_some, if_pos (by omega), if_pos (by omega), if_pos (by omega), if_pos (by simp; omega), w64 (by omega) (by omega), w64 (by omega) (by omega)]
    simp only [List.nil_append]
    rw [Int.emod_eq_of_lt gb.1 gb.2]
  · rw [if_neg hs, if_neg hs]
end Go.Proofs.Ytljnnhloinbjhaa.Pure
