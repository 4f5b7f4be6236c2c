/- Plain lemmas on chapter 1's functions: what is printed of them comes to simple functions of lists. No program in sight. -/
import Derived.Test.YthnhpbplglmmmaaDoorP0
namespace Go.Proofs.YthnhpbplglmmmaaDoor.Pure
open Go.RowKit Go.Proofs.YthnhpbplglmmmaaDoor.P Go.Proofs.YthnhpbplglmmmaaDoorW.PrintWords Go.Proofs.YthnhpbplglmmmaaDoorW.PrintLast
set_option linter.unusedVariables false
set_option linter.unusedSimpArgs false
theorem w64 {x : Int} (h0 : -9223372036854775808 ≤ x) (h1 : x ≤ 9223372036854775807) : wrap64 x = x := by
  unfold wrap64
  omega
theorem rd_nat (l : List Int) (i : Nat) (h : i < l.length) : rd l (i : Int) = l[i] := by
  simp [rd, h]
theorem rd_getD (l : List Int) (i : Nat) : rd l (i : Int) = l.getD i 0 := by
  unfold rd
  rw [Int.toNat_natCast]
theorem drop_rd (l : List Int) (i : Nat) (h : i < l.length) : l.drop i = rd l (i : Int) :: l.drop (i + 1) := by
  rw [rd_nat l i h, List.drop_eq_getElem_cons h]
end Go.Proofs.YthnhpbplglmmmaaDoor.Pure
