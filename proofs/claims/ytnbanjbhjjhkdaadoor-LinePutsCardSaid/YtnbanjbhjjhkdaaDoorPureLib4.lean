/- Plain lemmas: a number laid into bytes, and read out of them. No program in sight. -/
import Derived.Test.YtnbanjbhjjhkdaaDoorPureLib3
namespace Go.Proofs.YtnbanjbhjjhkdaaDoor.Pure
open Go.RowKit Go.Proofs.YtnbanjbhjjhkdaaDoor.P Go.Proofs.YtnbanjbhjjhkdaaDoorW.PrintWords Go.Proofs.YtnbanjbhjjhkdaaDoorW.PrintLast
set_option linter.unusedVariables false
set_option linter.unusedSimpArgs false
/-- The bytes behind n rounds of laying x from place a + n - 1 down to a. -/
def lay (l : List Int) (a : Nat) : Nat → Int → List Int
  | 0, _ => l
  | n + 1, x => lay (l.set (a + n) (x % 256)) a n (x / 256)
theorem lay_length (a : Nat) : ∀ (n : Nat) (l : List Int) (x : Int), (lay l a n x).length = l.length
  | 0, _, _ => rfl
  | n + 1, l, x => by rw [lay, lay_length a n]; simp
def put (l : List Int) (a n x : Int) : List Int × Bool := if 1 ≤ n ∧ n ≤ 8 ∧ 0 ≤ a ∧ a + n ≤ (l.length : Int) then (lay l a.toNat n.toNat x, true) else ([], false)
/-- What was laid is read: the value of n bytes. -/
def beVal (x : Int) (l : List Int) : Int := l.foldl (fun x c => x * 256 + c) x
theorem or_u64 (x c : Int) (h0 : 0 ≤ x) (h1 : x < 72057594037927936) (hc : 0 ≤ c) (hc1 : c < 256) : Go.bits .or .u64 (IntKind.u64.wrap (x * 256)) (IntKind.u64.wrap c) = x * 256 + c := by
  rw [wrap_u64, wrap_u64, Int.emod_eq_of_lt (by omega) (by omega), Int.emod_eq_of_lt (by omega) (by omega)]
  exact bits_join .u64 64 (by decide) (fun n h0 h1 => by rw [wrap_u64]; omega) 8 (x * 256) c (by omega) (by simp) (by omega) hc (by omega) (by omega)
end Go.Proofs.YtnbanjbhjjhkdaaDoor.Pure
