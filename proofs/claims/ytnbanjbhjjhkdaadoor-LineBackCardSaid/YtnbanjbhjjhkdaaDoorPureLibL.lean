/- Plain: what package line computes over bytes: each function of its reader. No statement of its own. -/
import Derived.Test.YtnbanjbhjjhkdaaDoorP0
namespace Go.Proofs.YtnbanjbhjjhkdaaDoor.P
set_option linter.unusedVariables false
set_option linter.unusedSimpArgs false
/-- A letter's great form. -/
def lineUp (x : Int) : Int := if 97 ≤ x ∧ x ≤ 122 then x - 32 else x
def lineAt (l : List Int) (k : Nat) : Int := l.getD k 0
def lineSkip (l : List Int) : List Int → Nat → Option Nat
  | [], k => some k
  | c :: s, k => if lineUp (lineAt l k) = c ∧ k < l.length then lineSkip l s (k + 1) else none
def lineDig (x : Int) : Bool := decide (48 ≤ x ∧ x ≤ 57)
def lineNum (d : Nat) : List Int → Nat → Int → Option (Int × Nat)
  | [], i, n => some (n, i)
  | x :: xs, i, n => if lineDig x = true then (if i < d then lineNum d xs (i + 1) (10 * n + (x - 48)) else none) else some (n, i)
def lineNumber (l : List Int) (k d : Nat) (most : Int) : Option (Int × Nat) :=
  match lineNum d (l.drop k) 0 0 with
  | some (n, i) => if 0 < i ∧ n ≤ most then some (n, k + i) else none
  | none => none
def lineBytes (l s : List Int) : Nat → Bool → Int → Nat → Option (Int × Nat)
  | 0, _, x, k => some (x, k)
  | n + 1, first, x, k =>
    match (if first then some k else lineSkip l s k) with
    | none => none
    | some k1 => match lineNumber l k1 3 255 with
      | none => none
      | some (v, k2) => lineBytes l s n false (x * 256 + v) k2
def lineSix (l : List Int) (k : Nat) : Option (Int × Int × Nat) :=
  match lineBytes l [44] 6 true 0 k with
  | none => none
  | some (x, k1) => some (x / 65536, x % 65536, k1)
def lineOpen : List Int → Nat → Option Nat
  | [], _ => none
  | x :: xs, k => if x = 40 then some (k + 1) else lineOpen xs (k + 1)
/-- Kind, from, to, address, port. -/
def linePort (l : List Int) : Option (Int × Nat × Nat × Int × Int) :=
  match lineSkip l [80, 79, 82, 84, 32] 0 with
  | none => none
  | some k => match lineSix l k with
    | none => none
    | some (a, p, k1) => if k1 = l.length ∧ 0 < p then some (1, k, k1, a, p) else none
def lineEprt (l : List Int) : Option (Int × Nat × Nat × Int × Int) :=
  match lineSkip l [69, 80, 82, 84, 32] 0 with
  | none => none
  | some k => match lineSkip l [124, 49, 124] k with
    | none => none
    | some k1 => match lineBytes l [46] 4 true 0 k1 with
      | none => none
      | some (a, k2) => match lineSkip l [124] k2 with
        | none => none
        | some k3 => match lineNumber l k3 5 65535 with
          | none => none
          | some (p, k4) => match lineSkip l [124] k4 with
            | none => none
            | some k5 => if k5 = l.length ∧ 0 < p then some (2, k, k5, a, p) else none
def linePasv (l : List Int) : Option (Int × Nat × Nat × Int × Int) :=
  match lineSkip l [50, 50, 55, 32] 0 with
  | none => none
  | some k => match lineOpen (l.drop k) k with
    | none => none
    | some k1 => match lineSix l k1 with
      | none => none
      | some (a, p, k2) => match lineSkip l [41] k2 with
        | none => none
        | some k3 => if 0 < p then some (3, k1, k2, a, p) else none
def lineEpsv (l : List Int) : Option (Int × Nat × Nat × Int × Int) :=
  match lineSkip l [50, 50, 57, 32] 0 with
  | none => none
  | some k => match lineOpen (l.drop k) k with
    | none => none
    | some k1 => match lineSkip l [124, 124, 124] k1 with
      | none => none
      | some k2 => match lineNumber l k2 5 65535 with
        | none => none
        | some (p, k3) => match lineSkip l [124] k3 with
          | none => none
          | some k4 => match lineSkip l [41] k4 with
            | none => none
            | some k5 => if 0 < p then some (4, k1, k4, 0, p) else none
def lineRead (l : List Int) (kind : Int) : Option (Int × Nat × Nat × Int × Int) :=
  if kind = 1 then linePort l else if kind = 2 then lineEprt l else if kind = 3 then linePasv l else if kind = 4 then lineEpsv l else none
def lineText (b : List Int) : Option (List Int) :=
  if 2 ≤ b.length ∧ b.drop (b.length - 2) = [13, 10] ∧ 13 ∉ b.take (b.length - 2) ∧ 10 ∉ b.take (b.length - 2) then some (b.take (b.length - 2)) else none
def lineFind (b : List Int) : Option (Int × Nat × Nat × Int × Int) :=
  match lineText b with
  | none => none
  | some l => match lineRead l 1 with
    | some r => some r
    | none => match lineRead l 2 with
      | some r => some r
      | none => match lineRead l 3 with
        | some r => some r
        | none => lineRead l 4
end Go.Proofs.YtnbanjbhjjhkdaaDoor.P
