-- Laid by a program (wip/tools/myprint.py) out of the translation. Not trusted: Lean checks it.
import Derived.Test.YtnbanjbhjjhkdaaDoorP0
import Derived.Test.YtnbanjbhjjhkdaaDoorPline
import Derived.Lib.SlBytesConst
namespace Go.Proofs.YtnbanjbhjjhkdaaDoor.P
open Go.RowKit Go.Proofs.YtnbanjbhjjhkdaaDoorW.PrintWords Go.Proofs.YtnbanjbhjjhkdaaDoorW.PrintLast
set_option linter.unusedVariables false
set_option linter.unusedSimpArgs false

/-! ### bailiwicklaw23_awake: function 7, by hand -/
def bailiwicklaw23_awake.f : Option Bool := some true
def bailiwicklaw23_awake.l : List Int := [80, 79, 82, 84, 32, 49, 48, 44, 48, 44, 48, 44, 57, 44, 52, 44, 49, 13, 10]
theorem bailiwicklaw23_awake.found : line_Find.f bailiwicklaw23_awake.l = some (1, 5, 17, 167772169, 1025, true) := by decide +kernel
theorem bailiwicklaw23_awake.reads (w : World) : Kd.C (Kd.int .u8) (w.alloc (.cells #[.int .u8 80, .int .u8 79, .int .u8 82, .int .u8 84, .int .u8 32, .int .u8 49, .int .u8 48, .int .u8 44, .int .u8 48, .int .u8 44, .int .u8 48, .int .u8 44, .int .u8 57, .int .u8 44, .int .u8 52, .int .u8 44, .int .u8 49, .int .u8 13, .int .u8 10] 5 (19, 20))) (some ⟨w.heap.size, 0, none⟩) bailiwicklaw23_awake.l.length bailiwicklaw23_awake.l := by
  refine Kd.C_of_reads (d := (0 : Int)) (h1 := fun _ => rfl) ⟨rfl, by decide, fun _ => ⟨_, rfl, fun j hj => ?_⟩⟩
  rw [add_plain, World.cell?_alloc_mark]
  show ((bailiwicklaw23_awake.l.map (Value.int .u8)).toArray)[j]? = _
  have hj' : j < bailiwicklaw23_awake.l.length := hj
  simp [List.getD_eq_getElem?_getD, List.getElem?_eq_getElem hj']
set_option maxHeartbeats 8000000 in
set_option maxRecDepth 100000 in
theorem bailiwicklaw23_awake.calls (r : Bool) (w : World) (h : bailiwicklaw23_awake.f = some r) : Calls Tryd.prog 7 #[] w fun e w' => e = .returned (.bool r) ∧ Below w.heap.size w w' := by
  cases h
  have hu26 := Tryd.underlying24
  have hu28 := Tryd.underlying34
  have kc := fun (w : World) (C : Array Value) (n c : Nat) => Lib.run_convert_bytes_const (P := Tryd.prog) w 32 5 C n c Tryd.underlying32 Tryd.underlying5
  have HC0 : Calls Tryd.prog 10 #[.slice (some ⟨w.heap.size, 0, none⟩) 19 19] (w.alloc (.cells #[.int .u8 80, .int .u8 79, .int .u8 82, .int .u8 84, .int .u8 32, .int .u8 49, .int .u8 48, .int .u8 44, .int .u8 48, .int .u8 44, .int .u8 48, .int .u8 44, .int .u8 57, .int .u8 44, .int .u8 52, .int .u8 44, .int .u8 49, .int .u8 13, .int .u8 10] 5 (19, 20))) fun e w' => e = .returned (.tuple #[.agg #[.int .i64 1, .int .i64 5, .int .i64 17, .int .u32 167772169, .int .i64 1025], .bool true]) ∧ Below w.heap.size w w' :=
    (line_Find.calls (some ⟨w.heap.size, 0, none⟩) 19 bailiwicklaw23_awake.l 1 5 17 167772169 1025 true _ (bailiwicklaw23_awake.reads w) (by decide) bailiwicklaw23_awake.found).mono (fun e w' hh => ⟨hh.1, ((Below.refl _ w).alloc (Nat.le_refl _) _).trans (hh.2.mono (by show w.heap.size ≤ (w.heap.push _).size; simp))⟩)
  have HC := Aside0.mk HC0
  clear HC0
  go_enter Tryd.func7, Tryd.ntmps7
  go_wp2_with (first | (go_at_call 10; refine HC.out.mono ?_; rintro e' w1 ⟨rfl, hb⟩; have HB := Aside0.mk hb; clear hb))
  go_ret
  exact ⟨rfl, below_alloc HB.out _⟩

end Go.Proofs.YtnbanjbhjjhkdaaDoor.P
