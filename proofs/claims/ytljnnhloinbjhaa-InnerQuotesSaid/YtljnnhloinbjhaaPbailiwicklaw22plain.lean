-- Laid by a program (wip/tools/myprint.py) out of the translation. Not trusted: Lean checks it.
import Derived.Test.YtljnnhloinbjhaaP0
import Derived.Test.YtljnnhloinbjhaaPbailiwickplay
import Derived.Lib.SlBytesConst
namespace Go.Proofs.Ytljnnhloinbjhaa.P
open Go.RowKit Go.Proofs.YtljnnhloinbjhaaW.PrintWords Go.Proofs.YtljnnhloinbjhaaW.PrintLast
set_option linter.unusedVariables false
set_option linter.unusedSimpArgs false

/-! ### bailiwicklaw22_plain: function 49, by hand -/
def bailiwicklaw22_plain.f : Option (List Int) := some [69, 0, 0, 30, 0, 0, 0, 0, 64, 17, 96, 183, 10, 0, 0, 9, 8, 8, 8, 8, 3, 232, 0, 53, 0, 10, 121, 59, 104, 105]
theorem bailiwicklaw22_plain.data : bailiwickplay_Datagram.f 60 167772169 1000 134744072 53 64 [104, 105] = some [69, 0, 0, 30, 0, 0, 0, 0, 64, 17, 96, 183, 10, 0, 0, 9, 8, 8, 8, 8, 3, 232, 0, 53, 0, 10, 121, 59, 104, 105] := by kernel_rfl
theorem bailiwicklaw22_plain.C_block {k : IntKind} {W : World} {g t : Nat} {fr : Nat × Nat} {l : List Int} (h : W.heap[g]? = some (.cells (l.map (Value.int k)).toArray t fr)) (hl : l.length ≤ 9223372036854775807) : Kd.C (Kd.int k) W (some ⟨g, 0, none⟩) l.length l := by
  refine Kd.C_of_reads (d := (0 : Int)) ⟨rfl, hl, fun _ => ⟨⟨g, 0, none⟩, rfl, fun j hj => ?_⟩⟩
  have e : (⟨g, 0, none⟩ : Addr).add j = ⟨g, j, none⟩ := by unfold Addr.add; split <;> simp_all
  rw [e, cell_of_row W g j _ t fr h]
  simp [hj]
set_option maxHeartbeats 3200000 in
set_option maxRecDepth 100000 in
theorem bailiwicklaw22_plain.calls (r : List Int) (w : World) (h : bailiwicklaw22_plain.f = some r) :
    Calls Try.prog 49 #[] w fun e w' => ∃ v0_ : Value, e = .returned (v0_) ∧ Kd.R (Kd.int .u8) 5 w' w.heap.size (fun _ => True) v0_ r ∧ Below w.heap.size w w' := by
  obtain rfl : [69, 0, 0, 30, 0, 0, 0, 0, 64, 17, 96, 183, 10, 0, 0, 9, 8, 8, 8, 8, 3, 232, 0, 53, 0, 10, 121, 59, 104, 105] = r := Option.some.inj h
  clear h
  have kc := fun (w : World) (C : Array Value) (n c : Nat) => Lib.run_convert_bytes_const (P := Try.prog) w 23 5 C n c Try.underlying23 Try.underlying5
  have hu27 := Try.underlying27
  have HB := Aside0.mk (Below.refl w.heap.size w)
  go_enter Try.func49, Try.ntmps49
  go_wp2_with (go_at_call 22; (refine (bailiwickplay_Datagram.calls 60 167772169 1000 134744072 53 64 _ _ [104, 105] [69, 0, 0, 30, 0, 0, 0, 0, 64, 17, 96, 183, 10, 0, 0, 9, 8, 8, 8, 8, 3, 232, 0, 53, 0, 10, 121, 59, 104, 105] _ ?s1 ?s2 bailiwicklaw22_plain.data).mono ?_); (case s1 => exact bailiwicklaw22_plain.C_block (heap_alloc_new _ _) (by decide)); (case s2 => decide); rintro e w2 ⟨v0, rfl, ho, hb⟩; have HB2 := Aside0.mk (below_step (below_alloc HB.out _) hb); have HO := Aside0.mk (Kd.R_lower (Kd.R_mono (ok' := fun _ => True) ho (fun _ _ => trivial)) (below_size (below_alloc HB.out _))); clear ho hb HB)
  go_ret
  exact ⟨_, rfl, HO.out, HB2.out⟩

end Go.Proofs.Ytljnnhloinbjhaa.P
