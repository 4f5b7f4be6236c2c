-- Laid by a program (wip/tools/myprint.py) out of the translation. Not trusted: Lean checks it.
import Derived.Test.YtljnnhloinbjhaaP0
import Derived.Test.YtljnnhloinbjhaaPbailiwickplay
import Derived.Test.YtljnnhloinbjhaaPframeRead
import Derived.Lib.SlBytesConst
namespace Go.Proofs.Ytljnnhloinbjhaa.P
open Go.RowKit Go.Proofs.YtljnnhloinbjhaaW.PrintWords Go.Proofs.YtljnnhloinbjhaaW.PrintLast
set_option linter.unusedVariables false
set_option linter.unusedSimpArgs false

/-! ### bailiwicklaw6_awake: function 21, by hand -/
def bailiwicklaw6_awake.f : Option Bool := some true
theorem bailiwicklaw6_awake.data : bailiwickplay_Datagram.f 60 167772161 1000 134744072 53 64 [104, 105] = some [69, 0, 0, 30, 0, 0, 0, 0, 64, 17, 96, 191, 10, 0, 0, 1, 8, 8, 8, 8, 3, 232, 0, 53, 0, 10, 121, 67, 104, 105] := by decide +kernel
theorem bailiwicklaw6_awake.read : frame_Read.f 60 [69, 0, 0, 30, 0, 0, 0, 0, 64, 17, 96, 191, 10, 0, 0, 1, 8, 8, 8, 8, 3, 232, 0, 53, 0, 10, 121, 67, 104, 105] = some (0, 0, false, false, 0, 64, 17, 167772161, 134744072, [], [3, 232, 0, 53, 0, 10, 121, 67, 104, 105], 1, 167772161, 1000, 134744072, 53, 0, 0, 0, 0, 0, 0, 0) := by kernel_rfl
theorem bailiwicklaw6_awake.C_block {k : IntKind} {W : World} {g t : Nat} {fr : Nat × Nat} {l : List Int} (h : W.heap[g]? = some (.cells (l.map (Value.int k)).toArray t fr)) (hl : l.length ≤ 9223372036854775807) : Kd.C (Kd.int k) W (some ⟨g, 0, none⟩) l.length l := by
  refine Kd.C_of_reads (d := (0 : Int)) ⟨rfl, hl, fun _ => ⟨⟨g, 0, none⟩, rfl, fun j hj => ?_⟩⟩
  have e : (⟨g, 0, none⟩ : Addr).add j = ⟨g, j, none⟩ := by unfold Addr.add; split <;> simp_all
  rw [e, cell_of_row W g j _ t fr h]
  simp [hj]
set_option maxHeartbeats 3200000 in
set_option maxRecDepth 100000 in
theorem bailiwicklaw6_awake.calls (r : Bool) (w : World) (h : bailiwicklaw6_awake.f = some r) :
    Calls Try.prog 21 #[] w fun e w' => e = .returned (.bool r) ∧ Below w.heap.size w w' := by
  obtain rfl : true = r := Option.some.inj h
  clear h
  have kc := fun (w : World) (C : Array Value) (n c : Nat) => Lib.run_convert_bytes_const (P := Try.prog) w 23 5 C n c Try.underlying23 Try.underlying5
  have hu27 := Try.underlying27
  have hu37 := Try.underlying37
  have HB := Aside0.mk (Below.refl w.heap.size w)
  go_enter Try.func21, Try.ntmps21
  go_upto_region 2 with (first
    | (go_at_call 22; (refine (bailiwickplay_Datagram.calls 60 167772161 1000 134744072 53 64 _ _ [104, 105] [69, 0, 0, 30, 0, 0, 0, 0, 64, 17, 96, 191, 10, 0, 0, 1, 8, 8, 8, 8, 3, 232, 0, 53, 0, 10, 121, 67, 104, 105] _ ?s1 ?s2 bailiwicklaw6_awake.data).mono ?_); (case s1 => exact bailiwicklaw6_awake.C_block (heap_alloc_new _ _) (by decide)); (case s2 => decide); rintro e w2 ⟨v0, rfl, ho, hb⟩; have HB2 := Aside0.mk (below_step (below_alloc HB.out _) hb); clear hb HB; obtain ⟨Av, cv, rfl⟩ := Kd.R_slice ho; have HR := Aside0.mk (Kd.R_reads' ho).2.2; have HC := Aside0.mk (Kd.R_reads' ho).2.1; clear ho)
    | (go_at_call 25; (refine (frame_Read.calls 60 Av cv [69, 0, 0, 30, 0, 0, 0, 0, 64, 17, 96, 191, 10, 0, 0, 1, 8, 8, 8, 8, 3, 232, 0, 53, 0, 10, 121, 67, 104, 105] 0 0 false false 0 64 17 167772161 134744072 [] [3, 232, 0, 53, 0, 10, 121, 67, 104, 105] 1 167772161 1000 134744072 53 0 0 0 0 0 0 0 w2 HR.out HC.out bailiwicklaw6_awake.read).mono ?_); rintro e w3 ⟨v9, v10, rfl, ho9, ho10, hb⟩; obtain ⟨A9, c9, rfl⟩ := Kd.R_slice ho9; obtain ⟨A10, c10, rfl⟩ := Kd.R_slice ho10; have HB3 := Aside0.mk (below_step HB2.out hb); clear hb ho9 ho10)
    | (refine wpList_store_row rfl 37 (.tmp 1) (.tmp 10) rfl w3.heap.size #[.int .i64 0, .int .i64 0, .bool false, .bool false, .int .i64 0, .int .i64 64, .int .i64 17, .int .u32 167772161, .int .u32 134744072, .slice A9 0 c9, .slice A10 10 c10, .int .i64 1, .int .u32 167772161, .int .i64 1000, .int .u32 134744072, .int .i64 53, .int .i64 0, .int .i64 0, .int .u32 0, .int .i64 0, .int .u32 0, .int .i64 0] (by rfl) (by rfl) 37 #[.int .i64 0, .int .i64 0, .bool false, .bool false, .int .i64 0, .int .i64 0, .int .i64 0, .int .u32 0, .int .u32 0, .slice none 0 0, .slice none 0 0, .int .i64 0, .int .u32 0, .int .i64 0, .int .u32 0, .int .i64 0, .int .i64 0, .int .i64 0, .int .u32 0, .int .i64 0, .int .u32 0, .int .i64 0] (by exact heap_alloc_new _ _) (by kernel_rfl) rfl (by kernel_rfl) ?_))
  have HP := Aside0.mk (setRow_heap _ _ _ #[.int .i64 0, .int .i64 0, .bool false, .bool false, .int .i64 0, .int .i64 64, .int .i64 17, .int .u32 167772161, .int .u32 134744072, .slice A9 0 c9, .slice A10 10 c10, .int .i64 1, .int .u32 167772161, .int .i64 1000, .int .u32 134744072, .int .i64 53, .int .i64 0, .int .i64 0, .int .u32 0, .int .i64 0, .int .u32 0, .int .i64 0] _ _ (heap_alloc_new w3 (.cells #[.int .i64 0, .int .i64 0, .bool false, .bool false, .int .i64 0, .int .i64 0, .int .i64 0, .int .u32 0, .int .u32 0, .slice none 0 0, .slice none 0 0, .int .i64 0, .int .u32 0, .int .i64 0, .int .u32 0, .int .i64 0, .int .i64 0, .int .i64 0, .int .u32 0, .int .i64 0, .int .u32 0, .int .i64 0] 37)))
  have HB4 := Aside0.mk (below_row (cs := #[.int .i64 0, .int .i64 0, .bool false, .bool false, .int .i64 0, .int .i64 64, .int .i64 17, .int .u32 167772161, .int .u32 134744072, .slice A9 0 c9, .slice A10 10 c10, .int .i64 1, .int .u32 167772161, .int .i64 1000, .int .u32 134744072, .int .i64 53, .int .i64 0, .int .i64 0, .int .u32 0, .int .i64 0, .int .u32 0, .int .i64 0]) (below_alloc HB3.out (.cells #[.int .i64 0, .int .i64 0, .bool false, .bool false, .int .i64 0, .int .i64 0, .int .i64 0, .int .u32 0, .int .u32 0, .slice none 0 0, .slice none 0 0, .int .i64 0, .int .u32 0, .int .i64 0, .int .u32 0, .int .i64 0, .int .i64 0, .int .i64 0, .int .u32 0, .int .i64 0, .int .u32 0, .int .i64 0] 37)) (below_size HB3.out))
  generalize ((w3.alloc (.cells #[.int .i64 0, .int .i64 0, .bool false, .bool false, .int .i64 0, .int .i64 0, .int .i64 0, .int .u32 0, .int .u32 0, .slice none 0 0, .slice none 0 0, .int .i64 0, .int .u32 0, .int .i64 0, .int .u32 0, .int .i64 0, .int .i64 0, .int .i64 0, .int .u32 0, .int .i64 0, .int .u32 0, .int .i64 0] 37)).setRow w3.heap.size #[.int .i64 0, .int .i64 0, .bool false, .bool false, .int .i64 0, .int .i64 64, .int .i64 17, .int .u32 167772161, .int .u32 134744072, .slice A9 0 c9, .slice A10 10 c10, .int .i64 1, .int .u32 167772161, .int .i64 1000, .int .u32 134744072, .int .i64 53, .int .i64 0, .int .i64 0, .int .u32 0, .int .i64 0, .int .u32 0, .int .i64 0]) = w4 at HP HB4 ⊢
  have h11 : w4.cell? ⟨w3.heap.size, 11, none⟩ = some (.int .i64 1) := (blk_cell HP.out 11).trans rfl
  have h13 : w4.cell? ⟨w3.heap.size, 13, none⟩ = some (.int .i64 1000) := (blk_cell HP.out 13).trans rfl
  have h15 : w4.cell? ⟨w3.heap.size, 15, none⟩ = some (.int .i64 53) := (blk_cell HP.out 15).trans rfl
  go_wp2
  go_ret
  exact ⟨by first | rfl | (simp; done), by repeat (first | (with_reducible first | exact HB4.out | apply pw_below_drewN | apply below_drew1) | exact HB4.out)⟩

end Go.Proofs.Ytljnnhloinbjhaa.P
