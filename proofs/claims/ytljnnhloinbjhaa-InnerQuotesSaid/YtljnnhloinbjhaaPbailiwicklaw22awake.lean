-- Laid by a program (wip/tools/myprint.py) out of the translation. Not trusted: Lean checks it.
import Derived.Test.YtljnnhloinbjhaaP0
import Derived.Test.YtljnnhloinbjhaaPinner
import Derived.Test.YtljnnhloinbjhaaPbailiwicklaw22plain
import Derived.Test.YtljnnhloinbjhaaPureWReadI
namespace Go.Proofs.Ytljnnhloinbjhaa.P
open Go.RowKit Go.Proofs.YtljnnhloinbjhaaW.PrintWords Go.Proofs.YtljnnhloinbjhaaW.PrintLast
set_option linter.unusedVariables false
set_option linter.unusedSimpArgs false

/-! ### bailiwicklaw22_awake: function 46, by hand -/
def bailiwicklaw22_awake.f : Option Bool := some true
theorem bailiwicklaw22_awake.plain : bailiwicklaw22_plain.f = some [69, 0, 0, 30, 0, 0, 0, 0, 64, 17, 96, 183, 10, 0, 0, 9, 8, 8, 8, 8, 3, 232, 0, 53, 0, 10, 121, 59, 104, 105] := rfl
theorem bailiwicklaw22_awake.fault : inner_Fault.f 60 11 0 167772161 [69, 0, 0, 30, 0, 0, 0, 0, 64, 17, 96, 183, 10, 0, 0, 9, 8, 8, 8, 8, 3, 232, 0, 53, 0, 10, 121, 59, 104, 105] = some ([69, 0, 0, 56, 0, 0, 0, 0, 64, 1, 102, 188, 10, 0, 0, 1, 10, 0, 0, 9, 11, 0, 119, 157, 0, 0, 0, 0, 69, 0, 0, 30, 0, 0, 0, 0, 64, 17, 96, 183, 10, 0, 0, 9, 8, 8, 8, 8, 3, 232, 0, 53, 0, 10, 121, 59], 0) := by kernel_rfl
theorem bailiwicklaw22_awake.read : frame_ReadI.f [69, 0, 0, 56, 0, 0, 0, 0, 64, 1, 102, 188, 10, 0, 0, 1, 10, 0, 0, 9, 11, 0, 119, 157, 0, 0, 0, 0, 69, 0, 0, 30, 0, 0, 0, 0, 64, 17, 96, 183, 10, 0, 0, 9, 8, 8, 8, 8, 3, 232, 0, 53, 0, 10, 121, 59] = some (0, 0, false, false, 0, 64, 1, 167772161, 167772169, [], [11, 0, 119, 157, 0, 0, 0, 0, 69, 0, 0, 30, 0, 0, 0, 0, 64, 17, 96, 183, 10, 0, 0, 9, 8, 8, 8, 8, 3, 232, 0, 53, 0, 10, 121, 59], 5, 167772161, 0, 167772169, 0, 0, 17, 167772169, 1000, 134744072, 53, 0) := by kernel_rfl
set_option maxHeartbeats 3200000 in
set_option maxRecDepth 100000 in
theorem bailiwicklaw22_awake.calls (r : Bool) (w : World) (h : bailiwicklaw22_awake.f = some r) :
    Calls Try.prog 46 #[] w fun e w' => e = .returned (.bool r) ∧ Below w.heap.size w w' := by
  obtain rfl : true = r := Option.some.inj h
  clear h
  have hu27 := Try.underlying27
  have hu35 := Try.underlying35
  have hu29 := Try.underlying29
  have hu37 := Try.underlying37
  go_enter Try.func46, Try.ntmps46
  go_upto_region 2 with (first
    | (go_at_call 49; (refine (bailiwicklaw22_plain.calls [69, 0, 0, 30, 0, 0, 0, 0, 64, 17, 96, 183, 10, 0, 0, 9, 8, 8, 8, 8, 3, 232, 0, 53, 0, 10, 121, 59, 104, 105] _ bailiwicklaw22_awake.plain).mono ?_); rintro e w2 ⟨v0, rfl, ho, hb⟩; have HB2 := Aside0.mk hb; obtain ⟨Av, cv, rfl⟩ := Kd.R_slice ho; have HR := Aside0.mk (Kd.R_reads' ho).2.2; have HC := Aside0.mk (Kd.R_reads' ho).2.1; clear ho hb)
    | (go_at_call 47; (refine (inner_Fault.calls 60 11 0 167772161 Av cv [69, 0, 0, 30, 0, 0, 0, 0, 64, 17, 96, 183, 10, 0, 0, 9, 8, 8, 8, 8, 3, 232, 0, 53, 0, 10, 121, 59, 104, 105] [69, 0, 0, 56, 0, 0, 0, 0, 64, 1, 102, 188, 10, 0, 0, 1, 10, 0, 0, 9, 11, 0, 119, 157, 0, 0, 0, 0, 69, 0, 0, 30, 0, 0, 0, 0, 64, 17, 96, 183, 10, 0, 0, 9, 8, 8, 8, 8, 3, 232, 0, 53, 0, 10, 121, 59] 0 w2 HR.out HC.out bailiwicklaw22_awake.fault).mono ?_); rintro e w3 ⟨v1, rfl, ho, hb⟩; obtain ⟨Af, cf, rfl⟩ := Kd.R_slice ho; have HRF := Aside0.mk (Kd.R_reads' ho).2.2; have HCF := Aside0.mk (Kd.R_reads' ho).2.1; have HB3 := Aside0.mk (below_step HB2.out hb); clear hb ho HB2 HR HC))
  go_upto_region 3 with (first
    | (go_at_call 25; (refine (frame_ReadI.calls Af cf [69, 0, 0, 56, 0, 0, 0, 0, 64, 1, 102, 188, 10, 0, 0, 1, 10, 0, 0, 9, 11, 0, 119, 157, 0, 0, 0, 0, 69, 0, 0, 30, 0, 0, 0, 0, 64, 17, 96, 183, 10, 0, 0, 9, 8, 8, 8, 8, 3, 232, 0, 53, 0, 10, 121, 59] 0 0 false false 0 64 1 167772161 167772169 [] [11, 0, 119, 157, 0, 0, 0, 0, 69, 0, 0, 30, 0, 0, 0, 0, 64, 17, 96, 183, 10, 0, 0, 9, 8, 8, 8, 8, 3, 232, 0, 53, 0, 10, 121, 59] 5 167772161 0 167772169 0 0 17 167772169 1000 134744072 53 0 w3 HRF.out HCF.out bailiwicklaw22_awake.read).mono ?_); rintro e w4 ⟨v9, v10, rfl, ho9, ho10, hb⟩; obtain ⟨A9, c9, rfl⟩ := Kd.R_slice ho9; obtain ⟨A10, c10, rfl⟩ := Kd.R_slice ho10; have HB4 := Aside0.mk (below_step HB3.out hb); clear hb ho9 ho10)
    | (refine wpList_store_row rfl 37 (.tmp 3) (.tmp 13) rfl w4.heap.size #[.int .i64 0, .int .i64 0, .bool false, .bool false, .int .i64 0, .int .i64 64, .int .i64 1, .int .u32 167772161, .int .u32 167772169, .slice A9 0 c9, .slice A10 36 c10, .int .i64 5, .int .u32 167772161, .int .i64 0, .int .u32 167772169, .int .i64 0, .int .i64 0, .int .i64 17, .int .u32 167772169, .int .i64 1000, .int .u32 134744072, .int .i64 53] (by rfl) (by rfl) 37 #[.int .i64 0, .int .i64 0, .bool false, .bool false, .int .i64 0, .int .i64 0, .int .i64 0, .int .u32 0, .int .u32 0, .slice none 0 0, .slice none 0 0, .int .i64 0, .int .u32 0, .int .i64 0, .int .u32 0, .int .i64 0, .int .i64 0, .int .i64 0, .int .u32 0, .int .i64 0, .int .u32 0, .int .i64 0] (by exact heap_alloc_new _ _) (by kernel_rfl) rfl (by kernel_rfl) ?_))
  have HP := Aside0.mk (setRow_heap _ _ _ #[.int .i64 0, .int .i64 0, .bool false, .bool false, .int .i64 0, .int .i64 64, .int .i64 1, .int .u32 167772161, .int .u32 167772169, .slice A9 0 c9, .slice A10 36 c10, .int .i64 5, .int .u32 167772161, .int .i64 0, .int .u32 167772169, .int .i64 0, .int .i64 0, .int .i64 17, .int .u32 167772169, .int .i64 1000, .int .u32 134744072, .int .i64 53] _ _ (heap_alloc_new w4 (.cells #[.int .i64 0, .int .i64 0, .bool false, .bool false, .int .i64 0, .int .i64 0, .int .i64 0, .int .u32 0, .int .u32 0, .slice none 0 0, .slice none 0 0, .int .i64 0, .int .u32 0, .int .i64 0, .int .u32 0, .int .i64 0, .int .i64 0, .int .i64 0, .int .u32 0, .int .i64 0, .int .u32 0, .int .i64 0] 37)))
  have HB5 := Aside0.mk (below_rowI (cs := #[.int .i64 0, .int .i64 0, .bool false, .bool false, .int .i64 0, .int .i64 64, .int .i64 1, .int .u32 167772161, .int .u32 167772169, .slice A9 0 c9, .slice A10 36 c10, .int .i64 5, .int .u32 167772161, .int .i64 0, .int .u32 167772169, .int .i64 0, .int .i64 0, .int .i64 17, .int .u32 167772169, .int .i64 1000, .int .u32 134744072, .int .i64 53]) (below_alloc HB4.out (.cells #[.int .i64 0, .int .i64 0, .bool false, .bool false, .int .i64 0, .int .i64 0, .int .i64 0, .int .u32 0, .int .u32 0, .slice none 0 0, .slice none 0 0, .int .i64 0, .int .u32 0, .int .i64 0, .int .u32 0, .int .i64 0, .int .i64 0, .int .i64 0, .int .u32 0, .int .i64 0, .int .u32 0, .int .i64 0] 37)) (below_size HB4.out))
  generalize ((w4.alloc (.cells #[.int .i64 0, .int .i64 0, .bool false, .bool false, .int .i64 0, .int .i64 0, .int .i64 0, .int .u32 0, .int .u32 0, .slice none 0 0, .slice none 0 0, .int .i64 0, .int .u32 0, .int .i64 0, .int .u32 0, .int .i64 0, .int .i64 0, .int .i64 0, .int .u32 0, .int .i64 0, .int .u32 0, .int .i64 0] 37)).setRow w4.heap.size #[.int .i64 0, .int .i64 0, .bool false, .bool false, .int .i64 0, .int .i64 64, .int .i64 1, .int .u32 167772161, .int .u32 167772169, .slice A9 0 c9, .slice A10 36 c10, .int .i64 5, .int .u32 167772161, .int .i64 0, .int .u32 167772169, .int .i64 0, .int .i64 0, .int .i64 17, .int .u32 167772169, .int .i64 1000, .int .u32 134744072, .int .i64 53]) = w5 at HP HB5 ⊢
  have h11 : w5.cell? ⟨w4.heap.size, 11, none⟩ = some (.int .i64 5) := (blk_cell HP.out 11).trans rfl
  have h19 : w5.cell? ⟨w4.heap.size, 19, none⟩ = some (.int .i64 1000) := (blk_cell HP.out 19).trans rfl
  have h8 : w5.cell? ⟨w4.heap.size, 8, none⟩ = some (.int .u32 167772169) := (blk_cell HP.out 8).trans rfl
  go_wp2
  go_ret
  exact ⟨by first | rfl | (simp; done), by repeat (first | (with_reducible first | exact HB5.out | apply pw_below_drewN | apply below_drew1) | exact HB5.out)⟩

end Go.Proofs.Ytljnnhloinbjhaa.P
