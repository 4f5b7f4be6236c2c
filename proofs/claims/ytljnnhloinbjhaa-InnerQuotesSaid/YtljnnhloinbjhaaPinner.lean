-- Laid by a program (wip/tools/myprint.py) out of the translation. Not trusted: Lean checks it.
import Derived.Test.YtljnnhloinbjhaaP0
import Derived.Test.YtljnnhloinbjhaaPip
import Derived.Test.YtljnnhloinbjhaaPicmpBuild
import Derived.Test.YtljnnhloinbjhaaPipBuild
namespace Go.Proofs.Ytljnnhloinbjhaa.P
open Go.RowKit Go.Proofs.YtljnnhloinbjhaaW.PrintWords Go.Proofs.YtljnnhloinbjhaaW.PrintLast
set_option linter.unusedVariables false
set_option linter.unusedSimpArgs false

/-! ### inner_fault: function 89 -/
def inner_fault.f (a0_0 : Int) (a0_1 : Int) (a0_2 : Bool) (a0_3 : Bool) (a0_4 : Int) (a0_5 : Int) (a0_6 : Int) (a0_7 : Int) (a0_8 : Int) (l0_9 : List Int) (l0_10 : List Int) : Option (Bool) := if a0_6 = 1 then (if (l0_10.length : Int) = 0 then (some true) else (if 0 < (l0_10.length : Int) then (if (rd l0_10 0) = 0 then (some false) else (some ((rd l0_10 0) != 8))) else (none))) else (some false)
set_option maxHeartbeats 8000000 in
set_option maxRecDepth 100000 in
theorem inner_fault.calls (a0_0 : Int) (a0_1 : Int) (a0_2 : Bool) (a0_3 : Bool) (a0_4 : Int) (a0_5 : Int) (a0_6 : Int) (a0_7 : Int) (a0_8 : Int) (A0_9 : Option Addr) (c0_9 : Nat) (l0_9 : List Int) (A0_10 : Option Addr) (c0_10 : Nat) (l0_10 : List Int) (r : Bool) (w : World) (hr0_9 : Kd.C (Kd.int .u8) w A0_9 l0_9.length l0_9) (hc0_9 : l0_9.length ≤ c0_9) (hr0_10 : Kd.C (Kd.int .u8) w A0_10 l0_10.length l0_10) (hc0_10 : l0_10.length ≤ c0_10) (h : inner_fault.f a0_0 a0_1 a0_2 a0_3 a0_4 a0_5 a0_6 a0_7 a0_8 l0_9 l0_10 = some r) :
  Calls Try.prog 89 #[.agg #[.int .i64 a0_0, .int .i64 a0_1, .bool a0_2, .bool a0_3, .int .i64 a0_4, .int .i64 a0_5, .int .i64 a0_6, .int .u32 a0_7, .int .u32 a0_8, .slice A0_9 l0_9.length c0_9, .slice A0_10 l0_10.length c0_10]] w fun e w' => e = .returned (.bool r) ∧ Below w.heap.size w w' := by
 have hu29 := Try.underlying29
 have HR0_9 := Aside0.mk hr0_9
 have HC0_9 := Aside0.mk hc0_9
 clear hr0_9 hc0_9
 have HR0_10 := Aside0.mk hr0_10
 have HC0_10 := Aside0.mk hc0_10
 clear hr0_10 hc0_10
 have HB := Aside0.mk (Below.refl w.heap.size w)
 have H : (if a0_6 = 1 then (if (l0_10.length : Int) = 0 then (some true) else (if 0 < (l0_10.length : Int) then (if (rd l0_10 0) = 0 then (some false) else (some ((rd l0_10 0) != 8))) else (none))) else (some false)) = some r := h
 clear h
 by_cases c2 : a0_6 = 1
 ·rw [if_pos c2] at H
  have c2b0 : (a0_6 == 1) = true := beq_iff_eq.mpr c2
  have c2b1 : (a0_6 != 1) = false := bne_eq_false_iff_eq.mpr c2
  clear c2
  by_cases c3 : (l0_10.length : Int) = 0
  ·rw [if_pos c3] at H
   have c3b0 : ((l0_10.length : Int) == 0) = true := beq_iff_eq.mpr c3
   have c3b1 : ((l0_10.length : Int) != 0) = false := bne_eq_false_iff_eq.mpr c3
   clear c3
   obtain rfl := Option.some.inj H
   go_enter Try.func89, Try.ntmps89
   go_wp2_with (first | ((with_reducible refine gate_dst (N := 1) rfl ?_); refine box_event ?hg (N := 1) ?hd (cs := #[.int .i64 a0_0, .int .i64 a0_1, .bool a0_2, .bool a0_3, .int .i64 a0_4, .int .i64 a0_5, .int .i64 a0_6, .int .u32 a0_7, .int .u32 a0_8, .slice A0_9 l0_9.length c0_9, .slice A0_10 l0_10.length c0_10]) (t := 29) ?hr ?_; (case hd => rfl); (case hg => rfl); (case hr => first | (go_simp; done) | (go_simp; rfl)); intro gb905 hg w4 hbox hb; have n0_ := Aside0.mk (below_step (by repeat (first | (with_reducible first | exact HB.out | apply below_alloc | apply pw_below_drewN | apply below_drew1) | exact HB.out)) hb); have n1_ := Aside0.mk (hbox); have n2_ := Aside0.mk ((by rw [hg]; exact (below_size (by repeat (first | (with_reducible first | exact HB.out | apply below_alloc | apply pw_below_drewN | apply below_drew1) | exact HB.out))) : w.heap.size ≤ gb905)); have n3_ := Aside0.mk ((by rw [hg]; exact (below_size (by repeat (first | (with_reducible first | exact HB.out | apply below_alloc | apply pw_below_drewN | apply below_drew1) | exact HB.out))) : w.heap.size ≤ gb905)); clear HB; have HB := n0_; have BK905 := n1_; have GW905 := n2_; have GE905 := n3_; clear n0_ n1_ n2_ n3_; clear hb hbox hg; have hcz5_0 : w4.cell? ⟨gb905, 0, none⟩ = some (.int .i64 a0_0) := (blk_cell BK905.out 0).trans rfl; have hcz5_1 : w4.cell? ⟨gb905, 1, none⟩ = some (.int .i64 a0_1) := (blk_cell BK905.out 1).trans rfl; have hcz5_2 : w4.cell? ⟨gb905, 2, none⟩ = some (.bool a0_2) := (blk_cell BK905.out 2).trans rfl; have hcz5_3 : w4.cell? ⟨gb905, 3, none⟩ = some (.bool a0_3) := (blk_cell BK905.out 3).trans rfl; have hcz5_4 : w4.cell? ⟨gb905, 4, none⟩ = some (.int .i64 a0_4) := (blk_cell BK905.out 4).trans rfl; have hcz5_5 : w4.cell? ⟨gb905, 5, none⟩ = some (.int .i64 a0_5) := (blk_cell BK905.out 5).trans rfl; have hcz5_6 : w4.cell? ⟨gb905, 6, none⟩ = some (.int .i64 a0_6) := (blk_cell BK905.out 6).trans rfl; have hcz5_7 : w4.cell? ⟨gb905, 7, none⟩ = some (.int .u32 a0_7) := (blk_cell BK905.out 7).trans rfl; have hcz5_8 : w4.cell? ⟨gb905, 8, none⟩ = some (.int .u32 a0_8) := (blk_cell BK905.out 8).trans rfl; have hcz5_9 : w4.cell? ⟨gb905, 9, none⟩ = some (.slice A0_9 l0_9.length c0_9) := (blk_cell BK905.out 9).trans rfl; have hcz5_10 : w4.cell? ⟨gb905, 10, none⟩ = some (.slice A0_10 l0_10.length c0_10) := (blk_cell BK905.out 10).trans rfl; have hfz5_0 := blk_frozen BK905.out 0; have hfz5_1 := blk_frozen BK905.out 1; have hfz5_2 := blk_frozen BK905.out 2; have hfz5_3 := blk_frozen BK905.out 3; have hfz5_4 := blk_frozen BK905.out 4; have hfz5_5 := blk_frozen BK905.out 5; have hfz5_6 := blk_frozen BK905.out 6; have hfz5_7 := blk_frozen BK905.out 7; have hfz5_8 := blk_frozen BK905.out 8; have hfz5_9 := blk_frozen BK905.out 9; have hfz5_10 := blk_frozen BK905.out 10))
   go_ret
   exact ⟨by first | rfl | (simp [errW_none, errW_some] <;> rfl) | (simp [*, errW_none, errW_some] <;> rfl), by repeat (first | (with_reducible first | exact HB.out | apply below_alloc | apply pw_below_drewN | apply below_drew1 | refine below_set ?_ GE905.out) | exact HB.out)⟩
  ·rw [if_neg c3] at H
   have c3b0 : ((l0_10.length : Int) == 0) = false := beq_eq_false_iff_ne.mpr c3
   have c3b1 : ((l0_10.length : Int) != 0) = true := bne_iff_ne.mpr c3
   have c3b2 : ¬ (l0_10 = []) := fun h_ => c3 (by rw [h_]; rfl)
   by_cases c6 : 0 < (l0_10.length : Int)
   ·rw [if_pos c6] at H
    have c6b0 : decide (0 < (l0_10.length : Int)) = true := decide_eq_true c6
    have c6b1 : decide (0 < l0_10.length) = true := decide_eq_true (by omega)
    clear c6
    by_cases c7 : (rd l0_10 0) = 0
    ·rw [if_pos c7] at H
     have c7b0 : ((rd l0_10 0) == 0) = true := beq_iff_eq.mpr c7
     have c7b1 : ((rd l0_10 0) != 0) = false := bne_eq_false_iff_eq.mpr c7
     clear c7
     obtain rfl := Option.some.inj H
     go_enter Try.func89, Try.ntmps89
     go_wp2_with (first | ((with_reducible refine gate_dst (N := 1) rfl ?_); refine box_event ?hg (N := 1) ?hd (cs := #[.int .i64 a0_0, .int .i64 a0_1, .bool a0_2, .bool a0_3, .int .i64 a0_4, .int .i64 a0_5, .int .i64 a0_6, .int .u32 a0_7, .int .u32 a0_8, .slice A0_9 l0_9.length c0_9, .slice A0_10 l0_10.length c0_10]) (t := 29) ?hr ?_; (case hd => rfl); (case hg => rfl); (case hr => first | (go_simp; done) | (go_simp; rfl)); intro gb905 hg w8 hbox hb; have n0_ := Aside0.mk (below_step (by repeat (first | (with_reducible first | exact HB.out | apply below_alloc | apply pw_below_drewN | apply below_drew1) | exact HB.out)) hb); have n1_ := Aside0.mk (hbox); have n2_ := Aside0.mk ((by rw [hg]; exact (below_size (by repeat (first | (with_reducible first | exact HB.out | apply below_alloc | apply pw_below_drewN | apply below_drew1) | exact HB.out))) : w.heap.size ≤ gb905)); have n3_ := Aside0.mk ((by rw [hg]; exact (below_size (by repeat (first | (with_reducible first | exact HB.out | apply below_alloc | apply pw_below_drewN | apply below_drew1) | exact HB.out))) : w.heap.size ≤ gb905)); clear HB; have HB := n0_; have BK905 := n1_; have GW905 := n2_; have GE905 := n3_; clear n0_ n1_ n2_ n3_; clear hb hbox hg; have hcz9_0 : w8.cell? ⟨gb905, 0, none⟩ = some (.int .i64 a0_0) := (blk_cell BK905.out 0).trans rfl; have hcz9_1 : w8.cell? ⟨gb905, 1, none⟩ = some (.int .i64 a0_1) := (blk_cell BK905.out 1).trans rfl; have hcz9_2 : w8.cell? ⟨gb905, 2, none⟩ = some (.bool a0_2) := (blk_cell BK905.out 2).trans rfl; have hcz9_3 : w8.cell? ⟨gb905, 3, none⟩ = some (.bool a0_3) := (blk_cell BK905.out 3).trans rfl; have hcz9_4 : w8.cell? ⟨gb905, 4, none⟩ = some (.int .i64 a0_4) := (blk_cell BK905.out 4).trans rfl; have hcz9_5 : w8.cell? ⟨gb905, 5, none⟩ = some (.int .i64 a0_5) := (blk_cell BK905.out 5).trans rfl; have hcz9_6 : w8.cell? ⟨gb905, 6, none⟩ = some (.int .i64 a0_6) := (blk_cell BK905.out 6).trans rfl; have hcz9_7 : w8.cell? ⟨gb905, 7, none⟩ = some (.int .u32 a0_7) := (blk_cell BK905.out 7).trans rfl; have hcz9_8 : w8.cell? ⟨gb905, 8, none⟩ = some (.int .u32 a0_8) := (blk_cell BK905.out 8).trans rfl; have hcz9_9 : w8.cell? ⟨gb905, 9, none⟩ = some (.slice A0_9 l0_9.length c0_9) := (blk_cell BK905.out 9).trans rfl; have hcz9_10 : w8.cell? ⟨gb905, 10, none⟩ = some (.slice A0_10 l0_10.length c0_10) := (blk_cell BK905.out 10).trans rfl; have hfz9_0 := blk_frozen BK905.out 0; have hfz9_1 := blk_frozen BK905.out 1; have hfz9_2 := blk_frozen BK905.out 2; have hfz9_3 := blk_frozen BK905.out 3; have hfz9_4 := blk_frozen BK905.out 4; have hfz9_5 := blk_frozen BK905.out 5; have hfz9_6 := blk_frozen BK905.out 6; have hfz9_7 := blk_frozen BK905.out 7; have hfz9_8 := blk_frozen BK905.out 8; have hfz9_9 := blk_frozen BK905.out 9; have hfz9_10 := blk_frozen BK905.out 10; have p906 : 0 ≤ (0 : Int) := (by omega); have q906 : 0 < (l0_10.length : Int) := of_decide_eq_true (by first | (with_reducible assumption) | assumption); obtain ⟨ad906, e906, hx906_0⟩ := Kd.at_int HR0_10.out 0 p906 q906; cases e906; have qi906 : (0 < l0_10.length) = True := eq_true (by omega); (try rw [show ((0 : Int)).toNat = 0 from rfl] at hx906_0); (try rw [Addr.add_zero'] at hx906_0); replace hx906_0 := (HB.out.cell (World.block_lt_of_cell? w _ hx906_0)).trans hx906_0; replace p906 := eq_true p906; replace q906 := eq_true q906))
     go_ret
     exact ⟨by first | rfl | (simp [errW_none, errW_some] <;> rfl) | (simp [*, errW_none, errW_some] <;> rfl), by repeat (first | (with_reducible first | exact HB.out | apply below_alloc | apply pw_below_drewN | apply below_drew1 | refine below_set ?_ GE905.out) | exact HB.out)⟩
    ·rw [if_neg c7] at H
     have c7b0 : ((rd l0_10 0) == 0) = false := beq_eq_false_iff_ne.mpr c7
     have c7b1 : ((rd l0_10 0) != 0) = true := bne_iff_ne.mpr c7
     obtain rfl := Option.some.inj H
     go_enter Try.func89, Try.ntmps89
     go_wp2_with (first | ((with_reducible refine gate_dst (N := 1) rfl ?_); refine box_event ?hg (N := 1) ?hd (cs := #[.int .i64 a0_0, .int .i64 a0_1, .bool a0_2, .bool a0_3, .int .i64 a0_4, .int .i64 a0_5, .int .i64 a0_6, .int .u32 a0_7, .int .u32 a0_8, .slice A0_9 l0_9.length c0_9, .slice A0_10 l0_10.length c0_10]) (t := 29) ?hr ?_; (case hd => rfl); (case hg => rfl); (case hr => first | (go_simp; done) | (go_simp; rfl)); intro gb905 hg w10 hbox hb; have n0_ := Aside0.mk (below_step (by repeat (first | (with_reducible first | exact HB.out | apply below_alloc | apply pw_below_drewN | apply below_drew1) | exact HB.out)) hb); have n1_ := Aside0.mk (hbox); have n2_ := Aside0.mk ((by rw [hg]; exact (below_size (by repeat (first | (with_reducible first | exact HB.out | apply below_alloc | apply pw_below_drewN | apply below_drew1) | exact HB.out))) : w.heap.size ≤ gb905)); have n3_ := Aside0.mk ((by rw [hg]; exact (below_size (by repeat (first | (with_reducible first | exact HB.out | apply below_alloc | apply pw_below_drewN | apply below_drew1) | exact HB.out))) : w.heap.size ≤ gb905)); clear HB; have HB := n0_; have BK905 := n1_; have GW905 := n2_; have GE905 := n3_; clear n0_ n1_ n2_ n3_; clear hb hbox hg; have hcz11_0 : w10.cell? ⟨gb905, 0, none⟩ = some (.int .i64 a0_0) := (blk_cell BK905.out 0).trans rfl; have hcz11_1 : w10.cell? ⟨gb905, 1, none⟩ = some (.int .i64 a0_1) := (blk_cell BK905.out 1).trans rfl; have hcz11_2 : w10.cell? ⟨gb905, 2, none⟩ = some (.bool a0_2) := (blk_cell BK905.out 2).trans rfl; have hcz11_3 : w10.cell? ⟨gb905, 3, none⟩ = some (.bool a0_3) := (blk_cell BK905.out 3).trans rfl; have hcz11_4 : w10.cell? ⟨gb905, 4, none⟩ = some (.int .i64 a0_4) := (blk_cell BK905.out 4).trans rfl; have hcz11_5 : w10.cell? ⟨gb905, 5, none⟩ = some (.int .i64 a0_5) := (blk_cell BK905.out 5).trans rfl; have hcz11_6 : w10.cell? ⟨gb905, 6, none⟩ = some (.int .i64 a0_6) := (blk_cell BK905.out 6).trans rfl; have hcz11_7 : w10.cell? ⟨gb905, 7, none⟩ = some (.int .u32 a0_7) := (blk_cell BK905.out 7).trans rfl; have hcz11_8 : w10.cell? ⟨gb905, 8, none⟩ = some (.int .u32 a0_8) := (blk_cell BK905.out 8).trans rfl; have hcz11_9 : w10.cell? ⟨gb905, 9, none⟩ = some (.slice A0_9 l0_9.length c0_9) := (blk_cell BK905.out 9).trans rfl; have hcz11_10 : w10.cell? ⟨gb905, 10, none⟩ = some (.slice A0_10 l0_10.length c0_10) := (blk_cell BK905.out 10).trans rfl; have hfz11_0 := blk_frozen BK905.out 0; have hfz11_1 := blk_frozen BK905.out 1; have hfz11_2 := blk_frozen BK905.out 2; have hfz11_3 := blk_frozen BK905.out 3; have hfz11_4 := blk_frozen BK905.out 4; have hfz11_5 := blk_frozen BK905.out 5; have hfz11_6 := blk_frozen BK905.out 6; have hfz11_7 := blk_frozen BK905.out 7; have hfz11_8 := blk_frozen BK905.out 8; have hfz11_9 := blk_frozen BK905.out 9; have hfz11_10 := blk_frozen BK905.out 10; have p906 : 0 ≤ (0 : Int) := (by omega); have q906 : 0 < (l0_10.length : Int) := of_decide_eq_true (by first | (with_reducible assumption) | assumption); obtain ⟨ad906, e906, hx906_0⟩ := Kd.at_int HR0_10.out 0 p906 q906; cases e906; have qi906 : (0 < l0_10.length) = True := eq_true (by omega); (try rw [show ((0 : Int)).toNat = 0 from rfl] at hx906_0); (try rw [Addr.add_zero'] at hx906_0); replace hx906_0 := (HB.out.cell (World.block_lt_of_cell? w _ hx906_0)).trans hx906_0; replace p906 := eq_true p906; replace q906 := eq_true q906; have p907 : 0 ≤ (0 : Int) := (by omega); have q907 : 0 < (l0_10.length : Int) := of_decide_eq_true (by first | (with_reducible assumption) | assumption); obtain ⟨ad907, e907, hx907_0⟩ := Kd.at_int HR0_10.out 0 p907 q907; obtain rfl : ad906 = ad907 := (by injection e907); have qi907 : (0 < l0_10.length) = True := eq_true (by omega); (try rw [show ((0 : Int)).toNat = 0 from rfl] at hx907_0); (try rw [Addr.add_zero'] at hx907_0); replace hx907_0 := (HB.out.cell (World.block_lt_of_cell? w _ hx907_0)).trans hx907_0; replace p907 := eq_true p907; replace q907 := eq_true q907))
     go_ret
     exact ⟨by first | rfl | (simp [errW_none, errW_some] <;> rfl) | (simp [*, errW_none, errW_some] <;> rfl), by repeat (first | (with_reducible first | exact HB.out | apply below_alloc | apply pw_below_drewN | apply below_drew1 | refine below_set ?_ GE905.out) | exact HB.out)⟩
   ·rw [if_neg c6] at H
    exact absurd H (by simp)
 ·rw [if_neg c2] at H
  have c2b0 : (a0_6 == 1) = false := beq_eq_false_iff_ne.mpr c2
  have c2b1 : (a0_6 != 1) = true := bne_iff_ne.mpr c2
  obtain rfl := Option.some.inj H
  go_enter Try.func89, Try.ntmps89
  go_wp2_with (first | ((with_reducible refine gate_dst (N := 1) rfl ?_); refine box_event ?hg (N := 1) ?hd (cs := #[.int .i64 a0_0, .int .i64 a0_1, .bool a0_2, .bool a0_3, .int .i64 a0_4, .int .i64 a0_5, .int .i64 a0_6, .int .u32 a0_7, .int .u32 a0_8, .slice A0_9 l0_9.length c0_9, .slice A0_10 l0_10.length c0_10]) (t := 29) ?hr ?_; (case hd => rfl); (case hg => rfl); (case hr => first | (go_simp; done) | (go_simp; rfl)); intro gb905 hg w12 hbox hb; have n0_ := Aside0.mk (below_step (by repeat (first | (with_reducible first | exact HB.out | apply below_alloc | apply pw_below_drewN | apply below_drew1) | exact HB.out)) hb); have n1_ := Aside0.mk (hbox); have n2_ := Aside0.mk ((by rw [hg]; exact (below_size (by repeat (first | (with_reducible first | exact HB.out | apply below_alloc | apply pw_below_drewN | apply below_drew1) | exact HB.out))) : w.heap.size ≤ gb905)); have n3_ := Aside0.mk ((by rw [hg]; exact (below_size (by repeat (first | (with_reducible first | exact HB.out | apply below_alloc | apply pw_below_drewN | apply below_drew1) | exact HB.out))) : w.heap.size ≤ gb905)); clear HB; have HB := n0_; have BK905 := n1_; have GW905 := n2_; have GE905 := n3_; clear n0_ n1_ n2_ n3_; clear hb hbox hg; have hcz13_0 : w12.cell? ⟨gb905, 0, none⟩ = some (.int .i64 a0_0) := (blk_cell BK905.out 0).trans rfl; have hcz13_1 : w12.cell? ⟨gb905, 1, none⟩ = some (.int .i64 a0_1) := (blk_cell BK905.out 1).trans rfl; have hcz13_2 : w12.cell? ⟨gb905, 2, none⟩ = some (.bool a0_2) := (blk_cell BK905.out 2).trans rfl; have hcz13_3 : w12.cell? ⟨gb905, 3, none⟩ = some (.bool a0_3) := (blk_cell BK905.out 3).trans rfl; have hcz13_4 : w12.cell? ⟨gb905, 4, none⟩ = some (.int .i64 a0_4) := (blk_cell BK905.out 4).trans rfl; have hcz13_5 : w12.cell? ⟨gb905, 5, none⟩ = some (.int .i64 a0_5) := (blk_cell BK905.out 5).trans rfl; have hcz13_6 : w12.cell? ⟨gb905, 6, none⟩ = some (.int .i64 a0_6) := (blk_cell BK905.out 6).trans rfl; have hcz13_7 : w12.cell? ⟨gb905, 7, none⟩ = some (.int .u32 a0_7) := (blk_cell BK905.out 7).trans rfl; have hcz13_8 : w12.cell? ⟨gb905, 8, none⟩ = some (.int .u32 a0_8) := (blk_cell BK905.out 8).trans rfl; have hcz13_9 : w12.cell? ⟨gb905, 9, none⟩ = some (.slice A0_9 l0_9.length c0_9) := (blk_cell BK905.out 9).trans rfl; have hcz13_10 : w12.cell? ⟨gb905, 10, none⟩ = some (.slice A0_10 l0_10.length c0_10) := (blk_cell BK905.out 10).trans rfl; have hfz13_0 := blk_frozen BK905.out 0; have hfz13_1 := blk_frozen BK905.out 1; have hfz13_2 := blk_frozen BK905.out 2; have hfz13_3 := blk_frozen BK905.out 3; have hfz13_4 := blk_frozen BK905.out 4; have hfz13_5 := blk_frozen BK905.out 5; have hfz13_6 := blk_frozen BK905.out 6; have hfz13_7 := blk_frozen BK905.out 7; have hfz13_8 := blk_frozen BK905.out 8; have hfz13_9 := blk_frozen BK905.out 9; have hfz13_10 := blk_frozen BK905.out 10))
  go_ret
  exact ⟨by first | rfl | (simp [errW_none, errW_some] <;> rfl) | (simp [*, errW_none, errW_some] <;> rfl), by repeat (first | (with_reducible first | exact HB.out | apply below_alloc | apply pw_below_drewN | apply below_drew1 | refine below_set ?_ GE905.out) | exact HB.out)⟩

/-! ### inner_Fault: function 47 -/
mutual
def inner_Fault.j0 : Nat → Int → Int → Int → List Int → Bool → Int → Int → Bool → Bool → Int → Int → Int → Int → Int → List Int → List Int → Option (List Int × Int)
 | 0, _, _, _, _, _, _, _, _, _, _, _, _, _, _, _, _ => none
 | k + 1, x0, x1, x2, x3, x36, x941000, x941001, x941002, x941003, x941004, x941005, x941006, x941007, x941008, x941009, x941010 => if x36 = true then (some (([] : List Int), 1)) else (if x941004 = 0 then ((inner_fault.f x941000 x941001 x941002 x941003 x941004 x941005 x941006 x941007 x941008 x941009 x941010).bind fun t941 => (inner_Fault.j1 k x0 x1 x2 x3 t941 x941000 x941001 x941002 x941003 x941004 x941005 x941006 x941007 x941008 x941009 x941010)) else (inner_Fault.j1 k x0 x1 x2 x3 true x941000 x941001 x941002 x941003 x941004 x941005 x941006 x941007 x941008 x941009 x941010))
def inner_Fault.j1 : Nat → Int → Int → Int → List Int → Bool → Int → Int → Bool → Bool → Int → Int → Int → Int → Int → List Int → List Int → Option (List Int × Int)
 | 0, _, _, _, _, _, _, _, _, _, _, _, _, _, _, _, _ => none
 | k + 1, x0, x1, x2, x3, x43, x941000, x941001, x941002, x941003, x941004, x941005, x941006, x941007, x941008, x941009, x941010 => if x43 = true then (some (([] : List Int), 12)) else (if 0 < (x3.length : Int) then (if 0 ≤ (wrap64 ((wrap64 ((wrap64 (Go.bits .and .u8 (rd x3 0) 15)) * 4)) + (mn (x941010.length : Int) 8))) then (if (wrap64 ((wrap64 ((wrap64 (Go.bits .and .u8 (rd x3 0) 15)) * 4)) + (mn (x941010.length : Int) 8))) ≤ (x3.length : Int) then (if ([] : List Int).length + (x3.take ((wrap64 ((wrap64 ((wrap64 (Go.bits .and .u8 (rd x3 0) 15)) * 4)) + (mn (x941010.length : Int) 8))) : Int).toNat).length < 140737488355328 then ((icmp_Build.f k x0 x1 0 (([] : List Int) ++ (x3.take ((wrap64 ((wrap64 ((wrap64 (Go.bits .and .u8 (rd x3 0) 15)) * 4)) + (mn (x941010.length : Int) 8))) : Int).toNat))).bind fun bt947 => ((ip_Build.f 0 0 false false 0 64 1 x2 x941007 ([] : List Int) bt947.1).bind fun bt951 => (some (bt951.1, bt951.2)))) else (none)) else (none)) else (none)) else (none))
end
def inner_Fault.f (k : Nat) (a0 : Int) (a1 : Int) (a2 : Int) (l3 : List Int) : Option (List Int × Int) := (ip_Parse.f l3).bind fun bt924 => (if bt924.2.2.2.2.2.2.2.2.2.2.2 = 0 then (if a0 < 0 then (inner_Fault.j0 k a0 a1 a2 l3 true bt924.1 bt924.2.1 bt924.2.2.1 bt924.2.2.2.1 bt924.2.2.2.2.1 bt924.2.2.2.2.2.1 bt924.2.2.2.2.2.2.1 bt924.2.2.2.2.2.2.2.1 bt924.2.2.2.2.2.2.2.2.1 bt924.2.2.2.2.2.2.2.2.2.1 bt924.2.2.2.2.2.2.2.2.2.2.1) else (if a0 > 255 then (inner_Fault.j0 k a0 a1 a2 l3 true bt924.1 bt924.2.1 bt924.2.2.1 bt924.2.2.2.1 bt924.2.2.2.2.1 bt924.2.2.2.2.2.1 bt924.2.2.2.2.2.2.1 bt924.2.2.2.2.2.2.2.1 bt924.2.2.2.2.2.2.2.2.1 bt924.2.2.2.2.2.2.2.2.2.1 bt924.2.2.2.2.2.2.2.2.2.2.1) else (if a1 < 0 then (inner_Fault.j0 k a0 a1 a2 l3 true bt924.1 bt924.2.1 bt924.2.2.1 bt924.2.2.2.1 bt924.2.2.2.2.1 bt924.2.2.2.2.2.1 bt924.2.2.2.2.2.2.1 bt924.2.2.2.2.2.2.2.1 bt924.2.2.2.2.2.2.2.2.1 bt924.2.2.2.2.2.2.2.2.2.1 bt924.2.2.2.2.2.2.2.2.2.2.1) else (inner_Fault.j0 k a0 a1 a2 l3 (decide (a1 > 255)) bt924.1 bt924.2.1 bt924.2.2.1 bt924.2.2.2.1 bt924.2.2.2.2.1 bt924.2.2.2.2.2.1 bt924.2.2.2.2.2.2.1 bt924.2.2.2.2.2.2.2.1 bt924.2.2.2.2.2.2.2.2.1 bt924.2.2.2.2.2.2.2.2.2.1 bt924.2.2.2.2.2.2.2.2.2.2.1)))) else (some (([] : List Int), 4)))
theorem inner_Fault.mono_l : ∀ k, (∀ y0 y1 y2 y3 y4 y5 y6 y7 y8 y9 y10 y11 y12 y13 y14 y15, LeO (inner_Fault.j0 k y0 y1 y2 y3 y4 y5 y6 y7 y8 y9 y10 y11 y12 y13 y14 y15) (inner_Fault.j0 (k + 1) y0 y1 y2 y3 y4 y5 y6 y7 y8 y9 y10 y11 y12 y13 y14 y15)) ∧ (∀ y0 y1 y2 y3 y4 y5 y6 y7 y8 y9 y10 y11 y12 y13 y14 y15, LeO (inner_Fault.j1 k y0 y1 y2 y3 y4 y5 y6 y7 y8 y9 y10 y11 y12 y13 y14 y15) (inner_Fault.j1 (k + 1) y0 y1 y2 y3 y4 y5 y6 y7 y8 y9 y10 y11 y12 y13 y14 y15))
 | 0 => ⟨fun _ _ _ _ _ _ _ _ _ _ _ _ _ _ _ _ r h => by simp [inner_Fault.j0] at h, fun _ _ _ _ _ _ _ _ _ _ _ _ _ _ _ _ r h => by simp [inner_Fault.j1] at h⟩
 | k + 1 => by
  obtain ⟨ih0, ih1⟩ := inner_Fault.mono_l k
  refine ⟨?_, ?_⟩
  ·intro y0 y1 y2 y3 y4 y5 y6 y7 y8 y9 y10 y11 y12 y13 y14 y15
   unfold inner_Fault.j0
   repeat' first
   | (with_reducible exact ih0 _ _ _ _ _ _ _ _ _ _ _ _ _ _ _ _)
   | (with_reducible exact ih1 _ _ _ _ _ _ _ _ _ _ _ _ _ _ _ _)
   | (with_reducible exact icmp_Build.mono _ _ _ _ _)
   | (with_reducible exact LeO.refl _)
   | (with_reducible exact LeO.none _)
   | (with_reducible refine LeO.ite ?_ ?_)
   | (with_reducible refine LeO.bind ?_ (fun _ => ?_))
   | exact ih0 _ _ _ _ _ _ _ _ _ _ _ _ _ _ _ _
   | exact ih1 _ _ _ _ _ _ _ _ _ _ _ _ _ _ _ _
   | exact icmp_Build.mono _ _ _ _ _
   | exact LeO.none _
   | refine LeO.ite ?_ ?_
   | refine LeO.bind ?_ (fun _ => ?_)
  ·intro y0 y1 y2 y3 y4 y5 y6 y7 y8 y9 y10 y11 y12 y13 y14 y15
   unfold inner_Fault.j1
   repeat' first
   | (with_reducible exact ih0 _ _ _ _ _ _ _ _ _ _ _ _ _ _ _ _)
   | (with_reducible exact ih1 _ _ _ _ _ _ _ _ _ _ _ _ _ _ _ _)
   | (with_reducible exact icmp_Build.mono _ _ _ _ _)
   | (with_reducible exact LeO.refl _)
   | (with_reducible exact LeO.none _)
   | (with_reducible refine LeO.ite ?_ ?_)
   | (with_reducible refine LeO.bind ?_ (fun _ => ?_))
   | exact ih0 _ _ _ _ _ _ _ _ _ _ _ _ _ _ _ _
   | exact ih1 _ _ _ _ _ _ _ _ _ _ _ _ _ _ _ _
   | exact icmp_Build.mono _ _ _ _ _
   | exact LeO.none _
   | refine LeO.ite ?_ ?_
   | refine LeO.bind ?_ (fun _ => ?_)
theorem inner_Fault.mono : ∀ a0 a1 a2 a3 k, LeO (inner_Fault.f k a0 a1 a2 a3) (inner_Fault.f (k + 1) a0 a1 a2 a3) := by
 intro a0 a1 a2 a3 k
 obtain ⟨ih0, ih1⟩ := inner_Fault.mono_l k
 unfold inner_Fault.f
 repeat' first
   | (with_reducible exact ih0 _ _ _ _ _ _ _ _ _ _ _ _ _ _ _ _)
   | (with_reducible exact ih1 _ _ _ _ _ _ _ _ _ _ _ _ _ _ _ _)
   | (with_reducible exact icmp_Build.mono _ _ _ _ _)
   | (with_reducible exact LeO.refl _)
   | (with_reducible exact LeO.none _)
   | (with_reducible refine LeO.ite ?_ ?_)
   | (with_reducible refine LeO.bind ?_ (fun _ => ?_))
   | exact ih0 _ _ _ _ _ _ _ _ _ _ _ _ _ _ _ _
   | exact ih1 _ _ _ _ _ _ _ _ _ _ _ _ _ _ _ _
   | exact icmp_Build.mono _ _ _ _ _
   | exact LeO.none _
   | refine LeO.ite ?_ ?_
   | refine LeO.bind ?_ (fun _ => ?_)
set_option maxHeartbeats 8000000 in
set_option maxRecDepth 100000 in
theorem inner_Fault.calls (k : Nat) (a0 : Int) (a1 : Int) (a2 : Int) (A3 : Option Addr) (c3 : Nat) (l3 : List Int) (r1 : List Int) (r2 : Int) (w : World) (hr3 : Kd.C (Kd.int .u8) w A3 l3.length l3) (hc3 : l3.length ≤ c3) (h : inner_Fault.f k a0 a1 a2 l3 = some (r1, r2)) :
  Calls Try.prog 47 #[.int .i64 a0, .int .i64 a1, .int .u32 a2, .slice A3 l3.length c3] w fun e w' => ∃ v0_ : Value, e = .returned (.tuple #[v0_, .int .i64 r2]) ∧ Kd.R (Kd.int .u8) 5 w' w.heap.size (fun _ => True) v0_ r1 ∧ Below w.heap.size w w' := by
 have hu29 := Try.underlying29
 have hu118 := Try.underlying118
 have HR3 := Aside0.mk hr3
 have HC3 := Aside0.mk hc3
 clear hr3 hc3
 have HB := Aside0.mk (Below.refl w.heap.size w)
 have H : ((ip_Parse.f l3).bind fun bt924 => (if bt924.2.2.2.2.2.2.2.2.2.2.2 = 0 then (if a0 < 0 then (inner_Fault.j0 k a0 a1 a2 l3 true bt924.1 bt924.2.1 bt924.2.2.1 bt924.2.2.2.1 bt924.2.2.2.2.1 bt924.2.2.2.2.2.1 bt924.2.2.2.2.2.2.1 bt924.2.2.2.2.2.2.2.1 bt924.2.2.2.2.2.2.2.2.1 bt924.2.2.2.2.2.2.2.2.2.1 bt924.2.2.2.2.2.2.2.2.2.2.1) else (if a0 > 255 then (inner_Fault.j0 k a0 a1 a2 l3 true bt924.1 bt924.2.1 bt924.2.2.1 bt924.2.2.2.1 bt924.2.2.2.2.1 bt924.2.2.2.2.2.1 bt924.2.2.2.2.2.2.1 bt924.2.2.2.2.2.2.2.1 bt924.2.2.2.2.2.2.2.2.1 bt924.2.2.2.2.2.2.2.2.2.1 bt924.2.2.2.2.2.2.2.2.2.2.1) else (if a1 < 0 then (inner_Fault.j0 k a0 a1 a2 l3 true bt924.1 bt924.2.1 bt924.2.2.1 bt924.2.2.2.1 bt924.2.2.2.2.1 bt924.2.2.2.2.2.1 bt924.2.2.2.2.2.2.1 bt924.2.2.2.2.2.2.2.1 bt924.2.2.2.2.2.2.2.2.1 bt924.2.2.2.2.2.2.2.2.2.1 bt924.2.2.2.2.2.2.2.2.2.2.1) else (inner_Fault.j0 k a0 a1 a2 l3 (decide (a1 > 255)) bt924.1 bt924.2.1 bt924.2.2.1 bt924.2.2.2.1 bt924.2.2.2.2.1 bt924.2.2.2.2.2.1 bt924.2.2.2.2.2.2.1 bt924.2.2.2.2.2.2.2.1 bt924.2.2.2.2.2.2.2.2.1 bt924.2.2.2.2.2.2.2.2.2.1 bt924.2.2.2.2.2.2.2.2.2.2.1)))) else (some (([] : List Int), 4)))) = some (r1, r2) := h
 clear h
 replace H := Option.bind_eq_some_iff.mp H
 obtain ⟨⟨t924, t925, t926, t927, t928, t929, t930, t931, t932, t933, t936, t939⟩, A50, H⟩ := H
 replace H : (if t939 = 0 then (if a0 < 0 then (inner_Fault.j0 k a0 a1 a2 l3 true t924 t925 t926 t927 t928 t929 t930 t931 t932 t933 t936) else (if a0 > 255 then (inner_Fault.j0 k a0 a1 a2 l3 true t924 t925 t926 t927 t928 t929 t930 t931 t932 t933 t936) else (if a1 < 0 then (inner_Fault.j0 k a0 a1 a2 l3 true t924 t925 t926 t927 t928 t929 t930 t931 t932 t933 t936) else (inner_Fault.j0 k a0 a1 a2 l3 (decide (a1 > 255)) t924 t925 t926 t927 t928 t929 t930 t931 t932 t933 t936)))) else (some (([] : List Int), 4))) = some (r1, r2) := H
 have A5 := Aside0.mk A50
 clear A50
 by_cases c6 : t939 = 0
 ·rw [if_pos c6] at H
  have c6b0 : (t939 == 0) = true := beq_iff_eq.mpr c6
  have c6b1 : (t939 != 0) = false := bne_eq_false_iff_eq.mpr c6
  clear c6
  have HC7 := Aside0.mk H
  clear H
  go_enter Try.func47, Try.ntmps47
  go_upto_region 4 with (first | ((with_reducible refine gate_callee (f := 61) rfl ?_); refine goesL_ (some 18) rfl rfl Try.func61 (by kernel_rfl) rfl #[.slice A3 l3.length c3] rfl (by (try simp only [List.map_toArray, List.map_cons, List.map_nil]); first | done | rfl | (simp only [List.length_drop, List.length_take]; rfl)) ?_; (with_reducible refine (ip_Parse.calls _ _ l3 t924 t925 t926 t927 t928 t929 t930 t931 t932 t933 t936 t939 _ ?side1 ?side2 A5.out).mono ?_); (case side1 => repeat (first | exact HR3.out | (with_reducible refine Kd.C_alloc ?_ _) | (with_reducible refine Kd.C_drewN ?_ _) | (with_reducible refine Kd.C_drew ?_))); (case side2 => exact HC3.out); rintro e w8 ⟨v934, v937, rfl, ho0, ho1, hb⟩; refine ⟨_, rfl, ?_⟩; have n0_ := Aside0.mk (Kd.R_lower ho0 (below_size (by repeat (first | (with_reducible first | exact HB.out | apply below_alloc | apply pw_below_drewN | apply below_drew1) | exact HB.out)))); have n1_ := Aside0.mk (Kd.R_lower ho1 (below_size (by repeat (first | (with_reducible first | exact HB.out | apply below_alloc | apply pw_below_drewN | apply below_drew1) | exact HB.out)))); have n2_ := Aside0.mk (below_step (by repeat (first | (with_reducible first | exact HB.out | apply below_alloc | apply pw_below_drewN | apply below_drew1) | exact HB.out)) hb); clear HB; have HO935 := n0_; have HO938 := n1_; have HB := n2_; clear n0_ n1_ n2_; (try clear hb); (try clear hb2); (try clear hk); (try clear hi); (try clear ho0); (try clear ho1)) | ((with_reducible refine gate_dst (N := 10) rfl ?_); refine box_event ?hg (N := 10) ?hd (cs := #[.int .i64 0, .int .i64 0, .bool false, .bool false, .int .i64 0, .int .i64 0, .int .i64 0, .int .u32 0, .int .u32 0, .slice none 0 0, .slice none 0 0]) (t := 29) ?hr ?_; (case hd => rfl); (case hg => rfl); (case hr => first | (go_simp; done) | (go_simp; rfl)); intro gb940 hg w9 hbox hb; have n0_ := Aside0.mk (Kd.R_below (by (with_reducible repeat (first | apply Kd.R_alloc | apply Kd.R_drewN | apply Kd.R_drew)); exact HO935.out) hb); have n1_ := Aside0.mk (Kd.R_below (by (with_reducible repeat (first | apply Kd.R_alloc | apply Kd.R_drewN | apply Kd.R_drew)); exact HO938.out) hb); have n2_ := Aside0.mk (below_step (by repeat (first | (with_reducible first | exact HB.out | apply below_alloc | apply pw_below_drewN | apply below_drew1) | exact HB.out)) hb); have n3_ := Aside0.mk (hbox); have n4_ := Aside0.mk ((by rw [hg]; exact (below_size (by repeat (first | (with_reducible first | exact HB.out | apply below_alloc | apply pw_below_drewN | apply below_drew1) | exact HB.out))) : w.heap.size ≤ gb940)); have n5_ := Aside0.mk ((by rw [hg]; exact (below_size (by repeat (first | (with_reducible first | exact HB.out | apply below_alloc | apply pw_below_drewN | apply below_drew1) | exact HB.out))) : w.heap.size ≤ gb940)); clear HO935; clear HO938; clear HB; have HO935 := n0_; have HO938 := n1_; have HB := n2_; have BK940 := n3_; have GW940 := n4_; have GE940 := n5_; clear n0_ n1_ n2_ n3_ n4_ n5_; clear hb hbox hg; have hcz10_0 : w9.cell? ⟨gb940, 0, none⟩ = some (.int .i64 0) := (blk_cell BK940.out 0).trans rfl; have hcz10_1 : w9.cell? ⟨gb940, 1, none⟩ = some (.int .i64 0) := (blk_cell BK940.out 1).trans rfl; have hcz10_2 : w9.cell? ⟨gb940, 2, none⟩ = some (.bool false) := (blk_cell BK940.out 2).trans rfl; have hcz10_3 : w9.cell? ⟨gb940, 3, none⟩ = some (.bool false) := (blk_cell BK940.out 3).trans rfl; have hcz10_4 : w9.cell? ⟨gb940, 4, none⟩ = some (.int .i64 0) := (blk_cell BK940.out 4).trans rfl; have hcz10_5 : w9.cell? ⟨gb940, 5, none⟩ = some (.int .i64 0) := (blk_cell BK940.out 5).trans rfl; have hcz10_6 : w9.cell? ⟨gb940, 6, none⟩ = some (.int .i64 0) := (blk_cell BK940.out 6).trans rfl; have hcz10_7 : w9.cell? ⟨gb940, 7, none⟩ = some (.int .u32 0) := (blk_cell BK940.out 7).trans rfl; have hcz10_8 : w9.cell? ⟨gb940, 8, none⟩ = some (.int .u32 0) := (blk_cell BK940.out 8).trans rfl; have hcz10_9 : w9.cell? ⟨gb940, 9, none⟩ = some (.slice none 0 0) := (blk_cell BK940.out 9).trans rfl; have hcz10_10 : w9.cell? ⟨gb940, 10, none⟩ = some (.slice none 0 0) := (blk_cell BK940.out 10).trans rfl; have hfz10_0 := blk_frozen BK940.out 0; have hfz10_1 := blk_frozen BK940.out 1; have hfz10_2 := blk_frozen BK940.out 2; have hfz10_3 := blk_frozen BK940.out 3; have hfz10_4 := blk_frozen BK940.out 4; have hfz10_5 := blk_frozen BK940.out 5; have hfz10_6 := blk_frozen BK940.out 6; have hfz10_7 := blk_frozen BK940.out 7; have hfz10_8 := blk_frozen BK940.out 8; have hfz10_9 := blk_frozen BK940.out 9; have hfz10_10 := blk_frozen BK940.out 10; obtain ⟨Ao11, co11, eo11⟩ := Kd.R_slice HO935.out; subst eo11; obtain ⟨Ao12, co12, eo12⟩ := Kd.R_slice HO938.out; subst eo12))
  (try simp only [Act.put, List.setIfInBounds_toArray, List.set_cons_zero, List.set_cons_succ])
  go_cut [36] (fun v36 wc => ∃ (kq : Nat) (x36_6 : Bool), v36 = .bool x36_6 ∧ Aside0 (inner_Fault.j0 kq a0 a1 a2 l3 x36_6 t924 t925 t926 t927 t928 t929 t930 t931 t932 t933 t936 = some (r1, r2)) ∧ Aside0 (kq ≤ k) ∧ Aside0 (Kd.R (Kd.int .u8) 5 wc w.heap.size (fun k_ => some k_ ≠ ((.slice Ao12 t936.length co12) : Value).ownBlock) (.slice Ao11 t933.length co11) t933) ∧ Aside0 (Kd.R (Kd.int .u8) 5 wc w.heap.size (fun k_ => some k_ ≠ ((.slice Ao11 t933.length co11) : Value).ownBlock) (.slice Ao12 t936.length co12) t936) ∧ Aside0 (wc.heap[gb940]? = some (.cells #[.int .i64 t924, .int .i64 t925, .bool t926, .bool t927, .int .i64 t928, .int .i64 t929, .int .i64 t930, .int .u32 t931, .int .u32 t932, (.slice Ao11 t933.length co11), (.slice Ao12 t936.length co12)] 29 (0, 0))) ∧ Aside0 (Below w.heap.size w wc))
  case first =>
   have H := HC7.out
   clear HC7
   by_cases c13 : a0 < 0
   ·rw [if_pos c13] at H
    have c13b0 : decide (a0 < 0) = true := decide_eq_true c13
    clear c13
    (first | rw [c13b0] | (simp only [i64_w, i32_w]; rw [c13b0]) | skip)
    have H' := Aside0.mk H
    clear H
    go_wp2
    go_meet
    case rel => exact ⟨_, (true), (by first | rfl | (simp; done) | (simp [*]; done)), H', ⟨by first | omega | exact Nat.le_refl _⟩, ⟨by (with_reducible repeat (first | apply Kd.R_alloc | apply Kd.R_drewN | apply Kd.R_drew)); exact Kd.R_mono (Kd.R_far (p := ⟨gb940, 10, none⟩) (Kd.R_far (p := ⟨gb940, 9, none⟩) (Kd.R_far (p := ⟨gb940, 8, none⟩) (Kd.R_far (p := ⟨gb940, 7, none⟩) (Kd.R_far (p := ⟨gb940, 6, none⟩) (Kd.R_far (p := ⟨gb940, 5, none⟩) (Kd.R_far (p := ⟨gb940, 4, none⟩) (Kd.R_far (p := ⟨gb940, 3, none⟩) (Kd.R_far (p := ⟨gb940, 2, none⟩) (Kd.R_far (p := ⟨gb940, 1, none⟩) (Kd.R_far (p := ⟨gb940, 0, none⟩) (Kd.R_types HO935.out BK940.out (by decide)) (fun _ hk => hk.2) (.int .i64 t924)) (fun _ hk => hk.2) (.int .i64 t925)) (fun _ hk => hk.2) (.bool t926)) (fun _ hk => hk.2) (.bool t927)) (fun _ hk => hk.2) (.int .i64 t928)) (fun _ hk => hk.2) (.int .i64 t929)) (fun _ hk => hk.2) (.int .i64 t930)) (fun _ hk => hk.2) (.int .u32 t931)) (fun _ hk => hk.2) (.int .u32 t932)) (fun _ hk => hk.2) (.slice Ao11 t933.length co11)) (fun _ hk => hk.2) (.slice Ao12 t936.length co12)) (fun _ hk => hk.1)⟩, ⟨by (with_reducible repeat (first | apply Kd.R_alloc | apply Kd.R_drewN | apply Kd.R_drew)); exact Kd.R_mono (Kd.R_far (p := ⟨gb940, 10, none⟩) (Kd.R_far (p := ⟨gb940, 9, none⟩) (Kd.R_far (p := ⟨gb940, 8, none⟩) (Kd.R_far (p := ⟨gb940, 7, none⟩) (Kd.R_far (p := ⟨gb940, 6, none⟩) (Kd.R_far (p := ⟨gb940, 5, none⟩) (Kd.R_far (p := ⟨gb940, 4, none⟩) (Kd.R_far (p := ⟨gb940, 3, none⟩) (Kd.R_far (p := ⟨gb940, 2, none⟩) (Kd.R_far (p := ⟨gb940, 1, none⟩) (Kd.R_far (p := ⟨gb940, 0, none⟩) (Kd.R_types HO938.out BK940.out (by decide)) (fun _ hk => hk.2) (.int .i64 t924)) (fun _ hk => hk.2) (.int .i64 t925)) (fun _ hk => hk.2) (.bool t926)) (fun _ hk => hk.2) (.bool t927)) (fun _ hk => hk.2) (.int .i64 t928)) (fun _ hk => hk.2) (.int .i64 t929)) (fun _ hk => hk.2) (.int .i64 t930)) (fun _ hk => hk.2) (.int .u32 t931)) (fun _ hk => hk.2) (.int .u32 t932)) (fun _ hk => hk.2) (.slice Ao11 t933.length co11)) (fun _ hk => hk.2) (.slice Ao12 t936.length co12)) (fun _ hk => hk.1)⟩, ⟨by (with_reducible repeat (first | refine blk_drewN ?_ _ | refine blk_drew ?_ | refine blk_alloc ?_ _)); refine blk_put (cs := #[.int .i64 t924, .int .i64 t925, .bool t926, .bool t927, .int .i64 t928, .int .i64 t929, .int .i64 t930, .int .u32 t931, .int .u32 t932, .slice Ao11 t933.length co11, .slice none 0 0]) ?_ 10 _ rfl; (with_reducible repeat (first | refine blk_drewN ?_ _ | refine blk_drew ?_ | refine blk_alloc ?_ _)); refine blk_put (cs := #[.int .i64 t924, .int .i64 t925, .bool t926, .bool t927, .int .i64 t928, .int .i64 t929, .int .i64 t930, .int .u32 t931, .int .u32 t932, .slice none 0 0, .slice none 0 0]) ?_ 9 _ rfl; (with_reducible repeat (first | refine blk_drewN ?_ _ | refine blk_drew ?_ | refine blk_alloc ?_ _)); refine blk_put (cs := #[.int .i64 t924, .int .i64 t925, .bool t926, .bool t927, .int .i64 t928, .int .i64 t929, .int .i64 t930, .int .u32 t931, .int .u32 0, .slice none 0 0, .slice none 0 0]) ?_ 8 _ rfl; (with_reducible repeat (first | refine blk_drewN ?_ _ | refine blk_drew ?_ | refine blk_alloc ?_ _)); refine blk_put (cs := #[.int .i64 t924, .int .i64 t925, .bool t926, .bool t927, .int .i64 t928, .int .i64 t929, .int .i64 t930, .int .u32 0, .int .u32 0, .slice none 0 0, .slice none 0 0]) ?_ 7 _ rfl; (with_reducible repeat (first | refine blk_drewN ?_ _ | refine blk_drew ?_ | refine blk_alloc ?_ _)); refine blk_put (cs := #[.int .i64 t924, .int .i64 t925, .bool t926, .bool t927, .int .i64 t928, .int .i64 t929, .int .i64 0, .int .u32 0, .int .u32 0, .slice none 0 0, .slice none 0 0]) ?_ 6 _ rfl; (with_reducible repeat (first | refine blk_drewN ?_ _ | refine blk_drew ?_ | refine blk_alloc ?_ _)); refine blk_put (cs := #[.int .i64 t924, .int .i64 t925, .bool t926, .bool t927, .int .i64 t928, .int .i64 0, .int .i64 0, .int .u32 0, .int .u32 0, .slice none 0 0, .slice none 0 0]) ?_ 5 _ rfl; (with_reducible repeat (first | refine blk_drewN ?_ _ | refine blk_drew ?_ | refine blk_alloc ?_ _)); refine blk_put (cs := #[.int .i64 t924, .int .i64 t925, .bool t926, .bool t927, .int .i64 0, .int .i64 0, .int .i64 0, .int .u32 0, .int .u32 0, .slice none 0 0, .slice none 0 0]) ?_ 4 _ rfl; (with_reducible repeat (first | refine blk_drewN ?_ _ | refine blk_drew ?_ | refine blk_alloc ?_ _)); refine blk_put (cs := #[.int .i64 t924, .int .i64 t925, .bool t926, .bool false, .int .i64 0, .int .i64 0, .int .i64 0, .int .u32 0, .int .u32 0, .slice none 0 0, .slice none 0 0]) ?_ 3 _ rfl; (with_reducible repeat (first | refine blk_drewN ?_ _ | refine blk_drew ?_ | refine blk_alloc ?_ _)); refine blk_put (cs := #[.int .i64 t924, .int .i64 t925, .bool false, .bool false, .int .i64 0, .int .i64 0, .int .i64 0, .int .u32 0, .int .u32 0, .slice none 0 0, .slice none 0 0]) ?_ 2 _ rfl; (with_reducible repeat (first | refine blk_drewN ?_ _ | refine blk_drew ?_ | refine blk_alloc ?_ _)); refine blk_put (cs := #[.int .i64 t924, .int .i64 0, .bool false, .bool false, .int .i64 0, .int .i64 0, .int .i64 0, .int .u32 0, .int .u32 0, .slice none 0 0, .slice none 0 0]) ?_ 1 _ rfl; (with_reducible repeat (first | refine blk_drewN ?_ _ | refine blk_drew ?_ | refine blk_alloc ?_ _)); refine blk_put (cs := #[.int .i64 0, .int .i64 0, .bool false, .bool false, .int .i64 0, .int .i64 0, .int .i64 0, .int .u32 0, .int .u32 0, .slice none 0 0, .slice none 0 0]) ?_ 0 _ rfl; (with_reducible repeat (first | refine blk_drewN ?_ _ | refine blk_drew ?_ | refine blk_alloc ?_ _)); exact BK940.out⟩, ⟨by repeat (first | (with_reducible first | exact HB.out | apply below_alloc | apply pw_below_drewN | apply below_drew1 | refine below_set ?_ GE940.out) | exact HB.out)⟩⟩
   ·rw [if_neg c13] at H
    have c13b0 : decide (a0 < 0) = false := decide_eq_false c13
    clear c13
    (first | rw [c13b0] | (simp only [i64_w, i32_w]; rw [c13b0]) | skip)
    by_cases c14 : a0 > 255
    ·rw [if_pos c14] at H
     have c14b0 : decide (255 < a0) = true := decide_eq_true c14
     clear c14
     have H' := Aside0.mk H
     clear H
     go_wp2
     go_meet
     case rel => exact ⟨_, (true), (by first | rfl | (simp; done) | (simp [*]; done)), H', ⟨by first | omega | exact Nat.le_refl _⟩, ⟨by (with_reducible repeat (first | apply Kd.R_alloc | apply Kd.R_drewN | apply Kd.R_drew)); exact Kd.R_mono (Kd.R_far (p := ⟨gb940, 10, none⟩) (Kd.R_far (p := ⟨gb940, 9, none⟩) (Kd.R_far (p := ⟨gb940, 8, none⟩) (Kd.R_far (p := ⟨gb940, 7, none⟩) (Kd.R_far (p := ⟨gb940, 6, none⟩) (Kd.R_far (p := ⟨gb940, 5, none⟩) (Kd.R_far (p := ⟨gb940, 4, none⟩) (Kd.R_far (p := ⟨gb940, 3, none⟩) (Kd.R_far (p := ⟨gb940, 2, none⟩) (Kd.R_far (p := ⟨gb940, 1, none⟩) (Kd.R_far (p := ⟨gb940, 0, none⟩) (Kd.R_types HO935.out BK940.out (by decide)) (fun _ hk => hk.2) (.int .i64 t924)) (fun _ hk => hk.2) (.int .i64 t925)) (fun _ hk => hk.2) (.bool t926)) (fun _ hk => hk.2) (.bool t927)) (fun _ hk => hk.2) (.int .i64 t928)) (fun _ hk => hk.2) (.int .i64 t929)) (fun _ hk => hk.2) (.int .i64 t930)) (fun _ hk => hk.2) (.int .u32 t931)) (fun _ hk => hk.2) (.int .u32 t932)) (fun _ hk => hk.2) (.slice Ao11 t933.length co11)) (fun _ hk => hk.2) (.slice Ao12 t936.length co12)) (fun _ hk => hk.1)⟩, ⟨by (with_reducible repeat (first | apply Kd.R_alloc | apply Kd.R_drewN | apply Kd.R_drew)); exact Kd.R_mono (Kd.R_far (p := ⟨gb940, 10, none⟩) (Kd.R_far (p := ⟨gb940, 9, none⟩) (Kd.R_far (p := ⟨gb940, 8, none⟩) (Kd.R_far (p := ⟨gb940, 7, none⟩) (Kd.R_far (p := ⟨gb940, 6, none⟩) (Kd.R_far (p := ⟨gb940, 5, none⟩) (Kd.R_far (p := ⟨gb940, 4, none⟩) (Kd.R_far (p := ⟨gb940, 3, none⟩) (Kd.R_far (p := ⟨gb940, 2, none⟩) (Kd.R_far (p := ⟨gb940, 1, none⟩) (Kd.R_far (p := ⟨gb940, 0, none⟩) (Kd.R_types HO938.out BK940.out (by decide)) (fun _ hk => hk.2) (.int .i64 t924)) (fun _ hk => hk.2) (.int .i64 t925)) (fun _ hk => hk.2) (.bool t926)) (fun _ hk => hk.2) (.bool t927)) (fun _ hk => hk.2) (.int .i64 t928)) (fun _ hk => hk.2) (.int .i64 t929)) (fun _ hk => hk.2) (.int .i64 t930)) (fun _ hk => hk.2) (.int .u32 t931)) (fun _ hk => hk.2) (.int .u32 t932)) (fun _ hk => hk.2) (.slice Ao11 t933.length co11)) (fun _ hk => hk.2) (.slice Ao12 t936.length co12)) (fun _ hk => hk.1)⟩, ⟨by (with_reducible repeat (first | refine blk_drewN ?_ _ | refine blk_drew ?_ | refine blk_alloc ?_ _)); refine blk_put (cs := #[.int .i64 t924, .int .i64 t925, .bool t926, .bool t927, .int .i64 t928, .int .i64 t929, .int .i64 t930, .int .u32 t931, .int .u32 t932, .slice Ao11 t933.length co11, .slice none 0 0]) ?_ 10 _ rfl; (with_reducible repeat (first | refine blk_drewN ?_ _ | refine blk_drew ?_ | refine blk_alloc ?_ _)); refine blk_put (cs := #[.int .i64 t924, .int .i64 t925, .bool t926, .bool t927, .int .i64 t928, .int .i64 t929, .int .i64 t930, .int .u32 t931, .int .u32 t932, .slice none 0 0, .slice none 0 0]) ?_ 9 _ rfl; (with_reducible repeat (first | refine blk_drewN ?_ _ | refine blk_drew ?_ | refine blk_alloc ?_ _)); refine blk_put (cs := #[.int .i64 t924, .int .i64 t925, .bool t926, .bool t927, .int .i64 t928, .int .i64 t929, .int .i64 t930, .int .u32 t931, .int .u32 0, .slice none 0 0, .slice none 0 0]) ?_ 8 _ rfl; (with_reducible repeat (first | refine blk_drewN ?_ _ | refine blk_drew ?_ | refine blk_alloc ?_ _)); refine blk_put (cs := #[.int .i64 t924, .int .i64 t925, .bool t926, .bool t927, .int .i64 t928, .int .i64 t929, .int .i64 t930, .int .u32 0, .int .u32 0, .slice none 0 0, .slice none 0 0]) ?_ 7 _ rfl; (with_reducible repeat (first | refine blk_drewN ?_ _ | refine blk_drew ?_ | refine blk_alloc ?_ _)); refine blk_put (cs := #[.int .i64 t924, .int .i64 t925, .bool t926, .bool t927, .int .i64 t928, .int .i64 t929, .int .i64 0, .int .u32 0, .int .u32 0, .slice none 0 0, .slice none 0 0]) ?_ 6 _ rfl; (with_reducible repeat (first | refine blk_drewN ?_ _ | refine blk_drew ?_ | refine blk_alloc ?_ _)); refine blk_put (cs := #[.int .i64 t924, .int .i64 t925, .bool t926, .bool t927, .int .i64 t928, .int .i64 0, .int .i64 0, .int .u32 0, .int .u32 0, .slice none 0 0, .slice none 0 0]) ?_ 5 _ rfl; (with_reducible repeat (first | refine blk_drewN ?_ _ | refine blk_drew ?_ | refine blk_alloc ?_ _)); refine blk_put (cs := #[.int .i64 t924, .int .i64 t925, .bool t926, .bool t927, .int .i64 0, .int .i64 0, .int .i64 0, .int .u32 0, .int .u32 0, .slice none 0 0, .slice none 0 0]) ?_ 4 _ rfl; (with_reducible repeat (first | refine blk_drewN ?_ _ | refine blk_drew ?_ | refine blk_alloc ?_ _)); refine blk_put (cs := #[.int .i64 t924, .int .i64 t925, .bool t926, .bool false, .int .i64 0, .int .i64 0, .int .i64 0, .int .u32 0, .int .u32 0, .slice none 0 0, .slice none 0 0]) ?_ 3 _ rfl; (with_reducible repeat (first | refine blk_drewN ?_ _ | refine blk_drew ?_ | refine blk_alloc ?_ _)); refine blk_put (cs := #[.int .i64 t924, .int .i64 t925, .bool false, .bool false, .int .i64 0, .int .i64 0, .int .i64 0, .int .u32 0, .int .u32 0, .slice none 0 0, .slice none 0 0]) ?_ 2 _ rfl; (with_reducible repeat (first | refine blk_drewN ?_ _ | refine blk_drew ?_ | refine blk_alloc ?_ _)); refine blk_put (cs := #[.int .i64 t924, .int .i64 0, .bool false, .bool false, .int .i64 0, .int .i64 0, .int .i64 0, .int .u32 0, .int .u32 0, .slice none 0 0, .slice none 0 0]) ?_ 1 _ rfl; (with_reducible repeat (first | refine blk_drewN ?_ _ | refine blk_drew ?_ | refine blk_alloc ?_ _)); refine blk_put (cs := #[.int .i64 0, .int .i64 0, .bool false, .bool false, .int .i64 0, .int .i64 0, .int .i64 0, .int .u32 0, .int .u32 0, .slice none 0 0, .slice none 0 0]) ?_ 0 _ rfl; (with_reducible repeat (first | refine blk_drewN ?_ _ | refine blk_drew ?_ | refine blk_alloc ?_ _)); exact BK940.out⟩, ⟨by repeat (first | (with_reducible first | exact HB.out | apply below_alloc | apply pw_below_drewN | apply below_drew1 | refine below_set ?_ GE940.out) | exact HB.out)⟩⟩
    ·rw [if_neg c14] at H
     have c14b0 : decide (255 < a0) = false := decide_eq_false c14
     clear c14
     by_cases c15 : a1 < 0
     ·rw [if_pos c15] at H
      have c15b0 : decide (a1 < 0) = true := decide_eq_true c15
      clear c15
      have H' := Aside0.mk H
      clear H
      go_wp2
      go_meet
      case rel => exact ⟨_, (true), (by first | rfl | (simp; done) | (simp [*]; done)), H', ⟨by first | omega | exact Nat.le_refl _⟩, ⟨by (with_reducible repeat (first | apply Kd.R_alloc | apply Kd.R_drewN | apply Kd.R_drew)); exact Kd.R_mono (Kd.R_far (p := ⟨gb940, 10, none⟩) (Kd.R_far (p := ⟨gb940, 9, none⟩) (Kd.R_far (p := ⟨gb940, 8, none⟩) (Kd.R_far (p := ⟨gb940, 7, none⟩) (Kd.R_far (p := ⟨gb940, 6, none⟩) (Kd.R_far (p := ⟨gb940, 5, none⟩) (Kd.R_far (p := ⟨gb940, 4, none⟩) (Kd.R_far (p := ⟨gb940, 3, none⟩) (Kd.R_far (p := ⟨gb940, 2, none⟩) (Kd.R_far (p := ⟨gb940, 1, none⟩) (Kd.R_far (p := ⟨gb940, 0, none⟩) (Kd.R_types HO935.out BK940.out (by decide)) (fun _ hk => hk.2) (.int .i64 t924)) (fun _ hk => hk.2) (.int .i64 t925)) (fun _ hk => hk.2) (.bool t926)) (fun _ hk => hk.2) (.bool t927)) (fun _ hk => hk.2) (.int .i64 t928)) (fun _ hk => hk.2) (.int .i64 t929)) (fun _ hk => hk.2) (.int .i64 t930)) (fun _ hk => hk.2) (.int .u32 t931)) (fun _ hk => hk.2) (.int .u32 t932)) (fun _ hk => hk.2) (.slice Ao11 t933.length co11)) (fun _ hk => hk.2) (.slice Ao12 t936.length co12)) (fun _ hk => hk.1)⟩, ⟨by (with_reducible repeat (first | apply Kd.R_alloc | apply Kd.R_drewN | apply Kd.R_drew)); exact Kd.R_mono (Kd.R_far (p := ⟨gb940, 10, none⟩) (Kd.R_far (p := ⟨gb940, 9, none⟩) (Kd.R_far (p := ⟨gb940, 8, none⟩) (Kd.R_far (p := ⟨gb940, 7, none⟩) (Kd.R_far (p := ⟨gb940, 6, none⟩) (Kd.R_far (p := ⟨gb940, 5, none⟩) (Kd.R_far (p := ⟨gb940, 4, none⟩) (Kd.R_far (p := ⟨gb940, 3, none⟩) (Kd.R_far (p := ⟨gb940, 2, none⟩) (Kd.R_far (p := ⟨gb940, 1, none⟩) (Kd.R_far (p := ⟨gb940, 0, none⟩) (Kd.R_types HO938.out BK940.out (by decide)) (fun _ hk => hk.2) (.int .i64 t924)) (fun _ hk => hk.2) (.int .i64 t925)) (fun _ hk => hk.2) (.bool t926)) (fun _ hk => hk.2) (.bool t927)) (fun _ hk => hk.2) (.int .i64 t928)) (fun _ hk => hk.2) (.int .i64 t929)) (fun _ hk => hk.2) (.int .i64 t930)) (fun _ hk => hk.2) (.int .u32 t931)) (fun _ hk => hk.2) (.int .u32 t932)) (fun _ hk => hk.2) (.slice Ao11 t933.length co11)) (fun _ hk => hk.2) (.slice Ao12 t936.length co12)) (fun _ hk => hk.1)⟩, ⟨by (with_reducible repeat (first | refine blk_drewN ?_ _ | refine blk_drew ?_ | refine blk_alloc ?_ _)); refine blk_put (cs := #[.int .i64 t924, .int .i64 t925, .bool t926, .bool t927, .int .i64 t928, .int .i64 t929, .int .i64 t930, .int .u32 t931, .int .u32 t932, .slice Ao11 t933.length co11, .slice none 0 0]) ?_ 10 _ rfl; (with_reducible repeat (first | refine blk_drewN ?_ _ | refine blk_drew ?_ | refine blk_alloc ?_ _)); refine blk_put (cs := #[.int .i64 t924, .int .i64 t925, .bool t926, .bool t927, .int .i64 t928, .int .i64 t929, .int .i64 t930, .int .u32 t931, .int .u32 t932, .slice none 0 0, .slice none 0 0]) ?_ 9 _ rfl; (with_reducible repeat (first | refine blk_drewN ?_ _ | refine blk_drew ?_ | refine blk_alloc ?_ _)); refine blk_put (cs := #[.int .i64 t924, .int .i64 t925, .bool t926, .bool t927, .int .i64 t928, .int .i64 t929, .int .i64 t930, .int .u32 t931, .int .u32 0, .slice none 0 0, .slice none 0 0]) ?_ 8 _ rfl; (with_reducible repeat (first | refine blk_drewN ?_ _ | refine blk_drew ?_ | refine blk_alloc ?_ _)); refine blk_put (cs := #[.int .i64 t924, .int .i64 t925, .bool t926, .bool t927, .int .i64 t928, .int .i64 t929, .int .i64 t930, .int .u32 0, .int .u32 0, .slice none 0 0, .slice none 0 0]) ?_ 7 _ rfl; (with_reducible repeat (first | refine blk_drewN ?_ _ | refine blk_drew ?_ | refine blk_alloc ?_ _)); refine blk_put (cs := #[.int .i64 t924, .int .i64 t925, .bool t926, .bool t927, .int .i64 t928, .int .i64 t929, .int .i64 0, .int .u32 0, .int .u32 0, .slice none 0 0, .slice none 0 0]) ?_ 6 _ rfl; (with_reducible repeat (first | refine blk_drewN ?_ _ | refine blk_drew ?_ | refine blk_alloc ?_ _)); refine blk_put (cs := #[.int .i64 t924, .int .i64 t925, .bool t926, .bool t927, .int .i64 t928, .int .i64 0, .int .i64 0, .int .u32 0, .int .u32 0, .slice none 0 0, .slice none 0 0]) ?_ 5 _ rfl; (with_reducible repeat (first | refine blk_drewN ?_ _ | refine blk_drew ?_ | refine blk_alloc ?_ _)); refine blk_put (cs := #[.int .i64 t924, .int .i64 t925, .bool t926, .bool t927, .int .i64 0, .int .i64 0, .int .i64 0, .int .u32 0, .int .u32 0, .slice none 0 0, .slice none 0 0]) ?_ 4 _ rfl; (with_reducible repeat (first | refine blk_drewN ?_ _ | refine blk_drew ?_ | refine blk_alloc ?_ _)); refine blk_put (cs := #[.int .i64 t924, .int .i64 t925, .bool t926, .bool false, .int .i64 0, .int .i64 0, .int .i64 0, .int .u32 0, .int .u32 0, .slice none 0 0, .slice none 0 0]) ?_ 3 _ rfl; (with_reducible repeat (first | refine blk_drewN ?_ _ | refine blk_drew ?_ | refine blk_alloc ?_ _)); refine blk_put (cs := #[.int .i64 t924, .int .i64 t925, .bool false, .bool false, .int .i64 0, .int .i64 0, .int .i64 0, .int .u32 0, .int .u32 0, .slice none 0 0, .slice none 0 0]) ?_ 2 _ rfl; (with_reducible repeat (first | refine blk_drewN ?_ _ | refine blk_drew ?_ | refine blk_alloc ?_ _)); refine blk_put (cs := #[.int .i64 t924, .int .i64 0, .bool false, .bool false, .int .i64 0, .int .i64 0, .int .i64 0, .int .u32 0, .int .u32 0, .slice none 0 0, .slice none 0 0]) ?_ 1 _ rfl; (with_reducible repeat (first | refine blk_drewN ?_ _ | refine blk_drew ?_ | refine blk_alloc ?_ _)); refine blk_put (cs := #[.int .i64 0, .int .i64 0, .bool false, .bool false, .int .i64 0, .int .i64 0, .int .i64 0, .int .u32 0, .int .u32 0, .slice none 0 0, .slice none 0 0]) ?_ 0 _ rfl; (with_reducible repeat (first | refine blk_drewN ?_ _ | refine blk_drew ?_ | refine blk_alloc ?_ _)); exact BK940.out⟩, ⟨by repeat (first | (with_reducible first | exact HB.out | apply below_alloc | apply pw_below_drewN | apply below_drew1 | refine below_set ?_ GE940.out) | exact HB.out)⟩⟩
     ·rw [if_neg c15] at H
      have c15b0 : decide (a1 < 0) = false := decide_eq_false c15
      clear c15
      have H' := Aside0.mk H
      clear H
      go_wp2
      go_meet
      case rel => exact ⟨_, (decide (a1 > 255)), (by first | rfl | (simp; done) | (simp [*]; done)), H', ⟨by first | omega | exact Nat.le_refl _⟩, ⟨by (with_reducible repeat (first | apply Kd.R_alloc | apply Kd.R_drewN | apply Kd.R_drew)); exact Kd.R_mono (Kd.R_far (p := ⟨gb940, 10, none⟩) (Kd.R_far (p := ⟨gb940, 9, none⟩) (Kd.R_far (p := ⟨gb940, 8, none⟩) (Kd.R_far (p := ⟨gb940, 7, none⟩) (Kd.R_far (p := ⟨gb940, 6, none⟩) (Kd.R_far (p := ⟨gb940, 5, none⟩) (Kd.R_far (p := ⟨gb940, 4, none⟩) (Kd.R_far (p := ⟨gb940, 3, none⟩) (Kd.R_far (p := ⟨gb940, 2, none⟩) (Kd.R_far (p := ⟨gb940, 1, none⟩) (Kd.R_far (p := ⟨gb940, 0, none⟩) (Kd.R_types HO935.out BK940.out (by decide)) (fun _ hk => hk.2) (.int .i64 t924)) (fun _ hk => hk.2) (.int .i64 t925)) (fun _ hk => hk.2) (.bool t926)) (fun _ hk => hk.2) (.bool t927)) (fun _ hk => hk.2) (.int .i64 t928)) (fun _ hk => hk.2) (.int .i64 t929)) (fun _ hk => hk.2) (.int .i64 t930)) (fun _ hk => hk.2) (.int .u32 t931)) (fun _ hk => hk.2) (.int .u32 t932)) (fun _ hk => hk.2) (.slice Ao11 t933.length co11)) (fun _ hk => hk.2) (.slice Ao12 t936.length co12)) (fun _ hk => hk.1)⟩, ⟨by (with_reducible repeat (first | apply Kd.R_alloc | apply Kd.R_drewN | apply Kd.R_drew)); exact Kd.R_mono (Kd.R_far (p := ⟨gb940, 10, none⟩) (Kd.R_far (p := ⟨gb940, 9, none⟩) (Kd.R_far (p := ⟨gb940, 8, none⟩) (Kd.R_far (p := ⟨gb940, 7, none⟩) (Kd.R_far (p := ⟨gb940, 6, none⟩) (Kd.R_far (p := ⟨gb940, 5, none⟩) (Kd.R_far (p := ⟨gb940, 4, none⟩) (Kd.R_far (p := ⟨gb940, 3, none⟩) (Kd.R_far (p := ⟨gb940, 2, none⟩) (Kd.R_far (p := ⟨gb940, 1, none⟩) (Kd.R_far (p := ⟨gb940, 0, none⟩) (Kd.R_types HO938.out BK940.out (by decide)) (fun _ hk => hk.2) (.int .i64 t924)) (fun _ hk => hk.2) (.int .i64 t925)) (fun _ hk => hk.2) (.bool t926)) (fun _ hk => hk.2) (.bool t927)) (fun _ hk => hk.2) (.int .i64 t928)) (fun _ hk => hk.2) (.int .i64 t929)) (fun _ hk => hk.2) (.int .i64 t930)) (fun _ hk => hk.2) (.int .u32 t931)) (fun _ hk => hk.2) (.int .u32 t932)) (fun _ hk => hk.2) (.slice Ao11 t933.length co11)) (fun _ hk => hk.2) (.slice Ao12 t936.length co12)) (fun _ hk => hk.1)⟩, ⟨by (with_reducible repeat (first | refine blk_drewN ?_ _ | refine blk_drew ?_ | refine blk_alloc ?_ _)); refine blk_put (cs := #[.int .i64 t924, .int .i64 t925, .bool t926, .bool t927, .int .i64 t928, .int .i64 t929, .int .i64 t930, .int .u32 t931, .int .u32 t932, .slice Ao11 t933.length co11, .slice none 0 0]) ?_ 10 _ rfl; (with_reducible repeat (first | refine blk_drewN ?_ _ | refine blk_drew ?_ | refine blk_alloc ?_ _)); refine blk_put (cs := #[.int .i64 t924, .int .i64 t925, .bool t926, .bool t927, .int .i64 t928, .int .i64 t929, .int .i64 t930, .int .u32 t931, .int .u32 t932, .slice none 0 0, .slice none 0 0]) ?_ 9 _ rfl; (with_reducible repeat (first | refine blk_drewN ?_ _ | refine blk_drew ?_ | refine blk_alloc ?_ _)); refine blk_put (cs := #[.int .i64 t924, .int .i64 t925, .bool t926, .bool t927, .int .i64 t928, .int .i64 t929, .int .i64 t930, .int .u32 t931, .int .u32 0, .slice none 0 0, .slice none 0 0]) ?_ 8 _ rfl; (with_reducible repeat (first | refine blk_drewN ?_ _ | refine blk_drew ?_ | refine blk_alloc ?_ _)); refine blk_put (cs := #[.int .i64 t924, .int .i64 t925, .bool t926, .bool t927, .int .i64 t928, .int .i64 t929, .int .i64 t930, .int .u32 0, .int .u32 0, .slice none 0 0, .slice none 0 0]) ?_ 7 _ rfl; (with_reducible repeat (first | refine blk_drewN ?_ _ | refine blk_drew ?_ | refine blk_alloc ?_ _)); refine blk_put (cs := #[.int .i64 t924, .int .i64 t925, .bool t926, .bool t927, .int .i64 t928, .int .i64 t929, .int .i64 0, .int .u32 0, .int .u32 0, .slice none 0 0, .slice none 0 0]) ?_ 6 _ rfl; (with_reducible repeat (first | refine blk_drewN ?_ _ | refine blk_drew ?_ | refine blk_alloc ?_ _)); refine blk_put (cs := #[.int .i64 t924, .int .i64 t925, .bool t926, .bool t927, .int .i64 t928, .int .i64 0, .int .i64 0, .int .u32 0, .int .u32 0, .slice none 0 0, .slice none 0 0]) ?_ 5 _ rfl; (with_reducible repeat (first | refine blk_drewN ?_ _ | refine blk_drew ?_ | refine blk_alloc ?_ _)); refine blk_put (cs := #[.int .i64 t924, .int .i64 t925, .bool t926, .bool t927, .int .i64 0, .int .i64 0, .int .i64 0, .int .u32 0, .int .u32 0, .slice none 0 0, .slice none 0 0]) ?_ 4 _ rfl; (with_reducible repeat (first | refine blk_drewN ?_ _ | refine blk_drew ?_ | refine blk_alloc ?_ _)); refine blk_put (cs := #[.int .i64 t924, .int .i64 t925, .bool t926, .bool false, .int .i64 0, .int .i64 0, .int .i64 0, .int .u32 0, .int .u32 0, .slice none 0 0, .slice none 0 0]) ?_ 3 _ rfl; (with_reducible repeat (first | refine blk_drewN ?_ _ | refine blk_drew ?_ | refine blk_alloc ?_ _)); refine blk_put (cs := #[.int .i64 t924, .int .i64 t925, .bool false, .bool false, .int .i64 0, .int .i64 0, .int .i64 0, .int .u32 0, .int .u32 0, .slice none 0 0, .slice none 0 0]) ?_ 2 _ rfl; (with_reducible repeat (first | refine blk_drewN ?_ _ | refine blk_drew ?_ | refine blk_alloc ?_ _)); refine blk_put (cs := #[.int .i64 t924, .int .i64 0, .bool false, .bool false, .int .i64 0, .int .i64 0, .int .i64 0, .int .u32 0, .int .u32 0, .slice none 0 0, .slice none 0 0]) ?_ 1 _ rfl; (with_reducible repeat (first | refine blk_drewN ?_ _ | refine blk_drew ?_ | refine blk_alloc ?_ _)); refine blk_put (cs := #[.int .i64 0, .int .i64 0, .bool false, .bool false, .int .i64 0, .int .i64 0, .int .i64 0, .int .u32 0, .int .u32 0, .slice none 0 0, .slice none 0 0]) ?_ 0 _ rfl; (with_reducible repeat (first | refine blk_drewN ?_ _ | refine blk_drew ?_ | refine blk_alloc ?_ _)); exact BK940.out⟩, ⟨by repeat (first | (with_reducible first | exact HB.out | apply below_alloc | apply pw_below_drewN | apply below_drew1 | refine below_set ?_ GE940.out) | exact HB.out)⟩⟩
  case rest =>
   clear HC7
   try clear c1
   try clear p2
   try clear c3
   try clear c4
   try clear c6
   try clear c6b0
   try clear c6b1
   try clear c13
   try clear c13b0
   try clear c14
   try clear c14b0
   try clear c15
   try clear c15b0
   try clear hcz10_0
   try clear hcz10_1
   try clear hcz10_10
   try clear hcz10_2
   try clear hcz10_3
   try clear hcz10_4
   try clear hcz10_5
   try clear hcz10_6
   try clear hcz10_7
   try clear hcz10_8
   try clear hcz10_9
   try clear hfz10_0
   try clear hfz10_1
   try clear hfz10_10
   try clear hfz10_2
   try clear hfz10_3
   try clear hfz10_4
   try clear hfz10_5
   try clear hfz10_6
   try clear hfz10_7
   try clear hfz10_8
   try clear hfz10_9
   obtain ⟨kq, x36_6, rfl, HA, HJ6, HO_941009, HO_941010, BK940, HB⟩ := hcut
   cases kq with
   | zero => exact absurd HA.out (by simp [inner_Fault.j0])
   | succ kj6 =>
    have H := HA.out
    clear HA
    simp only [inner_Fault.j0] at H
    by_cases c16 : x36_6 = true
    ·subst c16
     have H1 : (some (([] : List Int), 1)) = some (r1, r2) := by rw [if_pos rfl] at H; exact H
     clear H
     have H := H1
     clear H1
     simp only [Option.some.injEq, Prod.mk.injEq] at H
     obtain ⟨rfl, rfl⟩ := H
     go_wp2
     go_ret2
     exact ⟨_, by first | rfl | (simp [errW_none, errW_some] <;> rfl) | (simp [*, errW_none, errW_some] <;> rfl), by first | exact Kd.R_nil _ _ _ _ _ | exact Kd.N_nil _ _ _ _ _ | exact Kd.V_nil _ _ _ _ _ | exact Kd.Q_nil _ _ _ _ _ | exact Kd.S_nil _ _ _ _ _, by repeat (first | (with_reducible first | exact HB.out | apply below_alloc | apply pw_below_drewN | apply below_drew1 | refine below_set ?_ GE940.out) | exact HB.out)⟩
    ·replace c16 := Bool.eq_false_iff.mpr c16
     subst c16
     have H1 : (if t928 = 0 then ((inner_fault.f t924 t925 t926 t927 t928 t929 t930 t931 t932 t933 t936).bind fun t941 => (inner_Fault.j1 kj6 a0 a1 a2 l3 t941 t924 t925 t926 t927 t928 t929 t930 t931 t932 t933 t936)) else (inner_Fault.j1 kj6 a0 a1 a2 l3 true t924 t925 t926 t927 t928 t929 t930 t931 t932 t933 t936)) = some (r1, r2) := by rw [if_neg (show ¬ (false = true) by decide)] at H; exact H
     clear H
     have H := H1
     clear H1
     have HC17 := Aside0.mk H
     clear H
     go_upto_region 6 with (fail)
     go_cut [43] (fun v43 wc => ∃ (kq : Nat) (x43_16 : Bool), v43 = .bool x43_16 ∧ Aside0 (inner_Fault.j1 kq a0 a1 a2 l3 x43_16 t924 t925 t926 t927 t928 t929 t930 t931 t932 t933 t936 = some (r1, r2)) ∧ Aside0 (kq ≤ kj6) ∧ Aside0 (Kd.R (Kd.int .u8) 5 wc w.heap.size (fun k_ => some k_ ≠ ((.slice Ao12 t936.length co12) : Value).ownBlock) (.slice Ao11 t933.length co11) t933) ∧ Aside0 (Kd.R (Kd.int .u8) 5 wc w.heap.size (fun k_ => some k_ ≠ ((.slice Ao11 t933.length co11) : Value).ownBlock) (.slice Ao12 t936.length co12) t936) ∧ Aside0 (wc.heap[gb940]? = some (.cells #[.int .i64 t924, .int .i64 t925, .bool t926, .bool t927, .int .i64 t928, .int .i64 t929, .int .i64 t930, .int .u32 t931, .int .u32 t932, (.slice Ao11 t933.length co11), (.slice Ao12 t936.length co12)] 29 (0, 0))) ∧ Aside0 (Below w.heap.size w wc))
     case first =>
      have H := HC17.out
      clear HC17
      by_cases c18 : t928 = 0
      ·rw [if_pos c18] at H
       have c18b0 : (t928 == 0) = true := beq_iff_eq.mpr c18
       have c18b1 : (t928 != 0) = false := bne_eq_false_iff_eq.mpr c18
       clear c18
       (first | rw [c18b0] | (simp only [i64_w, i32_w]; rw [c18b0]) | skip)
       replace H := Option.bind_eq_some_iff.mp H
       obtain ⟨t941, A190, H⟩ := H
       replace H : (inner_Fault.j1 kj6 a0 a1 a2 l3 t941 t924 t925 t926 t927 t928 t929 t930 t931 t932 t933 t936) = some (r1, r2) := H
       have A19 := Aside0.mk A190
       clear A190
       have H' := Aside0.mk H
       clear H
       have hcz20_0 : wc.cell? ⟨gb940, 0, none⟩ = some (.int .i64 t924) := (blk_cell BK940.out 0).trans rfl
       have hcz20_1 : wc.cell? ⟨gb940, 1, none⟩ = some (.int .i64 t925) := (blk_cell BK940.out 1).trans rfl
       have hcz20_2 : wc.cell? ⟨gb940, 2, none⟩ = some (.bool t926) := (blk_cell BK940.out 2).trans rfl
       have hcz20_3 : wc.cell? ⟨gb940, 3, none⟩ = some (.bool t927) := (blk_cell BK940.out 3).trans rfl
       have hcz20_4 : wc.cell? ⟨gb940, 4, none⟩ = some (.int .i64 t928) := (blk_cell BK940.out 4).trans rfl
       have hcz20_5 : wc.cell? ⟨gb940, 5, none⟩ = some (.int .i64 t929) := (blk_cell BK940.out 5).trans rfl
       have hcz20_6 : wc.cell? ⟨gb940, 6, none⟩ = some (.int .i64 t930) := (blk_cell BK940.out 6).trans rfl
       have hcz20_7 : wc.cell? ⟨gb940, 7, none⟩ = some (.int .u32 t931) := (blk_cell BK940.out 7).trans rfl
       have hcz20_8 : wc.cell? ⟨gb940, 8, none⟩ = some (.int .u32 t932) := (blk_cell BK940.out 8).trans rfl
       have hcz20_9 : wc.cell? ⟨gb940, 9, none⟩ = some (.slice Ao11 t933.length co11) := (blk_cell BK940.out 9).trans rfl
       have hcz20_10 : wc.cell? ⟨gb940, 10, none⟩ = some (.slice Ao12 t936.length co12) := (blk_cell BK940.out 10).trans rfl
       have hfz20_0 := blk_frozen BK940.out 0
       have hfz20_1 := blk_frozen BK940.out 1
       have hfz20_2 := blk_frozen BK940.out 2
       have hfz20_3 := blk_frozen BK940.out 3
       have hfz20_4 := blk_frozen BK940.out 4
       have hfz20_5 := blk_frozen BK940.out 5
       have hfz20_6 := blk_frozen BK940.out 6
       have hfz20_7 := blk_frozen BK940.out 7
       have hfz20_8 := blk_frozen BK940.out 8
       have hfz20_9 := blk_frozen BK940.out 9
       have hfz20_10 := blk_frozen BK940.out 10
       go_wp2_with (first | (go_at_call 89; (with_reducible refine (inner_fault.calls t924 t925 t926 t927 t928 t929 t930 t931 t932 _ _ t933 _ _ t936 t941 _ ?side1 ?side2 ?side3 ?side4 A19.out).mono ?_); (case side1 => repeat (first | exact (Kd.R_reads' HO_941009.out).2.2 | (with_reducible refine Kd.C_alloc ?_ _) | (with_reducible refine Kd.C_drewN ?_ _) | (with_reducible refine Kd.C_drew ?_))); (case side2 => exact (Kd.R_reads' HO_941009.out).2.1); (case side3 => repeat (first | exact (Kd.R_reads' HO_941010.out).2.2 | (with_reducible refine Kd.C_alloc ?_ _) | (with_reducible refine Kd.C_drewN ?_ _) | (with_reducible refine Kd.C_drew ?_))); (case side4 => exact (Kd.R_reads' HO_941010.out).2.1); rintro e w21 ⟨rfl, hb⟩; have n0_ := Aside0.mk (Kd.R_below (by (with_reducible repeat (first | apply Kd.R_alloc | apply Kd.R_drewN | apply Kd.R_drew)); exact HO_941009.out) hb); have n1_ := Aside0.mk (Kd.R_below (by (with_reducible repeat (first | apply Kd.R_alloc | apply Kd.R_drewN | apply Kd.R_drew)); exact HO_941010.out) hb); have n2_ := Aside0.mk (blk_below (g := gb940) (o := .cells #[.int .i64 t924, .int .i64 t925, .bool t926, .bool t927, .int .i64 t928, .int .i64 t929, .int .i64 t930, .int .u32 t931, .int .u32 t932, .slice Ao11 t933.length co11, .slice Ao12 t936.length co12] 29 (0, 0)) (by (with_reducible repeat (first | refine blk_drewN ?_ _ | refine blk_drew ?_ | refine blk_alloc ?_ _)); exact BK940.out) hb); have n3_ := Aside0.mk (below_step (by repeat (first | (with_reducible first | exact HB.out | apply below_alloc | apply pw_below_drewN | apply below_drew1 | refine below_set ?_ GE940.out) | exact HB.out)) hb); clear HO_941009; clear HO_941010; clear BK940; clear HB; have HO_941009 := n0_; have HO_941010 := n1_; have BK940 := n2_; have HB := n3_; clear n0_ n1_ n2_ n3_; (try clear hb); (try clear hb2); (try clear hk); (try clear hi)))
       go_meet
       case rel => exact ⟨_, (t941), (by first | rfl | (simp; done) | (simp [*]; done)), H', ⟨by have := HJ6.out; first | omega | exact Nat.le_refl _⟩, ⟨by (with_reducible repeat (first | apply Kd.R_alloc | apply Kd.R_drewN | apply Kd.R_drew)); exact HO_941009.out⟩, ⟨by (with_reducible repeat (first | apply Kd.R_alloc | apply Kd.R_drewN | apply Kd.R_drew)); exact HO_941010.out⟩, ⟨by (with_reducible repeat (first | refine blk_drewN ?_ _ | refine blk_drew ?_ | refine blk_alloc ?_ _)); exact BK940.out⟩, ⟨by repeat (first | (with_reducible first | exact HB.out | apply below_alloc | apply pw_below_drewN | apply below_drew1 | refine below_set ?_ GE940.out) | exact HB.out)⟩⟩
      ·rw [if_neg c18] at H
       have c18b0 : (t928 == 0) = false := beq_eq_false_iff_ne.mpr c18
       have c18b1 : (t928 != 0) = true := bne_iff_ne.mpr c18
       (first | rw [c18b0] | (simp only [i64_w, i32_w]; rw [c18b0]) | skip)
       have H' := Aside0.mk H
       clear H
       have hcz22_0 : wc.cell? ⟨gb940, 0, none⟩ = some (.int .i64 t924) := (blk_cell BK940.out 0).trans rfl
       have hcz22_1 : wc.cell? ⟨gb940, 1, none⟩ = some (.int .i64 t925) := (blk_cell BK940.out 1).trans rfl
       have hcz22_2 : wc.cell? ⟨gb940, 2, none⟩ = some (.bool t926) := (blk_cell BK940.out 2).trans rfl
       have hcz22_3 : wc.cell? ⟨gb940, 3, none⟩ = some (.bool t927) := (blk_cell BK940.out 3).trans rfl
       have hcz22_4 : wc.cell? ⟨gb940, 4, none⟩ = some (.int .i64 t928) := (blk_cell BK940.out 4).trans rfl
       have hcz22_5 : wc.cell? ⟨gb940, 5, none⟩ = some (.int .i64 t929) := (blk_cell BK940.out 5).trans rfl
       have hcz22_6 : wc.cell? ⟨gb940, 6, none⟩ = some (.int .i64 t930) := (blk_cell BK940.out 6).trans rfl
       have hcz22_7 : wc.cell? ⟨gb940, 7, none⟩ = some (.int .u32 t931) := (blk_cell BK940.out 7).trans rfl
       have hcz22_8 : wc.cell? ⟨gb940, 8, none⟩ = some (.int .u32 t932) := (blk_cell BK940.out 8).trans rfl
       have hcz22_9 : wc.cell? ⟨gb940, 9, none⟩ = some (.slice Ao11 t933.length co11) := (blk_cell BK940.out 9).trans rfl
       have hcz22_10 : wc.cell? ⟨gb940, 10, none⟩ = some (.slice Ao12 t936.length co12) := (blk_cell BK940.out 10).trans rfl
       have hfz22_0 := blk_frozen BK940.out 0
       have hfz22_1 := blk_frozen BK940.out 1
       have hfz22_2 := blk_frozen BK940.out 2
       have hfz22_3 := blk_frozen BK940.out 3
       have hfz22_4 := blk_frozen BK940.out 4
       have hfz22_5 := blk_frozen BK940.out 5
       have hfz22_6 := blk_frozen BK940.out 6
       have hfz22_7 := blk_frozen BK940.out 7
       have hfz22_8 := blk_frozen BK940.out 8
       have hfz22_9 := blk_frozen BK940.out 9
       have hfz22_10 := blk_frozen BK940.out 10
       go_wp2
       go_meet
       case rel => exact ⟨_, (true), (by first | rfl | (simp; done) | (simp [*]; done)), H', ⟨by have := HJ6.out; first | omega | exact Nat.le_refl _⟩, ⟨by (with_reducible repeat (first | apply Kd.R_alloc | apply Kd.R_drewN | apply Kd.R_drew)); exact HO_941009.out⟩, ⟨by (with_reducible repeat (first | apply Kd.R_alloc | apply Kd.R_drewN | apply Kd.R_drew)); exact HO_941010.out⟩, ⟨by (with_reducible repeat (first | refine blk_drewN ?_ _ | refine blk_drew ?_ | refine blk_alloc ?_ _)); exact BK940.out⟩, ⟨by repeat (first | (with_reducible first | exact HB.out | apply below_alloc | apply pw_below_drewN | apply below_drew1 | refine below_set ?_ GE940.out) | exact HB.out)⟩⟩
     case rest =>
      clear HC17
      try clear c1
      try clear p2
      try clear c3
      try clear c4
      try clear c6
      try clear c6b0
      try clear c6b1
      try clear c13
      try clear c13b0
      try clear c14
      try clear c14b0
      try clear c15
      try clear c15b0
      try clear c16
      try clear c18
      try clear c18b0
      try clear c18b1
      try clear hcz10_0
      try clear hcz10_1
      try clear hcz10_10
      try clear hcz10_2
      try clear hcz10_3
      try clear hcz10_4
      try clear hcz10_5
      try clear hcz10_6
      try clear hcz10_7
      try clear hcz10_8
      try clear hcz10_9
      try clear hcz20_0
      try clear hcz20_1
      try clear hcz20_10
      try clear hcz20_2
      try clear hcz20_3
      try clear hcz20_4
      try clear hcz20_5
      try clear hcz20_6
      try clear hcz20_7
      try clear hcz20_8
      try clear hcz20_9
      try clear hcz22_0
      try clear hcz22_1
      try clear hcz22_10
      try clear hcz22_2
      try clear hcz22_3
      try clear hcz22_4
      try clear hcz22_5
      try clear hcz22_6
      try clear hcz22_7
      try clear hcz22_8
      try clear hcz22_9
      try clear hfz10_0
      try clear hfz10_1
      try clear hfz10_10
      try clear hfz10_2
      try clear hfz10_3
      try clear hfz10_4
      try clear hfz10_5
      try clear hfz10_6
      try clear hfz10_7
      try clear hfz10_8
      try clear hfz10_9
      try clear hfz20_0
      try clear hfz20_1
      try clear hfz20_10
      try clear hfz20_2
      try clear hfz20_3
      try clear hfz20_4
      try clear hfz20_5
      try clear hfz20_6
      try clear hfz20_7
      try clear hfz20_8
      try clear hfz20_9
      try clear hfz22_0
      try clear hfz22_1
      try clear hfz22_10
      try clear hfz22_2
      try clear hfz22_3
      try clear hfz22_4
      try clear hfz22_5
      try clear hfz22_6
      try clear hfz22_7
      try clear hfz22_8
      try clear hfz22_9
      try clear p2
      obtain ⟨kq, x43_16, rfl, HA, HJ16, HO_941009, HO_941010, BK940, HB⟩ := hcut
      cases kq with
      | zero => exact absurd HA.out (by simp [inner_Fault.j1])
      | succ kj16 =>
       have H := HA.out
       clear HA
       simp only [inner_Fault.j1] at H
       by_cases c23 : x43_16 = true
       ·subst c23
        have H1 : (some (([] : List Int), 12)) = some (r1, r2) := by rw [if_pos rfl] at H; exact H
        clear H
        have H := H1
        clear H1
        simp only [Option.some.injEq, Prod.mk.injEq] at H
        obtain ⟨rfl, rfl⟩ := H
        go_wp2
        go_ret2
        exact ⟨_, by first | rfl | (simp [errW_none, errW_some] <;> rfl) | (simp [*, errW_none, errW_some] <;> rfl), by first | exact Kd.R_nil _ _ _ _ _ | exact Kd.N_nil _ _ _ _ _ | exact Kd.V_nil _ _ _ _ _ | exact Kd.Q_nil _ _ _ _ _ | exact Kd.S_nil _ _ _ _ _, by repeat (first | (with_reducible first | exact HB.out | apply below_alloc | apply pw_below_drewN | apply below_drew1 | refine below_set ?_ GE940.out) | exact HB.out)⟩
       ·replace c23 := Bool.eq_false_iff.mpr c23
        subst c23
        have H1 : (if 0 < (l3.length : Int) then (if 0 ≤ (wrap64 ((wrap64 ((wrap64 (Go.bits .and .u8 (rd l3 0) 15)) * 4)) + (mn (t936.length : Int) 8))) then (if (wrap64 ((wrap64 ((wrap64 (Go.bits .and .u8 (rd l3 0) 15)) * 4)) + (mn (t936.length : Int) 8))) ≤ (l3.length : Int) then (if ([] : List Int).length + (l3.take ((wrap64 ((wrap64 ((wrap64 (Go.bits .and .u8 (rd l3 0) 15)) * 4)) + (mn (t936.length : Int) 8))) : Int).toNat).length < 140737488355328 then ((icmp_Build.f kj16 a0 a1 0 (([] : List Int) ++ (l3.take ((wrap64 ((wrap64 ((wrap64 (Go.bits .and .u8 (rd l3 0) 15)) * 4)) + (mn (t936.length : Int) 8))) : Int).toNat))).bind fun bt947 => ((ip_Build.f 0 0 false false 0 64 1 a2 t931 ([] : List Int) bt947.1).bind fun bt951 => (some (bt951.1, bt951.2)))) else (none)) else (none)) else (none)) else (none)) = some (r1, r2) := by rw [if_neg (show ¬ (false = true) by decide)] at H; exact H
        clear H
        have H := H1
        clear H1
        by_cases c24 : 0 < (l3.length : Int)
        ·rw [if_pos c24] at H
         have c24b0 : decide (0 < (l3.length : Int)) = true := decide_eq_true c24
         have c24b1 : decide (0 < l3.length) = true := decide_eq_true (by omega)
         clear c24
         obtain ⟨ji25, hji25⟩ : ∃ j_ : Int, (mn (t936.length : Int) 8) = j_ := ⟨_, rfl⟩
         replace H : (if 0 ≤ (wrap64 ((wrap64 ((wrap64 (Go.bits .and .u8 (rd l3 0) 15)) * 4)) + (ji25))) then (if (wrap64 ((wrap64 ((wrap64 (Go.bits .and .u8 (rd l3 0) 15)) * 4)) + (ji25))) ≤ (l3.length : Int) then (if ([] : List Int).length + (l3.take ((wrap64 ((wrap64 ((wrap64 (Go.bits .and .u8 (rd l3 0) 15)) * 4)) + (ji25))) : Int).toNat).length < 140737488355328 then ((icmp_Build.f kj16 a0 a1 0 (([] : List Int) ++ (l3.take ((wrap64 ((wrap64 ((wrap64 (Go.bits .and .u8 (rd l3 0) 15)) * 4)) + (ji25))) : Int).toNat))).bind fun bt947 => ((ip_Build.f 0 0 false false 0 64 1 a2 t931 ([] : List Int) bt947.1).bind fun bt951 => (some (bt951.1, bt951.2)))) else (none)) else (none)) else (none)) = some (r1, r2) := by first | (rw [hji25] at H; exact H) | (simp only [hji25] at H ⊢; exact H)
         have hji25_ : (if 8 < (t936.length : Int) then 8 else (t936.length : Int)) = ji25 := hji25
         obtain ⟨ji26, hji26⟩ : ∃ j_ : Int, (wrap64 ((wrap64 ((wrap64 (Go.bits .and .u8 (rd l3 0) 15)) * 4)) + (ji25))) = j_ := ⟨_, rfl⟩
         replace H : (if 0 ≤ (ji26) then (if (ji26) ≤ (l3.length : Int) then (if ([] : List Int).length + (l3.take ((ji26) : Int).toNat).length < 140737488355328 then ((icmp_Build.f kj16 a0 a1 0 (([] : List Int) ++ (l3.take ((ji26) : Int).toNat))).bind fun bt947 => ((ip_Build.f 0 0 false false 0 64 1 a2 t931 ([] : List Int) bt947.1).bind fun bt951 => (some (bt951.1, bt951.2)))) else (none)) else (none)) else (none)) = some (r1, r2) := by first | (rw [hji26] at H; exact H) | (simp only [hji26] at H ⊢; exact H)
         have hji26w : (IntKind.i64.wrap ((wrap64 ((wrap64 (Go.bits .and .u8 (rd l3 0) 15)) * 4)) + (ji25))) = ji26 := (i64_w _).trans hji26
         by_cases c27 : 0 ≤ (ji26)
         ·rw [if_pos c27] at H
          have c27b0 := eq_true c27
          have c27b1 : decide (0 ≤ (ji26)) = true := decide_eq_true c27
          clear c27
          by_cases c28 : (ji26) ≤ (l3.length : Int)
          ·rw [if_pos c28] at H
           have c28b0 := eq_true c28
           have c28b1 : decide ((ji26) ≤ (l3.length : Int)) = true := decide_eq_true c28
           clear c28
           by_cases c29 : ([] : List Int).length + (l3.take ((ji26) : Int).toNat).length < 140737488355328
           ·rw [if_pos c29] at H
            have LMc29 := Aside0.mk c29
            clear c29
            obtain ⟨y944, hy944⟩ : ∃ y_ : List Int, y_ = (([] : List Int) ++ (l3.take ((ji26) : Int).toNat)) := ⟨_, rfl⟩
            replace H : ((icmp_Build.f kj16 a0 a1 0 y944).bind fun bt947 => ((ip_Build.f 0 0 false false 0 64 1 a2 t931 ([] : List Int) bt947.1).bind fun bt951 => (some (bt951.1, bt951.2)))) = some (r1, r2) := by first | (rw [hy944]; with_reducible exact H) | (have H2_ := (Option.bind_some _ _).symm.trans H; rw [hy944]; with_reducible exact H2_) | (have H2_ := (Option.bind_some _ _).symm.trans H; with_reducible exact H2_) | with_reducible exact H | (rw [hy944]; exact H) | exact H
            have Ny944 := Aside0.mk hy944
            clear hy944
            replace H := Option.bind_eq_some_iff.mp H
            obtain ⟨⟨t947, t950⟩, A300, H⟩ := H
            replace H : ((ip_Build.f 0 0 false false 0 64 1 a2 t931 ([] : List Int) t947).bind fun bt951 => (some (bt951.1, bt951.2))) = some (r1, r2) := H
            have A30 := Aside0.mk A300
            clear A300
            replace H := Option.bind_eq_some_iff.mp H
            obtain ⟨⟨t951, t954⟩, A310, H⟩ := H
            replace H : (some (t951, t954)) = some (r1, r2) := H
            have A31 := Aside0.mk A310
            clear A310
            simp only [Option.some.injEq, Prod.mk.injEq] at H
            obtain ⟨rfl, rfl⟩ := H
            have p942 : 0 ≤ (0 : Int) := (by omega)
            have q942 : 0 < (l3.length : Int) := of_decide_eq_true (by first | (with_reducible assumption) | assumption)
            obtain ⟨ad942, e942, hx942_0⟩ := Kd.at_int HR3.out 0 p942 q942
            cases e942
            have qi942 : (0 < l3.length) = True := eq_true (by omega)
            (try rw [show ((0 : Int)).toNat = 0 from rfl] at hx942_0)
            (try rw [Addr.add_zero'] at hx942_0)
            replace hx942_0 := (HB.out.cell (World.block_lt_of_cell? w _ hx942_0)).trans hx942_0
            replace p942 := eq_true p942
            replace q942 := eq_true q942
            have hcz32_0 : wc.cell? ⟨gb940, 0, none⟩ = some (.int .i64 t924) := (blk_cell BK940.out 0).trans rfl
            have hcz32_1 : wc.cell? ⟨gb940, 1, none⟩ = some (.int .i64 t925) := (blk_cell BK940.out 1).trans rfl
            have hcz32_2 : wc.cell? ⟨gb940, 2, none⟩ = some (.bool t926) := (blk_cell BK940.out 2).trans rfl
            have hcz32_3 : wc.cell? ⟨gb940, 3, none⟩ = some (.bool t927) := (blk_cell BK940.out 3).trans rfl
            have hcz32_4 : wc.cell? ⟨gb940, 4, none⟩ = some (.int .i64 t928) := (blk_cell BK940.out 4).trans rfl
            have hcz32_5 : wc.cell? ⟨gb940, 5, none⟩ = some (.int .i64 t929) := (blk_cell BK940.out 5).trans rfl
            have hcz32_6 : wc.cell? ⟨gb940, 6, none⟩ = some (.int .i64 t930) := (blk_cell BK940.out 6).trans rfl
            have hcz32_7 : wc.cell? ⟨gb940, 7, none⟩ = some (.int .u32 t931) := (blk_cell BK940.out 7).trans rfl
            have hcz32_8 : wc.cell? ⟨gb940, 8, none⟩ = some (.int .u32 t932) := (blk_cell BK940.out 8).trans rfl
            have hcz32_9 : wc.cell? ⟨gb940, 9, none⟩ = some (.slice Ao11 t933.length co11) := (blk_cell BK940.out 9).trans rfl
            have hcz32_10 : wc.cell? ⟨gb940, 10, none⟩ = some (.slice Ao12 t936.length co12) := (blk_cell BK940.out 10).trans rfl
            have hfz32_0 := blk_frozen BK940.out 0
            have hfz32_1 := blk_frozen BK940.out 1
            have hfz32_2 := blk_frozen BK940.out 2
            have hfz32_3 := blk_frozen BK940.out 3
            have hfz32_4 := blk_frozen BK940.out 4
            have hfz32_5 := blk_frozen BK940.out 5
            have hfz32_6 := blk_frozen BK940.out 6
            have hfz32_7 := blk_frozen BK940.out 7
            have hfz32_8 := blk_frozen BK940.out 8
            have hfz32_9 := blk_frozen BK940.out 9
            have hfz32_10 := blk_frozen BK940.out 10
            obtain ⟨i033, hi033, _, hsz33, _⟩ := info_parts info5
            obtain ⟨hcut33, hA33, hC33⟩ := print_take_of (P := Try.prog) (Value.int .u8) 0 23 5 .i64 Try.underlying23 hi033 hsz33 (some ad942) c3 l3 (ji26) (of_decide_eq_true (by first | (with_reducible assumption) | assumption)) (of_decide_eq_true (by first | (with_reducible assumption) | assumption)) HC3.out
            have HR943 := Aside0.mk (Kd.C_of_reads (h1 := fun _ => rfl) (hA33 _ (Kd.reads_of_C HR3.out)))
            have HC943 := Aside0.mk hC33
            clear hA33 hC33 hi033 hsz33
            go_wp2_with (first | ((with_reducible refine gate_builtin (b := .append) (xs := #[.const (.slice none 0 0), .tmp 57]) rfl ?_); at_builtin; refine Kd.R_append_rows (Kd.int .u8) (w0 := w) w.heap.size rfl (.const (.slice none 0 0)) (.tmp 57) 23 5 (.int .u8 0) 1 rfl Try.underlying23 info5 rfl (by decide) (by omega) (.slice none 0 0) ([] : List Int) (l3.take ((ji26) : Int).toNat) _ _ _ (fun k_ => some k_ ≠ (.slice Ao11 t933.length co11 : Value).ownBlock ∧ some k_ ≠ (.slice Ao12 t936.length co12 : Value).ownBlock) (fun _ => False) rfl rfl ?aO ?aR (fun _ _ h => h) (fun _ h => h.elim) ?aF ?aB ?aS ?aL ?_; (case aR => first | (have h_ : (l3.take ((ji26) : Int).toNat).length = (ji26).toNat := (by rw [List.length_take]; have h_ : ((ji26) : Int) ≤ (l3.length : Int) := of_decide_eq_true (by first | (with_reducible assumption) | assumption); omega); have z_ : Kd.C (Kd.int .u8) _ _ (ji26).toNat (l3.take ((ji26) : Int).toNat) := (by have y_ := Kd.C_below HR943.out HB.out; rw [h_] at y_; exact y_); repeat (first | exact z_ | (with_reducible refine Kd.C_alloc ?_ _) | (with_reducible refine Kd.C_drewN ?_ _) | (with_reducible refine Kd.C_drew ?_))) | (rw [← show (l3.take ((ji26) : Int).toNat).length = (ji26).toNat from (by rw [List.length_take]; have h_ : ((ji26) : Int) ≤ (l3.length : Int) := of_decide_eq_true (by first | (with_reducible assumption) | assumption); omega)]; repeat (first | exact (Kd.C_below HR943.out HB.out) | (with_reducible refine Kd.C_alloc ?_ _) | (with_reducible refine Kd.C_drewN ?_ _) | (with_reducible refine Kd.C_drew ?_))) | (repeat (first | exact (Kd.C_below HR943.out HB.out) | (with_reducible refine Kd.C_alloc ?_ _) | (with_reducible refine Kd.C_drewN ?_ _) | (with_reducible refine Kd.C_drew ?_)))); (case aB => exact (by repeat (first | (with_reducible first | exact HB.out | apply below_alloc | apply pw_below_drewN | apply below_drew1 | refine below_set ?_ GE940.out) | exact HB.out))); (case aF => exact (fun k_ hk => ⟨Kd.fresh' (Kd.R_lt (by (with_reducible repeat (first | apply Kd.R_alloc | apply Kd.R_drewN | apply Kd.R_drew)); exact HO_941009.out)) k_ hk, Kd.fresh' (Kd.R_lt (by (with_reducible repeat (first | apply Kd.R_alloc | apply Kd.R_drewN | apply Kd.R_drew)); exact HO_941010.out)) k_ hk⟩)); (case aO => exact ((Kd.R_nil _ _ _ _ (fun k_ => some k_ ≠ (.slice Ao11 t933.length co11 : Value).ownBlock ∧ some k_ ≠ (.slice Ao12 t936.length co12 : Value).ownBlock)))); (case aS => exact (below_size (by repeat (first | (with_reducible first | exact HB.out | apply below_alloc | apply pw_below_drewN | apply below_drew1 | refine below_set ?_ GE940.out) | exact HB.out)))); (case aL => have := LMc29.out; have hlx_ := (show (l3.take ((ji26) : Int).toNat).length = (ji26).toNat from (by rw [List.length_take]; have h_ : ((ji26) : Int) ≤ (l3.length : Int) := of_decide_eq_true (by first | (with_reducible assumption) | assumption); omega)); omega); intro v945 w34 ho hb hg hat; rw [← Ny944.out] at ho; have n0_ := Aside0.mk (Kd.R_after (Kd.R_apart_nil (by (with_reducible repeat (first | apply Kd.R_alloc | apply Kd.R_drewN | apply Kd.R_drew)); exact HO_941009.out)) hg hat); have n1_ := Aside0.mk (Kd.R_after (Kd.R_apart_nil (by (with_reducible repeat (first | apply Kd.R_alloc | apply Kd.R_drewN | apply Kd.R_drew)); exact HO_941010.out)) hg hat); have n2_ := Aside0.mk (blk_grown (g := gb940) (o := .cells #[.int .i64 t924, .int .i64 t925, .bool t926, .bool t927, .int .i64 t928, .int .i64 t929, .int .i64 t930, .int .u32 t931, .int .u32 t932, .slice Ao11 t933.length co11, .slice Ao12 t936.length co12] 29 (0, 0)) (by (with_reducible repeat (first | refine blk_drewN ?_ _ | refine blk_drew ?_ | refine blk_alloc ?_ _)); exact BK940.out) hg (by simp [Value.ownBlock])); have n3_ := Aside0.mk (hb); have n4_ := Aside0.mk (ho); clear HO_941009; clear HO_941010; clear BK940; clear HB; have HO_941009 := n0_; have HO_941010 := n1_; have BK940 := n2_; have HB := n3_; have HO946 := n4_; clear n0_ n1_ n2_ n3_ n4_; clear ho hb hg hat; obtain ⟨Ao35, co35, eo35⟩ := Kd.R_slice HO946.out; subst eo35) | ((with_reducible refine gate_callee (f := 90) rfl ?_); refine goesL_ (some 64) rfl rfl Try.func90 (by kernel_rfl) rfl #[.agg #[.int .i64 a0, .int .i64 a1, .int .u32 0, .slice Ao35 y944.length co35]] rfl (by (try simp only [List.map_toArray, List.map_cons, List.map_nil]); first | done | rfl | (simp only [List.length_drop, List.length_take]; rfl)) ?_; (with_reducible refine (icmp_Build.calls kj16 a0 a1 0 _ _ y944 t947 t950 _ ?side1 ?side2 A30.out).mono ?_); (case side1 => repeat (first | exact (Kd.R_reads' HO946.out).2.2 | (with_reducible refine Kd.C_alloc ?_ _) | (with_reducible refine Kd.C_drewN ?_ _) | (with_reducible refine Kd.C_drew ?_))); (case side2 => exact (Kd.R_reads' HO946.out).2.1); rintro e w36 ⟨v948, rfl, ho0, hb⟩; refine ⟨_, rfl, ?_⟩; have n0_ := Aside0.mk (Kd.R_elder' (by (with_reducible repeat (first | apply Kd.R_alloc | apply Kd.R_drewN | apply Kd.R_drew)); exact HO_941009.out) (Kd.R_base ho0) hb); have n1_ := Aside0.mk (Kd.R_elder' (by (with_reducible repeat (first | apply Kd.R_alloc | apply Kd.R_drewN | apply Kd.R_drew)); exact HO_941010.out) (Kd.R_base ho0) hb); have n2_ := Aside0.mk (Kd.R_elder' (by (with_reducible repeat (first | apply Kd.R_alloc | apply Kd.R_drewN | apply Kd.R_drew)); exact HO946.out) (Kd.R_base ho0) hb); have n3_ := Aside0.mk (Kd.R_lower (Kd.R_new' (Kd.R_new' (Kd.R_new' ho0 (Kd.R_lt (by (with_reducible repeat (first | apply Kd.R_alloc | apply Kd.R_drewN | apply Kd.R_drew)); exact HO_941009.out))) (Kd.R_lt (by (with_reducible repeat (first | apply Kd.R_alloc | apply Kd.R_drewN | apply Kd.R_drew)); exact HO_941010.out))) (Kd.R_lt (by (with_reducible repeat (first | apply Kd.R_alloc | apply Kd.R_drewN | apply Kd.R_drew)); exact HO946.out))) (below_size (by repeat (first | (with_reducible first | exact HB.out | apply below_alloc | apply pw_below_drewN | apply below_drew1 | refine below_set ?_ GE940.out) | exact HB.out)))); have n4_ := Aside0.mk (blk_below (g := gb940) (o := .cells #[.int .i64 t924, .int .i64 t925, .bool t926, .bool t927, .int .i64 t928, .int .i64 t929, .int .i64 t930, .int .u32 t931, .int .u32 t932, .slice Ao11 t933.length co11, .slice Ao12 t936.length co12] 29 (0, 0)) (by (with_reducible repeat (first | refine blk_drewN ?_ _ | refine blk_drew ?_ | refine blk_alloc ?_ _)); exact BK940.out) hb); have n5_ := Aside0.mk (below_step (by repeat (first | (with_reducible first | exact HB.out | apply below_alloc | apply pw_below_drewN | apply below_drew1 | refine below_set ?_ GE940.out) | exact HB.out)) hb); clear HO_941009; clear HO_941010; clear HO946; clear BK940; clear HB; have HO_941009 := n0_; have HO_941010 := n1_; have HO946 := n2_; have HO949 := n3_; have BK940 := n4_; have HB := n5_; clear n0_ n1_ n2_ n3_ n4_ n5_; (try clear hb); (try clear hb2); (try clear hk); (try clear hi); (try clear ho0); have hcz37_0 : w36.cell? ⟨gb940, 0, none⟩ = some (.int .i64 t924) := (blk_cell BK940.out 0).trans rfl; have hcz37_1 : w36.cell? ⟨gb940, 1, none⟩ = some (.int .i64 t925) := (blk_cell BK940.out 1).trans rfl; have hcz37_2 : w36.cell? ⟨gb940, 2, none⟩ = some (.bool t926) := (blk_cell BK940.out 2).trans rfl; have hcz37_3 : w36.cell? ⟨gb940, 3, none⟩ = some (.bool t927) := (blk_cell BK940.out 3).trans rfl; have hcz37_4 : w36.cell? ⟨gb940, 4, none⟩ = some (.int .i64 t928) := (blk_cell BK940.out 4).trans rfl; have hcz37_5 : w36.cell? ⟨gb940, 5, none⟩ = some (.int .i64 t929) := (blk_cell BK940.out 5).trans rfl; have hcz37_6 : w36.cell? ⟨gb940, 6, none⟩ = some (.int .i64 t930) := (blk_cell BK940.out 6).trans rfl; have hcz37_7 : w36.cell? ⟨gb940, 7, none⟩ = some (.int .u32 t931) := (blk_cell BK940.out 7).trans rfl; have hcz37_8 : w36.cell? ⟨gb940, 8, none⟩ = some (.int .u32 t932) := (blk_cell BK940.out 8).trans rfl; have hcz37_9 : w36.cell? ⟨gb940, 9, none⟩ = some (.slice Ao11 t933.length co11) := (blk_cell BK940.out 9).trans rfl; have hcz37_10 : w36.cell? ⟨gb940, 10, none⟩ = some (.slice Ao12 t936.length co12) := (blk_cell BK940.out 10).trans rfl; have hfz37_0 := blk_frozen BK940.out 0; have hfz37_1 := blk_frozen BK940.out 1; have hfz37_2 := blk_frozen BK940.out 2; have hfz37_3 := blk_frozen BK940.out 3; have hfz37_4 := blk_frozen BK940.out 4; have hfz37_5 := blk_frozen BK940.out 5; have hfz37_6 := blk_frozen BK940.out 6; have hfz37_7 := blk_frozen BK940.out 7; have hfz37_8 := blk_frozen BK940.out 8; have hfz37_9 := blk_frozen BK940.out 9; have hfz37_10 := blk_frozen BK940.out 10; obtain ⟨Ao38, co38, eo38⟩ := Kd.R_slice HO949.out; subst eo38) | ((with_reducible refine gate_callee (f := 91) rfl ?_); refine goesL_ (some 72) rfl rfl Try.func91 (by kernel_rfl) rfl #[.agg #[.int .i64 0, .int .i64 0, .bool false, .bool false, .int .i64 0, .int .i64 64, .int .i64 1, .int .u32 a2, .int .u32 t931, .slice none 0 0, .slice Ao38 t947.length co38]] rfl (by (try simp only [List.map_toArray, List.map_cons, List.map_nil]); first | done | rfl | (simp only [List.length_drop, List.length_take]; rfl)) ?_; (refine (ip_Build.calls 0 0 false false 0 64 1 a2 t931 _ _ ([] : List Int) _ _ t947 t951 t954 _ ?side1 ?side2 ?side3 ?side4 A31.out).mono ?_); (case side1 => exact Kd.C_nil _ _); (case side2 => exact Nat.le_refl _); (case side3 => repeat (first | exact (Kd.R_reads' HO949.out).2.2 | (with_reducible refine Kd.C_alloc ?_ _) | (with_reducible refine Kd.C_drewN ?_ _) | (with_reducible refine Kd.C_drew ?_))); (case side4 => exact (Kd.R_reads' HO949.out).2.1); rintro e w39 ⟨v952, rfl, ho0, hb⟩; refine ⟨_, rfl, ?_⟩; have n0_ := Aside0.mk (Kd.R_elder' (by (with_reducible repeat (first | apply Kd.R_alloc | apply Kd.R_drewN | apply Kd.R_drew)); exact HO_941009.out) (Kd.R_base ho0) hb); have n1_ := Aside0.mk (Kd.R_elder' (by (with_reducible repeat (first | apply Kd.R_alloc | apply Kd.R_drewN | apply Kd.R_drew)); exact HO_941010.out) (Kd.R_base ho0) hb); have n2_ := Aside0.mk (Kd.R_elder' (by (with_reducible repeat (first | apply Kd.R_alloc | apply Kd.R_drewN | apply Kd.R_drew)); exact HO946.out) (Kd.R_base ho0) hb); have n3_ := Aside0.mk (Kd.R_elder' (by (with_reducible repeat (first | apply Kd.R_alloc | apply Kd.R_drewN | apply Kd.R_drew)); exact HO949.out) (Kd.R_base ho0) hb); have n4_ := Aside0.mk (Kd.R_lower (Kd.R_new' (Kd.R_new' (Kd.R_new' (Kd.R_new' ho0 (Kd.R_lt (by (with_reducible repeat (first | apply Kd.R_alloc | apply Kd.R_drewN | apply Kd.R_drew)); exact HO_941009.out))) (Kd.R_lt (by (with_reducible repeat (first | apply Kd.R_alloc | apply Kd.R_drewN | apply Kd.R_drew)); exact HO_941010.out))) (Kd.R_lt (by (with_reducible repeat (first | apply Kd.R_alloc | apply Kd.R_drewN | apply Kd.R_drew)); exact HO946.out))) (Kd.R_lt (by (with_reducible repeat (first | apply Kd.R_alloc | apply Kd.R_drewN | apply Kd.R_drew)); exact HO949.out))) (below_size (by repeat (first | (with_reducible first | exact HB.out | apply below_alloc | apply pw_below_drewN | apply below_drew1 | refine below_set ?_ GE940.out) | exact HB.out)))); have n5_ := Aside0.mk (blk_below (g := gb940) (o := .cells #[.int .i64 t924, .int .i64 t925, .bool t926, .bool t927, .int .i64 t928, .int .i64 t929, .int .i64 t930, .int .u32 t931, .int .u32 t932, .slice Ao11 t933.length co11, .slice Ao12 t936.length co12] 29 (0, 0)) (by (with_reducible repeat (first | refine blk_drewN ?_ _ | refine blk_drew ?_ | refine blk_alloc ?_ _)); exact BK940.out) hb); have n6_ := Aside0.mk (below_step (by repeat (first | (with_reducible first | exact HB.out | apply below_alloc | apply pw_below_drewN | apply below_drew1 | refine below_set ?_ GE940.out) | exact HB.out)) hb); clear HO_941009; clear HO_941010; clear HO946; clear HO949; clear BK940; clear HB; have HO_941009 := n0_; have HO_941010 := n1_; have HO946 := n2_; have HO949 := n3_; have HO953 := n4_; have BK940 := n5_; have HB := n6_; clear n0_ n1_ n2_ n3_ n4_ n5_ n6_; (try clear hb); (try clear hb2); (try clear hk); (try clear hi); (try clear ho0)))
            go_ret2
            exact ⟨_, by first | rfl | (simp [errW_none, errW_some] <;> rfl) | (simp only [← hji25, ← hji26]; first | rfl | (simp [errW_none, errW_some] <;> rfl)) | (simp [*, errW_none, errW_some] <;> rfl), by (with_reducible repeat (first | apply Kd.R_alloc | apply Kd.R_drewN | apply Kd.R_drew)); exact Kd.R_mono HO953.out (fun _ hk => trivial), by repeat (first | (with_reducible first | exact HB.out | apply below_alloc | apply pw_below_drewN | apply below_drew1 | refine below_set ?_ GE940.out) | exact HB.out)⟩
           ·rw [if_neg c29] at H
            exact absurd H (by simp)
          ·rw [if_neg c28] at H
           exact absurd H (by simp)
         ·rw [if_neg c27] at H
          exact absurd H (by simp)
        ·rw [if_neg c24] at H
         exact absurd H (by simp)
 ·rw [if_neg c6] at H
  have c6b0 : (t939 == 0) = false := beq_eq_false_iff_ne.mpr c6
  have c6b1 : (t939 != 0) = true := bne_iff_ne.mpr c6
  simp only [Option.some.injEq, Prod.mk.injEq] at H
  obtain ⟨rfl, rfl⟩ := H
  go_enter Try.func47, Try.ntmps47
  go_wp2_with (first | ((with_reducible refine gate_callee (f := 61) rfl ?_); refine goesL_ (some 18) rfl rfl Try.func61 (by kernel_rfl) rfl #[.slice A3 l3.length c3] rfl (by (try simp only [List.map_toArray, List.map_cons, List.map_nil]); first | done | rfl | (simp only [List.length_drop, List.length_take]; rfl)) ?_; (with_reducible refine (ip_Parse.calls _ _ l3 t924 t925 t926 t927 t928 t929 t930 t931 t932 t933 t936 t939 _ ?side1 ?side2 A5.out).mono ?_); (case side1 => repeat (first | exact HR3.out | (with_reducible refine Kd.C_alloc ?_ _) | (with_reducible refine Kd.C_drewN ?_ _) | (with_reducible refine Kd.C_drew ?_))); (case side2 => exact HC3.out); rintro e w40 ⟨v934, v937, rfl, ho0, ho1, hb⟩; refine ⟨_, rfl, ?_⟩; have n0_ := Aside0.mk (Kd.R_lower ho0 (below_size (by repeat (first | (with_reducible first | exact HB.out | apply below_alloc | apply pw_below_drewN | apply below_drew1) | exact HB.out)))); have n1_ := Aside0.mk (Kd.R_lower ho1 (below_size (by repeat (first | (with_reducible first | exact HB.out | apply below_alloc | apply pw_below_drewN | apply below_drew1) | exact HB.out)))); have n2_ := Aside0.mk (below_step (by repeat (first | (with_reducible first | exact HB.out | apply below_alloc | apply pw_below_drewN | apply below_drew1) | exact HB.out)) hb); clear HB; have HO935 := n0_; have HO938 := n1_; have HB := n2_; clear n0_ n1_ n2_; (try clear hb); (try clear hb2); (try clear hk); (try clear hi); (try clear ho0); (try clear ho1)) | ((with_reducible refine gate_dst (N := 10) rfl ?_); refine box_event ?hg (N := 10) ?hd (cs := #[.int .i64 0, .int .i64 0, .bool false, .bool false, .int .i64 0, .int .i64 0, .int .i64 0, .int .u32 0, .int .u32 0, .slice none 0 0, .slice none 0 0]) (t := 29) ?hr ?_; (case hd => rfl); (case hg => rfl); (case hr => first | (go_simp; done) | (go_simp; rfl)); intro gb940 hg w41 hbox hb; have n0_ := Aside0.mk (Kd.R_below (by (with_reducible repeat (first | apply Kd.R_alloc | apply Kd.R_drewN | apply Kd.R_drew)); exact HO935.out) hb); have n1_ := Aside0.mk (Kd.R_below (by (with_reducible repeat (first | apply Kd.R_alloc | apply Kd.R_drewN | apply Kd.R_drew)); exact HO938.out) hb); have n2_ := Aside0.mk (below_step (by repeat (first | (with_reducible first | exact HB.out | apply below_alloc | apply pw_below_drewN | apply below_drew1) | exact HB.out)) hb); have n3_ := Aside0.mk (hbox); have n4_ := Aside0.mk ((by rw [hg]; exact (below_size (by repeat (first | (with_reducible first | exact HB.out | apply below_alloc | apply pw_below_drewN | apply below_drew1) | exact HB.out))) : w.heap.size ≤ gb940)); have n5_ := Aside0.mk ((by rw [hg]; exact (below_size (by repeat (first | (with_reducible first | exact HB.out | apply below_alloc | apply pw_below_drewN | apply below_drew1) | exact HB.out))) : w.heap.size ≤ gb940)); clear HO935; clear HO938; clear HB; have HO935 := n0_; have HO938 := n1_; have HB := n2_; have BK940 := n3_; have GW940 := n4_; have GE940 := n5_; clear n0_ n1_ n2_ n3_ n4_ n5_; clear hb hbox hg; have hcz42_0 : w41.cell? ⟨gb940, 0, none⟩ = some (.int .i64 0) := (blk_cell BK940.out 0).trans rfl; have hcz42_1 : w41.cell? ⟨gb940, 1, none⟩ = some (.int .i64 0) := (blk_cell BK940.out 1).trans rfl; have hcz42_2 : w41.cell? ⟨gb940, 2, none⟩ = some (.bool false) := (blk_cell BK940.out 2).trans rfl; have hcz42_3 : w41.cell? ⟨gb940, 3, none⟩ = some (.bool false) := (blk_cell BK940.out 3).trans rfl; have hcz42_4 : w41.cell? ⟨gb940, 4, none⟩ = some (.int .i64 0) := (blk_cell BK940.out 4).trans rfl; have hcz42_5 : w41.cell? ⟨gb940, 5, none⟩ = some (.int .i64 0) := (blk_cell BK940.out 5).trans rfl; have hcz42_6 : w41.cell? ⟨gb940, 6, none⟩ = some (.int .i64 0) := (blk_cell BK940.out 6).trans rfl; have hcz42_7 : w41.cell? ⟨gb940, 7, none⟩ = some (.int .u32 0) := (blk_cell BK940.out 7).trans rfl; have hcz42_8 : w41.cell? ⟨gb940, 8, none⟩ = some (.int .u32 0) := (blk_cell BK940.out 8).trans rfl; have hcz42_9 : w41.cell? ⟨gb940, 9, none⟩ = some (.slice none 0 0) := (blk_cell BK940.out 9).trans rfl; have hcz42_10 : w41.cell? ⟨gb940, 10, none⟩ = some (.slice none 0 0) := (blk_cell BK940.out 10).trans rfl; have hfz42_0 := blk_frozen BK940.out 0; have hfz42_1 := blk_frozen BK940.out 1; have hfz42_2 := blk_frozen BK940.out 2; have hfz42_3 := blk_frozen BK940.out 3; have hfz42_4 := blk_frozen BK940.out 4; have hfz42_5 := blk_frozen BK940.out 5; have hfz42_6 := blk_frozen BK940.out 6; have hfz42_7 := blk_frozen BK940.out 7; have hfz42_8 := blk_frozen BK940.out 8; have hfz42_9 := blk_frozen BK940.out 9; have hfz42_10 := blk_frozen BK940.out 10; obtain ⟨Ao43, co43, eo43⟩ := Kd.R_slice HO935.out; subst eo43; obtain ⟨Ao44, co44, eo44⟩ := Kd.R_slice HO938.out; subst eo44))
  go_ret2
  exact ⟨_, by first | rfl | (simp [errW_none, errW_some] <;> rfl) | (simp [*, errW_none, errW_some] <;> rfl), by first | exact Kd.R_nil _ _ _ _ _ | exact Kd.N_nil _ _ _ _ _ | exact Kd.V_nil _ _ _ _ _ | exact Kd.Q_nil _ _ _ _ _ | exact Kd.S_nil _ _ _ _ _, by repeat (first | (with_reducible first | exact HB.out | apply below_alloc | apply pw_below_drewN | apply below_drew1 | refine below_set ?_ GE940.out) | exact HB.out)⟩

end Go.Proofs.Ytljnnhloinbjhaa.P
