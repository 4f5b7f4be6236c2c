-- Laid by a program (wip/tools/myprint.py) out of the translation. Not trusted: Lean checks it.
import Derived.Test.YtljnnhloinbjhaaP0
import Derived.Test.YtljnnhloinbjhaaPbailiwickref1
import Derived.Test.YtljnnhloinbjhaaPbailiwickref3
namespace Go.Proofs.Ytljnnhloinbjhaa.P
open Go.RowKit Go.Proofs.YtljnnhloinbjhaaW.PrintWords Go.Proofs.YtljnnhloinbjhaaW.PrintLast
set_option linter.unusedVariables false
set_option linter.unusedSimpArgs false

/-! ### bailiwickref3_BuildDatagram: function 54 -/
mutual
def bailiwickref3_BuildDatagram.j0 : Nat → Int → Int → Bool → Int → Int → Bool → List Int → Option (List Int × Int)
 | 0, _, _, _, _, _, _, _ => none
 | k + 1, x0, x1, x21, x225000, x225001, x225002, x225003 => if x21 = true then (some (([] : List Int), 1)) else (if (x225003.length : Int) > 2020 then (some (([] : List Int), 3)) else ((bailiwickref1_Lay.f k ([] : List Int) 2 (IntKind.u64.wrap (x225000))).bind fun t227 => ((bailiwickref1_Lay.f k t227 2 (IntKind.u64.wrap (x225001))).bind fun t230 => ((bailiwickref1_Lay.f k t230 2 (IntKind.u64.wrap (wrap64 (8 + (x225003.length : Int))))).bind fun t233 => ((some (([0, 0] : List Int) : List Int)).bind fun y236 => (if t233.length + y236.length < 140737488355328 then (bailiwickref3_BuildDatagram.l0 k x0 x1 (wrap64 (8 + (x225003.length : Int))) (t233 ++ y236) 0 x225000 x225001 x225002 x225003) else (none)))))))
def bailiwickref3_BuildDatagram.l0 : Nat → Int → Int → Int → List Int → Int → Int → Int → Bool → List Int → Option (List Int × Int)
 | 0, _, _, _, _, _, _, _, _, _ => none
 | k + 1, x0, x1, x8, x9, x10, x225000, x225001, x225002, x225003 => if x10 < (x225003.length : Int) then (if 0 ≤ x10 then (if x9.length < 140737488355328 then (bailiwickref3_BuildDatagram.l0 k x0 x1 x8 (x9 ++ [rd x225003 x10]) (wrap64 (x10 + 1)) x225000 x225001 x225002 x225003) else (none)) else (none)) else (if x225002 = true then (some (x9, 0)) else ((bailiwickref3_Pseudo.f k x0 x1 17 x8).bind fun t246 => ((bailiwickref1_Sum.f k (([t246, x9] : List (List Int)))).bind fun t253 => (if (wrap64 (65535 - t253)) = 0 then (if 6 < (x9.length : Int) then (if 7 < (x9.length : Int) then (some (((x9.set (6 : Int).toNat (255)).set (7 : Int).toNat (255)), 0)) else (none)) else (none)) else (if 6 < (x9.length : Int) then (if 7 < (x9.length : Int) then (some (((x9.set (6 : Int).toNat (((wrap64 (65535 - t253)) / 256) % 256)).set (7 : Int).toNat ((wrap64 (65535 - t253)) % 256)), 0)) else (none)) else (none))))))
end
def bailiwickref3_BuildDatagram.f (k : Nat) (a0 : Int) (a1 : Int) (a2_0 : Int) (a2_1 : Int) (a2_2 : Bool) (l2_3 : List Int) : Option (List Int × Int) := (bailiwickref3_in.f a2_0 65535).bind fun t225 => (if t225 = true then ((bailiwickref3_in.f a2_1 65535).bind fun t226 => (bailiwickref3_BuildDatagram.j0 k a0 a1 (!t226) a2_0 a2_1 a2_2 l2_3)) else (bailiwickref3_BuildDatagram.j0 k a0 a1 true a2_0 a2_1 a2_2 l2_3))
theorem bailiwickref3_BuildDatagram.mono_l : ∀ k, (∀ y0 y1 y2 y3 y4 y5 y6, LeO (bailiwickref3_BuildDatagram.j0 k y0 y1 y2 y3 y4 y5 y6) (bailiwickref3_BuildDatagram.j0 (k + 1) y0 y1 y2 y3 y4 y5 y6)) ∧ (∀ y0 y1 y2 y3 y4 y5 y6 y7 y8, LeO (bailiwickref3_BuildDatagram.l0 k y0 y1 y2 y3 y4 y5 y6 y7 y8) (bailiwickref3_BuildDatagram.l0 (k + 1) y0 y1 y2 y3 y4 y5 y6 y7 y8))
 | 0 => ⟨fun _ _ _ _ _ _ _ r h => by simp [bailiwickref3_BuildDatagram.j0] at h, fun _ _ _ _ _ _ _ _ _ r h => by simp [bailiwickref3_BuildDatagram.l0] at h⟩
 | k + 1 => by
  obtain ⟨ih0, ih1⟩ := bailiwickref3_BuildDatagram.mono_l k
  refine ⟨?_, ?_⟩
  ·intro y0 y1 y2 y3 y4 y5 y6
   unfold bailiwickref3_BuildDatagram.j0
   repeat' first
   | (with_reducible exact ih0 _ _ _ _ _ _ _)
   | (with_reducible exact ih1 _ _ _ _ _ _ _ _ _)
   | (with_reducible exact bailiwickref1_Lay.mono _ _ _ _)
   | (with_reducible exact bailiwickref1_Sum.mono _ _)
   | (with_reducible exact bailiwickref3_Pseudo.mono _ _ _ _ _)
   | (with_reducible exact LeO.refl _)
   | (with_reducible exact LeO.none _)
   | (with_reducible refine LeO.ite ?_ ?_)
   | (with_reducible refine LeO.bind ?_ (fun _ => ?_))
   | exact ih0 _ _ _ _ _ _ _
   | exact ih1 _ _ _ _ _ _ _ _ _
   | exact bailiwickref1_Lay.mono _ _ _ _
   | exact bailiwickref1_Sum.mono _ _
   | exact bailiwickref3_Pseudo.mono _ _ _ _ _
   | exact LeO.none _
   | refine LeO.ite ?_ ?_
   | refine LeO.bind ?_ (fun _ => ?_)
  ·intro y0 y1 y2 y3 y4 y5 y6 y7 y8
   unfold bailiwickref3_BuildDatagram.l0
   repeat' first
   | (with_reducible exact ih0 _ _ _ _ _ _ _)
   | (with_reducible exact ih1 _ _ _ _ _ _ _ _ _)
   | (with_reducible exact bailiwickref1_Lay.mono _ _ _ _)
   | (with_reducible exact bailiwickref1_Sum.mono _ _)
   | (with_reducible exact bailiwickref3_Pseudo.mono _ _ _ _ _)
   | (with_reducible exact LeO.refl _)
   | (with_reducible exact LeO.none _)
   | (with_reducible refine LeO.ite ?_ ?_)
   | (with_reducible refine LeO.bind ?_ (fun _ => ?_))
   | exact ih0 _ _ _ _ _ _ _
   | exact ih1 _ _ _ _ _ _ _ _ _
   | exact bailiwickref1_Lay.mono _ _ _ _
   | exact bailiwickref1_Sum.mono _ _
   | exact bailiwickref3_Pseudo.mono _ _ _ _ _
   | exact LeO.none _
   | refine LeO.ite ?_ ?_
   | refine LeO.bind ?_ (fun _ => ?_)
theorem bailiwickref3_BuildDatagram.mono : ∀ a0 a1 a2 a3 a4 a5 k, LeO (bailiwickref3_BuildDatagram.f k a0 a1 a2 a3 a4 a5) (bailiwickref3_BuildDatagram.f (k + 1) a0 a1 a2 a3 a4 a5) := by
 intro a0 a1 a2 a3 a4 a5 k
 obtain ⟨ih0, ih1⟩ := bailiwickref3_BuildDatagram.mono_l k
 unfold bailiwickref3_BuildDatagram.f
 repeat' first
   | (with_reducible exact ih0 _ _ _ _ _ _ _)
   | (with_reducible exact ih1 _ _ _ _ _ _ _ _ _)
   | (with_reducible exact bailiwickref1_Lay.mono _ _ _ _)
   | (with_reducible exact bailiwickref1_Sum.mono _ _)
   | (with_reducible exact bailiwickref3_Pseudo.mono _ _ _ _ _)
   | (with_reducible exact LeO.refl _)
   | (with_reducible exact LeO.none _)
   | (with_reducible refine LeO.ite ?_ ?_)
   | (with_reducible refine LeO.bind ?_ (fun _ => ?_))
   | exact ih0 _ _ _ _ _ _ _
   | exact ih1 _ _ _ _ _ _ _ _ _
   | exact bailiwickref1_Lay.mono _ _ _ _
   | exact bailiwickref1_Sum.mono _ _
   | exact bailiwickref3_Pseudo.mono _ _ _ _ _
   | exact LeO.none _
   | refine LeO.ite ?_ ?_
   | refine LeO.bind ?_ (fun _ => ?_)
set_option maxHeartbeats 8000000 in
set_option maxRecDepth 100000 in
theorem bailiwickref3_BuildDatagram.calls (k : Nat) (a0 : Int) (a1 : Int) (a2_0 : Int) (a2_1 : Int) (a2_2 : Bool) (A2_3 : Option Addr) (c2_3 : Nat) (l2_3 : List Int) (r1 : List Int) (r2 : Int) (w : World) (hr2_3 : Kd.C (Kd.int .u8) w A2_3 l2_3.length l2_3) (hc2_3 : l2_3.length ≤ c2_3) (h : bailiwickref3_BuildDatagram.f k a0 a1 a2_0 a2_1 a2_2 l2_3 = some (r1, r2)) :
  Calls Try.prog 54 #[.int .u32 a0, .int .u32 a1, .agg #[.int .i64 a2_0, .int .i64 a2_1, .bool a2_2, .slice A2_3 l2_3.length c2_3]] w fun e w' => ∃ v0_ : Value, e = .returned (.tuple #[v0_, .int .i64 r2]) ∧ Kd.R (Kd.int .u8) 5 w' w.heap.size (fun _ => True) v0_ r1 ∧ Below w.heap.size w w' := by
 have hu77 := Try.underlying77
 have HR2_3 := Aside0.mk hr2_3
 have HC2_3 := Aside0.mk hc2_3
 clear hr2_3 hc2_3
 have HB := Aside0.mk (Below.refl w.heap.size w)
 have H : ((bailiwickref3_in.f a2_0 65535).bind fun t225 => (if t225 = true then ((bailiwickref3_in.f a2_1 65535).bind fun t226 => (bailiwickref3_BuildDatagram.j0 k a0 a1 (!t226) a2_0 a2_1 a2_2 l2_3)) else (bailiwickref3_BuildDatagram.j0 k a0 a1 true a2_0 a2_1 a2_2 l2_3))) = some (r1, r2) := h
 clear h
 have HC4 := Aside0.mk H
 clear H
 go_enter Try.func54, Try.ntmps54
 go_upto_region 1 with (first | ((with_reducible refine gate_dst (N := 5) rfl ?_); refine box_event ?hg (N := 5) ?hd (cs := #[.int .i64 a2_0, .int .i64 a2_1, .bool a2_2, .slice A2_3 l2_3.length c2_3]) (t := 77) ?hr ?_; (case hd => rfl); (case hg => rfl); (case hr => first | (go_simp; done) | (go_simp; rfl)); intro gb224 hg w5 hbox hb; have n0_ := Aside0.mk (below_step (by repeat (first | (with_reducible first | exact HB.out | apply below_alloc | apply pw_below_drewN | apply below_drew1) | exact HB.out)) hb); have n1_ := Aside0.mk (hbox); have n2_ := Aside0.mk ((by rw [hg]; exact (below_size (by repeat (first | (with_reducible first | exact HB.out | apply below_alloc | apply pw_below_drewN | apply below_drew1) | exact HB.out))) : w.heap.size ≤ gb224)); have n3_ := Aside0.mk ((by rw [hg]; exact (below_size (by repeat (first | (with_reducible first | exact HB.out | apply below_alloc | apply pw_below_drewN | apply below_drew1) | exact HB.out))) : w.heap.size ≤ gb224)); clear HB; have HB := n0_; have BK224 := n1_; have GW224 := n2_; have GE224 := n3_; clear n0_ n1_ n2_ n3_; clear hb hbox hg))
 (try simp only [Act.put, List.setIfInBounds_toArray, List.set_cons_zero, List.set_cons_succ])
 go_cut [21] (fun v21 wc => ∃ (kq : Nat) (x21_3 : Bool), v21 = .bool x21_3 ∧ Aside0 (bailiwickref3_BuildDatagram.j0 kq a0 a1 x21_3 a2_0 a2_1 a2_2 l2_3 = some (r1, r2)) ∧ Aside0 (kq ≤ k) ∧ Aside0 (wc.heap[gb224]? = some (.cells #[.int .i64 a2_0, .int .i64 a2_1, .bool a2_2, (.slice A2_3 l2_3.length c2_3)] 77 (0, 0))) ∧ Aside0 (Below w.heap.size w wc))
 case first =>
  have H := HC4.out
  clear HC4
  replace H := Option.bind_eq_some_iff.mp H
  obtain ⟨t225, A60, H⟩ := H
  replace H : (if t225 = true then ((bailiwickref3_in.f a2_1 65535).bind fun t226 => (bailiwickref3_BuildDatagram.j0 k a0 a1 (!t226) a2_0 a2_1 a2_2 l2_3)) else (bailiwickref3_BuildDatagram.j0 k a0 a1 true a2_0 a2_1 a2_2 l2_3)) = some (r1, r2) := H
  have A6 := Aside0.mk A60
  clear A60
  by_cases c7 : t225 = true
  ·subst c7
   have H1 : ((bailiwickref3_in.f a2_1 65535).bind fun t226 => (bailiwickref3_BuildDatagram.j0 k a0 a1 (!t226) a2_0 a2_1 a2_2 l2_3)) = some (r1, r2) := by rw [if_pos rfl] at H; exact H
   clear H
   have H := H1
   clear H1
   replace H := Option.bind_eq_some_iff.mp H
   obtain ⟨t226, A80, H⟩ := H
   replace H : (bailiwickref3_BuildDatagram.j0 k a0 a1 (!t226) a2_0 a2_1 a2_2 l2_3) = some (r1, r2) := H
   have A8 := Aside0.mk A80
   clear A80
   have H' := Aside0.mk H
   clear H
   have hcz9_0 : w5.cell? ⟨gb224, 0, none⟩ = some (.int .i64 a2_0) := (blk_cell BK224.out 0).trans rfl
   have hcz9_1 : w5.cell? ⟨gb224, 1, none⟩ = some (.int .i64 a2_1) := (blk_cell BK224.out 1).trans rfl
   have hcz9_2 : w5.cell? ⟨gb224, 2, none⟩ = some (.bool a2_2) := (blk_cell BK224.out 2).trans rfl
   have hcz9_3 : w5.cell? ⟨gb224, 3, none⟩ = some (.slice A2_3 l2_3.length c2_3) := (blk_cell BK224.out 3).trans rfl
   have hfz9_0 := blk_frozen BK224.out 0
   have hfz9_1 := blk_frozen BK224.out 1
   have hfz9_2 := blk_frozen BK224.out 2
   have hfz9_3 := blk_frozen BK224.out 3
   go_wp2_with (first | ((with_reducible refine gate_callee (f := 100) rfl ?_); refine goesL_ (some 14) rfl rfl Try.func100 (by kernel_rfl) rfl #[.int .i64 a2_0, .int .i64 65535] rfl (by (try simp only [List.map_toArray, List.map_cons, List.map_nil]); first | done | rfl | (simp only [List.length_drop, List.length_take]; rfl)) ?_; (with_reducible refine (bailiwickref3_in.calls a2_0 65535 true _ A6.out).mono ?_); rintro e w' ⟨rfl, ⟨nd, rfl⟩⟩; refine ⟨_, rfl, ?_⟩) | (go_at_call 100; (with_reducible refine (bailiwickref3_in.calls a2_1 65535 t226 _ A8.out).mono ?_); rintro e w' ⟨rfl, ⟨nd, rfl⟩⟩))
   go_meet
   case rel => exact ⟨_, (!t226), (by first | rfl | (simp; done) | (simp [*]; done)), H', ⟨by first | omega | exact Nat.le_refl _⟩, ⟨by (with_reducible repeat (first | refine blk_drewN ?_ _ | refine blk_drew ?_ | refine blk_alloc ?_ _)); exact BK224.out⟩, ⟨by repeat (first | (with_reducible first | exact HB.out | apply below_alloc | apply pw_below_drewN | apply below_drew1 | refine below_set ?_ GE224.out) | exact HB.out)⟩⟩
  ·replace c7 := Bool.eq_false_iff.mpr c7
   subst c7
   have H1 : (bailiwickref3_BuildDatagram.j0 k a0 a1 true a2_0 a2_1 a2_2 l2_3) = some (r1, r2) := by rw [if_neg (show ¬ (false = true) by decide)] at H; exact H
   clear H
   have H := H1
   clear H1
   have H' := Aside0.mk H
   clear H
   have hcz10_0 : w5.cell? ⟨gb224, 0, none⟩ = some (.int .i64 a2_0) := (blk_cell BK224.out 0).trans rfl
   have hcz10_1 : w5.cell? ⟨gb224, 1, none⟩ = some (.int .i64 a2_1) := (blk_cell BK224.out 1).trans rfl
   have hcz10_2 : w5.cell? ⟨gb224, 2, none⟩ = some (.bool a2_2) := (blk_cell BK224.out 2).trans rfl
   have hcz10_3 : w5.cell? ⟨gb224, 3, none⟩ = some (.slice A2_3 l2_3.length c2_3) := (blk_cell BK224.out 3).trans rfl
   have hfz10_0 := blk_frozen BK224.out 0
   have hfz10_1 := blk_frozen BK224.out 1
   have hfz10_2 := blk_frozen BK224.out 2
   have hfz10_3 := blk_frozen BK224.out 3
   go_wp2_with (first | ((with_reducible refine gate_callee (f := 100) rfl ?_); refine goesL_ (some 14) rfl rfl Try.func100 (by kernel_rfl) rfl #[.int .i64 a2_0, .int .i64 65535] rfl (by (try simp only [List.map_toArray, List.map_cons, List.map_nil]); first | done | rfl | (simp only [List.length_drop, List.length_take]; rfl)) ?_; (with_reducible refine (bailiwickref3_in.calls a2_0 65535 false _ A6.out).mono ?_); rintro e w' ⟨rfl, ⟨nd, rfl⟩⟩; refine ⟨_, rfl, ?_⟩))
   go_meet
   case rel => exact ⟨_, (true), (by first | rfl | (simp; done) | (simp [*]; done)), H', ⟨by first | omega | exact Nat.le_refl _⟩, ⟨by (with_reducible repeat (first | refine blk_drewN ?_ _ | refine blk_drew ?_ | refine blk_alloc ?_ _)); exact BK224.out⟩, ⟨by repeat (first | (with_reducible first | exact HB.out | apply below_alloc | apply pw_below_drewN | apply below_drew1 | refine below_set ?_ GE224.out) | exact HB.out)⟩⟩
 case rest =>
  clear HC4
  try clear c1
  try clear c2
  try clear p2
  try clear c5
  try clear c7
  try clear c10
  try clear hcz10_0
  try clear hcz10_1
  try clear hcz10_2
  try clear hcz10_3
  try clear hcz9_0
  try clear hcz9_1
  try clear hcz9_2
  try clear hcz9_3
  try clear hfz10_0
  try clear hfz10_1
  try clear hfz10_2
  try clear hfz10_3
  try clear hfz9_0
  try clear hfz9_1
  try clear hfz9_2
  try clear hfz9_3
  obtain ⟨kq, x21_3, rfl, HA, HJ3, BK224, HB⟩ := hcut
  cases kq with
  | zero => exact absurd HA.out (by simp [bailiwickref3_BuildDatagram.j0])
  | succ kj3 =>
   have H := HA.out
   clear HA
   simp only [bailiwickref3_BuildDatagram.j0] at H
   by_cases c11 : x21_3 = true
   ·subst c11
    have H1 : (some (([] : List Int), 1)) = some (r1, r2) := by rw [if_pos rfl] at H; exact H
    clear H
    have H := H1
    clear H1
    simp only [Option.some.injEq, Prod.mk.injEq] at H
    obtain ⟨rfl, rfl⟩ := H
    go_wp2
    go_ret2
    exact ⟨_, by first | rfl | (simp [errW_none, errW_some] <;> rfl) | (simp [*, errW_none, errW_some] <;> rfl), by first | exact Kd.R_nil _ _ _ _ _ | exact Kd.N_nil _ _ _ _ _ | exact Kd.V_nil _ _ _ _ _ | exact Kd.Q_nil _ _ _ _ _ | exact Kd.S_nil _ _ _ _ _, by repeat (first | (with_reducible first | exact HB.out | apply below_alloc | apply pw_below_drewN | apply below_drew1 | refine below_set ?_ GE224.out) | exact HB.out)⟩
   ·replace c11 := Bool.eq_false_iff.mpr c11
    subst c11
    have H1 : (if (l2_3.length : Int) > 2020 then (some (([] : List Int), 3)) else ((bailiwickref1_Lay.f kj3 ([] : List Int) 2 (IntKind.u64.wrap (a2_0))).bind fun t227 => ((bailiwickref1_Lay.f kj3 t227 2 (IntKind.u64.wrap (a2_1))).bind fun t230 => ((bailiwickref1_Lay.f kj3 t230 2 (IntKind.u64.wrap (wrap64 (8 + (l2_3.length : Int))))).bind fun t233 => ((some (([0, 0] : List Int) : List Int)).bind fun y236 => (if t233.length + y236.length < 140737488355328 then (bailiwickref3_BuildDatagram.l0 kj3 a0 a1 (wrap64 (8 + (l2_3.length : Int))) (t233 ++ y236) 0 a2_0 a2_1 a2_2 l2_3) else (none))))))) = some (r1, r2) := by rw [if_neg (show ¬ (false = true) by decide)] at H; exact H
    clear H
    have H := H1
    clear H1
    by_cases c12 : (l2_3.length : Int) > 2020
    ·rw [if_pos c12] at H
     have c12b0 : decide (2020 < (l2_3.length : Int)) = true := decide_eq_true c12
     have c12b1 : decide (2020 < l2_3.length) = true := decide_eq_true (by omega)
     clear c12
     simp only [Option.some.injEq, Prod.mk.injEq] at H
     obtain ⟨rfl, rfl⟩ := H
     have hcz13_0 : wc.cell? ⟨gb224, 0, none⟩ = some (.int .i64 a2_0) := (blk_cell BK224.out 0).trans rfl
     have hcz13_1 : wc.cell? ⟨gb224, 1, none⟩ = some (.int .i64 a2_1) := (blk_cell BK224.out 1).trans rfl
     have hcz13_2 : wc.cell? ⟨gb224, 2, none⟩ = some (.bool a2_2) := (blk_cell BK224.out 2).trans rfl
     have hcz13_3 : wc.cell? ⟨gb224, 3, none⟩ = some (.slice A2_3 l2_3.length c2_3) := (blk_cell BK224.out 3).trans rfl
     have hfz13_0 := blk_frozen BK224.out 0
     have hfz13_1 := blk_frozen BK224.out 1
     have hfz13_2 := blk_frozen BK224.out 2
     have hfz13_3 := blk_frozen BK224.out 3
     go_wp2
     go_ret2
     exact ⟨_, by first | rfl | (simp [errW_none, errW_some] <;> rfl) | (simp [*, errW_none, errW_some] <;> rfl), by first | exact Kd.R_nil _ _ _ _ _ | exact Kd.N_nil _ _ _ _ _ | exact Kd.V_nil _ _ _ _ _ | exact Kd.Q_nil _ _ _ _ _ | exact Kd.S_nil _ _ _ _ _, by repeat (first | (with_reducible first | exact HB.out | apply below_alloc | apply pw_below_drewN | apply below_drew1 | refine below_set ?_ GE224.out) | exact HB.out)⟩
    ·rw [if_neg c12] at H
     have c12b0 : decide (2020 < (l2_3.length : Int)) = false := decide_eq_false c12
     have c12b1 : decide (2020 < l2_3.length) = false := decide_eq_false (by omega)
     clear c12
     replace H := Option.bind_eq_some_iff.mp H
     obtain ⟨t227, A140, H⟩ := H
     replace H : ((bailiwickref1_Lay.f kj3 t227 2 (IntKind.u64.wrap (a2_1))).bind fun t230 => ((bailiwickref1_Lay.f kj3 t230 2 (IntKind.u64.wrap (wrap64 (8 + (l2_3.length : Int))))).bind fun t233 => ((some (([0, 0] : List Int) : List Int)).bind fun y236 => (if t233.length + y236.length < 140737488355328 then (bailiwickref3_BuildDatagram.l0 kj3 a0 a1 (wrap64 (8 + (l2_3.length : Int))) (t233 ++ y236) 0 a2_0 a2_1 a2_2 l2_3) else (none))))) = some (r1, r2) := H
     have A14 := Aside0.mk A140
     clear A140
     replace H := Option.bind_eq_some_iff.mp H
     obtain ⟨t230, A150, H⟩ := H
     replace H : ((bailiwickref1_Lay.f kj3 t230 2 (IntKind.u64.wrap (wrap64 (8 + (l2_3.length : Int))))).bind fun t233 => ((some (([0, 0] : List Int) : List Int)).bind fun y236 => (if t233.length + y236.length < 140737488355328 then (bailiwickref3_BuildDatagram.l0 kj3 a0 a1 (wrap64 (8 + (l2_3.length : Int))) (t233 ++ y236) 0 a2_0 a2_1 a2_2 l2_3) else (none)))) = some (r1, r2) := H
     have A15 := Aside0.mk A150
     clear A150
     replace H := Option.bind_eq_some_iff.mp H
     obtain ⟨t233, A160, H⟩ := H
     replace H : ((some (([0, 0] : List Int) : List Int)).bind fun y236 => (if t233.length + y236.length < 140737488355328 then (bailiwickref3_BuildDatagram.l0 kj3 a0 a1 (wrap64 (8 + (l2_3.length : Int))) (t233 ++ y236) 0 a2_0 a2_1 a2_2 l2_3) else (none))) = some (r1, r2) := H
     have A16 := Aside0.mk A160
     clear A160
     obtain ⟨y236, hy236⟩ : ∃ y_ : List Int, y_ = (([0, 0] : List Int)) := ⟨_, rfl⟩
     replace H : (if t233.length + y236.length < 140737488355328 then (bailiwickref3_BuildDatagram.l0 kj3 a0 a1 (wrap64 (8 + (l2_3.length : Int))) (t233 ++ y236) 0 a2_0 a2_1 a2_2 l2_3) else (none)) = some (r1, r2) := by first | (rw [hy236]; with_reducible exact H) | (have H2_ := (Option.bind_some _ _).symm.trans H; rw [hy236]; with_reducible exact H2_) | (have H2_ := (Option.bind_some _ _).symm.trans H; with_reducible exact H2_) | with_reducible exact H | (rw [hy236]; exact H) | exact H
     have Ny236 := Aside0.mk hy236
     clear hy236
     by_cases c17 : t233.length + y236.length < 140737488355328
     ·rw [if_pos c17] at H
      have LMc17 := Aside0.mk c17
      clear c17
      obtain ⟨y239, hy239⟩ : ∃ y_ : List Int, y_ = (t233 ++ y236) := ⟨_, rfl⟩
      replace H : (bailiwickref3_BuildDatagram.l0 kj3 a0 a1 (wrap64 (8 + (l2_3.length : Int))) y239 0 a2_0 a2_1 a2_2 l2_3) = some (r1, r2) := by first | (rw [hy239]; with_reducible exact H) | (have H2_ := (Option.bind_some _ _).symm.trans H; rw [hy239]; with_reducible exact H2_) | (have H2_ := (Option.bind_some _ _).symm.trans H; with_reducible exact H2_) | with_reducible exact H | (rw [hy239]; exact H) | exact H
      have Ny239 := Aside0.mk hy239
      clear hy239
      have H' := Aside0.mk H
      clear H
      have hcz18_0 : wc.cell? ⟨gb224, 0, none⟩ = some (.int .i64 a2_0) := (blk_cell BK224.out 0).trans rfl
      have hcz18_1 : wc.cell? ⟨gb224, 1, none⟩ = some (.int .i64 a2_1) := (blk_cell BK224.out 1).trans rfl
      have hcz18_2 : wc.cell? ⟨gb224, 2, none⟩ = some (.bool a2_2) := (blk_cell BK224.out 2).trans rfl
      have hcz18_3 : wc.cell? ⟨gb224, 3, none⟩ = some (.slice A2_3 l2_3.length c2_3) := (blk_cell BK224.out 3).trans rfl
      have hfz18_0 := blk_frozen BK224.out 0
      have hfz18_1 := blk_frozen BK224.out 1
      have hfz18_2 := blk_frozen BK224.out 2
      have hfz18_3 := blk_frozen BK224.out 3
      go_wp2_with (first | ((with_reducible refine gate_callee (f := 60) rfl ?_); refine goesL_ (some 34) rfl rfl Try.func60 (by kernel_rfl) rfl #[.slice none 0 0, .int .i64 2, .int .u64 (IntKind.u64.wrap (a2_0))] rfl (by (try simp only [List.map_toArray, List.map_cons, List.map_nil]); first | done | rfl | (simp only [List.length_drop, List.length_take]; rfl)) ?_; (refine (bailiwickref1_Lay.calls kj3 (fun k_ => some k_ = (.slice none 0 0 : Value).ownBlock) (.slice none 0 0) ([] : List Int) 2 (IntKind.u64.wrap (a2_0)) t227 w _ ?side1 ?side2 A14.out).mono ?_); (case side1 => repeat (first | (with_reducible first | exact HB.out | apply below_alloc | apply pw_below_drewN | apply below_drew1 | refine below_set ?_ GE224.out) | exact HB.out)); (case side2 => exact Kd.R_nil _ _ _ _ _); rintro e w19 ⟨v228, rfl, ho0, hb, hkp⟩; refine ⟨_, rfl, ?_⟩; have n0_ := Aside0.mk (blk_kept (by (with_reducible repeat (first | refine blk_drewN ?_ _ | refine blk_drew ?_ | refine blk_alloc ?_ _)); exact BK224.out) hkp (fun hs_ => (fun e_ => by simp [Value.ownBlock] at e_) hs_)); have n1_ := Aside0.mk (Kd.R_mono (ok' := fun k_ => True) ho0 (fun k_ hk_ => trivial)); have n2_ := Aside0.mk (hb); clear BK224; clear HB; have BK224 := n0_; have HO229 := n1_; have HB := n2_; clear n0_ n1_ n2_; (try clear hb); (try clear hkp); (try clear ho0); have hcz20_0 : w19.cell? ⟨gb224, 0, none⟩ = some (.int .i64 a2_0) := (blk_cell BK224.out 0).trans rfl; have hcz20_1 : w19.cell? ⟨gb224, 1, none⟩ = some (.int .i64 a2_1) := (blk_cell BK224.out 1).trans rfl; have hcz20_2 : w19.cell? ⟨gb224, 2, none⟩ = some (.bool a2_2) := (blk_cell BK224.out 2).trans rfl; have hcz20_3 : w19.cell? ⟨gb224, 3, none⟩ = some (.slice A2_3 l2_3.length c2_3) := (blk_cell BK224.out 3).trans rfl; have hfz20_0 := blk_frozen BK224.out 0; have hfz20_1 := blk_frozen BK224.out 1; have hfz20_2 := blk_frozen BK224.out 2; have hfz20_3 := blk_frozen BK224.out 3; obtain ⟨Ao21, co21, eo21⟩ := Kd.R_slice HO229.out; subst eo21) | ((with_reducible refine gate_callee (f := 60) rfl ?_); refine goesL_ (some 39) rfl rfl Try.func60 (by kernel_rfl) rfl #[.slice Ao21 t227.length co21, .int .i64 2, .int .u64 (IntKind.u64.wrap (a2_1))] rfl (by (try simp only [List.map_toArray, List.map_cons, List.map_nil]); first | done | rfl | (simp only [List.length_drop, List.length_take]; rfl)) ?_; (with_reducible refine (bailiwickref1_Lay.calls kj3 (fun k_ => some k_ = (.slice Ao21 t227.length co21 : Value).ownBlock) (.slice Ao21 t227.length co21) t227 2 (IntKind.u64.wrap (a2_1)) t230 w _ ?side1 ?side2 A15.out).mono ?_); (case side1 => repeat (first | (with_reducible first | exact HB.out | apply below_alloc | apply pw_below_drewN | apply below_drew1 | refine below_set ?_ GE224.out) | exact HB.out)); (case side2 => exact Kd.R_tight rfl HO229.out); rintro e w22 ⟨v231, rfl, ho0, hb, hkp⟩; refine ⟨_, rfl, ?_⟩; have n0_ := Aside0.mk (blk_kept (by (with_reducible repeat (first | refine blk_drewN ?_ _ | refine blk_drew ?_ | refine blk_alloc ?_ _)); exact BK224.out) hkp (fun hs_ => (fun e_ => (Kd.R_ne HO229.out BK224.out (by decide)) e_) hs_)); have n1_ := Aside0.mk (Kd.R_mono (ok' := fun k_ => True) ho0 (fun k_ hk_ => trivial)); have n2_ := Aside0.mk (hb); clear BK224; clear HB; clear HO229; have BK224 := n0_; have HO232 := n1_; have HB := n2_; clear n0_ n1_ n2_; (try clear hb); (try clear hkp); (try clear ho0); obtain ⟨Ao23, co23, eo23⟩ := Kd.R_slice HO232.out; subst eo23) | ((with_reducible refine gate_callee (f := 60) rfl ?_); refine goesL_ (some 43) rfl rfl Try.func60 (by kernel_rfl) rfl #[.slice Ao23 t230.length co23, .int .i64 2, .int .u64 (IntKind.u64.wrap (wrap64 (8 + (l2_3.length : Int))))] rfl (by (try simp only [List.map_toArray, List.map_cons, List.map_nil]); first | done | rfl | (simp only [List.length_drop, List.length_take]; rfl)) ?_; (with_reducible refine (bailiwickref1_Lay.calls kj3 (fun k_ => some k_ = (.slice Ao23 t230.length co23 : Value).ownBlock) (.slice Ao23 t230.length co23) t230 2 (IntKind.u64.wrap (wrap64 (8 + (l2_3.length : Int)))) t233 w _ ?side1 ?side2 A16.out).mono ?_); (case side1 => repeat (first | (with_reducible first | exact HB.out | apply below_alloc | apply pw_below_drewN | apply below_drew1 | refine below_set ?_ GE224.out) | exact HB.out)); (case side2 => exact Kd.R_tight rfl HO232.out); rintro e w24 ⟨v234, rfl, ho0, hb, hkp⟩; refine ⟨_, rfl, ?_⟩; have n0_ := Aside0.mk (blk_kept (by (with_reducible repeat (first | refine blk_drewN ?_ _ | refine blk_drew ?_ | refine blk_alloc ?_ _)); exact BK224.out) hkp (fun hs_ => (fun e_ => (Kd.R_ne HO232.out BK224.out (by decide)) e_) hs_)); have n1_ := Aside0.mk (Kd.R_mono (ok' := fun k_ => True) ho0 (fun k_ hk_ => trivial)); have n2_ := Aside0.mk (hb); clear BK224; clear HB; clear HO232; have BK224 := n0_; have HO235 := n1_; have HB := n2_; clear n0_ n1_ n2_; (try clear hb); (try clear hkp); (try clear ho0)) | ((with_reducible refine gate_dst (N := 45) rfl ?_); refine Kd.R_lit (Kd.int .u8) _ 5 ?hg (N := 45) ?hd (xs := ([0, 0] : List Int)) (inner := [.int .u8 0, .int .u8 0]) (ok := fun _ => True) (okp := fun _ => True) ?hr ?hp (fun _ hk => hk) trivial (Below.refl _ _) (Nat.le_refl _) (by simp) ?_; (case hd => rfl); (case hg => rfl); (case hr => first | (go_simp; done) | (go_simp; rfl)); (case hp => exact (Reps.one (show Kd.M (Kd.int .u8) _ _ _ 0 [.int .u8 0] from rfl) (Reps.one (show Kd.M (Kd.int .u8) _ _ _ 0 [.int .u8 0] from rfl) (Reps.none _ _)))); intro v237 w25 ho26 hb hg_ hnew_; clear hg_ hnew_; (first | rw [← Ny236.out] at ho26 | (simp only [Int.reduceToNat] at ho26; rw [← Ny236.out] at ho26)); have n0_ := Aside0.mk (Kd.R_elder' (by (with_reducible repeat (first | apply Kd.R_alloc | apply Kd.R_drewN | apply Kd.R_drew)); exact HO235.out) (Kd.R_base ho26) hb); have n1_ := Aside0.mk (Kd.R_lower (Kd.R_new' ho26 (Kd.R_lt (by (with_reducible repeat (first | apply Kd.R_alloc | apply Kd.R_drewN | apply Kd.R_drew)); exact HO235.out))) (below_size (by repeat (first | (with_reducible first | exact HB.out | apply below_alloc | apply pw_below_drewN | apply below_drew1 | refine below_set ?_ GE224.out) | exact HB.out)))); have n2_ := Aside0.mk (blk_below (g := gb224) (o := .cells #[.int .i64 a2_0, .int .i64 a2_1, .bool a2_2, .slice A2_3 l2_3.length c2_3] 77 (0, 0)) (by (with_reducible repeat (first | refine blk_drewN ?_ _ | refine blk_drew ?_ | refine blk_alloc ?_ _)); exact BK224.out) hb); have n3_ := Aside0.mk (below_step (by repeat (first | (with_reducible first | exact HB.out | apply below_alloc | apply pw_below_drewN | apply below_drew1 | refine below_set ?_ GE224.out) | exact HB.out)) hb); clear HO235; clear BK224; clear HB; have HO235 := n0_; have HO238 := n1_; have BK224 := n2_; have HB := n3_; clear n0_ n1_ n2_ n3_; clear hb ho26; obtain ⟨Ao28, co28, eo28⟩ := Kd.R_slice HO238.out; subst eo28) | ((with_reducible refine gate_builtin (b := .append) (xs := #[.tmp 44, .tmp 45]) rfl ?_); at_builtin; refine Kd.R_append_rows (Kd.int .u8) (w0 := w) w.heap.size rfl (.tmp 44) (.tmp 45) 23 5 (.int .u8 0) 1 rfl Try.underlying23 info5 rfl (by decide) (by omega) v234 t233 y236 _ _ _ (fun k_ => some k_ ≠ (.slice Ao28 y236.length co28 : Value).ownBlock) (fun _ => False) rfl rfl ?aO ?aR (fun _ _ h => h) (fun _ h => h.elim) ?aF ?aB ?aS ?aL ?_; (case aR => repeat (first | exact (Kd.R_reads' HO238.out).2.2 | (with_reducible refine Kd.C_alloc ?_ _) | (with_reducible refine Kd.C_drewN ?_ _) | (with_reducible refine Kd.C_drew ?_))); (case aB => exact (by repeat (first | (with_reducible first | exact HB.out | apply below_alloc | apply pw_below_drewN | apply below_drew1 | refine below_set ?_ GE224.out) | exact HB.out))); (case aF => exact (fun k_ hk => Kd.fresh' (Kd.R_lt (by (with_reducible repeat (first | apply Kd.R_alloc | apply Kd.R_drewN | apply Kd.R_drew)); exact HO238.out)) k_ hk)); (case aO => exact (by (with_reducible repeat (first | apply Kd.R_alloc | apply Kd.R_drewN | apply Kd.R_drew)); exact Kd.R_mono HO235.out (fun _ hk => hk.2))); (case aS => exact (below_size (by repeat (first | (with_reducible first | exact HB.out | apply below_alloc | apply pw_below_drewN | apply below_drew1 | refine below_set ?_ GE224.out) | exact HB.out)))); (case aL => have := LMc17.out; omega); intro v240 w27 ho hb hg hat; rw [← Ny239.out] at ho; have n0_ := Aside0.mk (blk_grown (g := gb224) (o := .cells #[.int .i64 a2_0, .int .i64 a2_1, .bool a2_2, .slice A2_3 l2_3.length c2_3] 77 (0, 0)) (by (with_reducible repeat (first | refine blk_drewN ?_ _ | refine blk_drew ?_ | refine blk_alloc ?_ _)); exact BK224.out) hg (Kd.R_ne HO235.out BK224.out (by decide))); have n1_ := Aside0.mk (Kd.R_after (ok := (fun _ => True)) (by (with_reducible repeat (first | apply Kd.R_alloc | apply Kd.R_drewN | apply Kd.R_drew)); exact HO238.out) hg hat); have n2_ := Aside0.mk (hb); have n3_ := Aside0.mk (ho); clear BK224; clear HO238; clear HB; clear HO235; have BK224 := n0_; have HO238 := n1_; have HB := n2_; have HO241 := n3_; clear n0_ n1_ n2_ n3_; clear ho hb hg hat))
      go_loopg [9, 10] kj3 (fun kq v9 v10 w' => ∃ (x9_2 : List Int) (x10_2 : Int), v10 = .int .i64 x10_2 ∧ Aside0 (bailiwickref3_BuildDatagram.l0 kq a0 a1 (wrap64 (8 + (l2_3.length : Int))) x9_2 x10_2 a2_0 a2_1 a2_2 l2_3 = some (r1, r2)) ∧ Aside0 (kq ≤ kj3) ∧ Aside0 (Kd.R (Kd.int .u8) 5 w' w.heap.size (fun _ => True) v9 x9_2) ∧ Aside0 (w'.heap[gb224]? = some (.cells #[.int .i64 a2_0, .int .i64 a2_1, .bool a2_2, (.slice A2_3 l2_3.length c2_3)] 77 (0, 0))) ∧ Aside0 (Below w.heap.size w w'))
      case atStart => exact ⟨(y239), (0), (by first | rfl | (simp; done) | (simp [*]; done)), H', ⟨Nat.le_refl _⟩, ⟨by (with_reducible repeat (first | apply Kd.R_alloc | apply Kd.R_drewN | apply Kd.R_drew)); exact Kd.R_mono HO241.out (fun _ hk => trivial)⟩, ⟨by (with_reducible repeat (first | refine blk_drewN ?_ _ | refine blk_drew ?_ | refine blk_alloc ?_ _)); exact BK224.out⟩, ⟨by repeat (first | (with_reducible first | exact HB.out | apply below_alloc | apply pw_below_drewN | apply below_drew1 | refine below_set ?_ GE224.out) | exact HB.out)⟩⟩
      case round =>
       clear H'
       try clear c1
       try clear c2
       try clear p2
       try clear c5
       try clear c6
       try clear p6
       try clear c7
       try clear c10
       try clear c11
       try clear c12
       try clear c12b0
       try clear c12b1
       try clear c17
       try clear hcz10_0
       try clear hcz10_1
       try clear hcz10_2
       try clear hcz10_3
       try clear hcz13_0
       try clear hcz13_1
       try clear hcz13_2
       try clear hcz13_3
       try clear hcz18_0
       try clear hcz18_1
       try clear hcz18_2
       try clear hcz18_3
       try clear hcz20_0
       try clear hcz20_1
       try clear hcz20_2
       try clear hcz20_3
       try clear hcz9_0
       try clear hcz9_1
       try clear hcz9_2
       try clear hcz9_3
       try clear hfz10_0
       try clear hfz10_1
       try clear hfz10_2
       try clear hfz10_3
       try clear hfz13_0
       try clear hfz13_1
       try clear hfz13_2
       try clear hfz13_3
       try clear hfz18_0
       try clear hfz18_1
       try clear hfz18_2
       try clear hfz18_3
       try clear hfz20_0
       try clear hfz20_1
       try clear hfz20_2
       try clear hfz20_3
       try clear hfz9_0
       try clear hfz9_1
       try clear hfz9_2
       try clear hfz9_3
       try clear p2
       obtain ⟨x9_2, x10_2, rfl, HA, HK2, HO_9, BK224, HB⟩ := hrel
       cases gk with
       | zero => exact absurd HA.out (by simp [bailiwickref3_BuildDatagram.l0])
       | succ k2 =>
        have H := HA.out
        clear HA
        simp only [bailiwickref3_BuildDatagram.l0] at H
        by_cases c29 : x10_2 < (l2_3.length : Int)
        ·rw [if_pos c29] at H
         have c29b0 : decide (x10_2 < (l2_3.length : Int)) = true := decide_eq_true c29
         clear c29
         by_cases c30 : 0 ≤ x10_2
         ·rw [if_pos c30] at H
          have c30b0 : decide (0 ≤ x10_2) = true := decide_eq_true c30
          clear c30
          by_cases c31 : x9_2.length < 140737488355328
          ·rw [if_pos c31] at H
           have LMc31 := Aside0.mk c31
           clear c31
           obtain ⟨y243, hy243⟩ : ∃ y_ : List Int, y_ = (x9_2 ++ [rd l2_3 x10_2]) := ⟨_, rfl⟩
           replace H : (bailiwickref3_BuildDatagram.l0 k2 a0 a1 (wrap64 (8 + (l2_3.length : Int))) y243 (wrap64 (x10_2 + 1)) a2_0 a2_1 a2_2 l2_3) = some (r1, r2) := by first | (rw [hy243]; with_reducible exact H) | (have H2_ := (Option.bind_some _ _).symm.trans H; rw [hy243]; with_reducible exact H2_) | (have H2_ := (Option.bind_some _ _).symm.trans H; with_reducible exact H2_) | with_reducible exact H | (rw [hy243]; exact H) | exact H
           have Ny243 := Aside0.mk hy243
           clear hy243
           have H' := Aside0.mk H
           clear H
           have hcz32_0 : wr.cell? ⟨gb224, 0, none⟩ = some (.int .i64 a2_0) := (blk_cell BK224.out 0).trans rfl
           have hcz32_1 : wr.cell? ⟨gb224, 1, none⟩ = some (.int .i64 a2_1) := (blk_cell BK224.out 1).trans rfl
           have hcz32_2 : wr.cell? ⟨gb224, 2, none⟩ = some (.bool a2_2) := (blk_cell BK224.out 2).trans rfl
           have hcz32_3 : wr.cell? ⟨gb224, 3, none⟩ = some (.slice A2_3 l2_3.length c2_3) := (blk_cell BK224.out 3).trans rfl
           have hfz32_0 := blk_frozen BK224.out 0
           have hfz32_1 := blk_frozen BK224.out 1
           have hfz32_2 := blk_frozen BK224.out 2
           have hfz32_3 := blk_frozen BK224.out 3
           have p242 : 0 ≤ (x10_2 : Int) := of_decide_eq_true (by first | (with_reducible assumption) | assumption)
           have q242 : x10_2 < (l2_3.length : Int) := of_decide_eq_true (by first | (with_reducible assumption) | assumption)
           obtain ⟨ad242, e242, hx242_0⟩ := Kd.at_int HR2_3.out x10_2 p242 q242
           cases e242
           replace hx242_0 := (HB.out.cell (World.block_lt_of_cell? w _ hx242_0)).trans hx242_0
           replace p242 := eq_true p242
           replace q242 := eq_true q242
           go_wp2_with (first | ((with_reducible refine gate_builtin (b := .append) (xs := #[.tmp 54, .tmp 60]) rfl ?_); at_builtin; refine Kd.R_append (Kd.int .u8) (w0 := w) w.heap.size rfl (.tmp 54) (.tmp 60) 23 5 (.int .u8 0) 1 rfl Try.underlying23 info5 rfl (by decide) (by omega) u9 x9_2 (rd l2_3 x10_2) [.int .u8 (rd l2_3 x10_2)] (fun _ => True) (fun _ => False) rfl rfl ?aP (fun _ hk => hk.elim) ?aF ?aO ?aB ?aS ?aL ?_; (case aP => exact rfl); (case aB => exact (by repeat (first | (with_reducible first | exact HB.out | apply below_alloc | apply pw_below_drewN | apply below_drew1 | refine below_set ?_ GE224.out) | exact HB.out))); (case aF => exact (fun _ _ => trivial)); (case aO => exact (by (with_reducible repeat (first | apply Kd.R_alloc | apply Kd.R_drewN | apply Kd.R_drew)); exact HO_9.out)); (case aS => exact (below_size (by repeat (first | (with_reducible first | exact HB.out | apply below_alloc | apply pw_below_drewN | apply below_drew1 | refine below_set ?_ GE224.out) | exact HB.out)))); (case aL => have := LMc31.out; omega); intro v244 w33 ho hb hg hat; rw [← Ny243.out] at ho; have n0_ := Aside0.mk (blk_grown (g := gb224) (o := .cells #[.int .i64 a2_0, .int .i64 a2_1, .bool a2_2, .slice (some ad242) l2_3.length c2_3] 77 (0, 0)) (by (with_reducible repeat (first | refine blk_drewN ?_ _ | refine blk_drew ?_ | refine blk_alloc ?_ _)); exact BK224.out) hg (Kd.R_ne HO_9.out BK224.out (by decide))); have n1_ := Aside0.mk (hb); have n2_ := Aside0.mk (ho); clear BK224; clear HB; clear HO_9; have BK224 := n0_; have HB := n1_; have HO245 := n2_; clear n0_ n1_ n2_; clear ho hb hg hat))
           go_roundg k2
           case measure => have := HJ3.out; have := HK2.out; omega
           case rel => exact ⟨(y243), (wrap64 (x10_2 + 1)), (by first | rfl | (simp; done) | (simp [*]; done)), H', ⟨by have := HJ3.out; have := HK2.out; omega⟩, ⟨by (with_reducible repeat (first | apply Kd.R_alloc | apply Kd.R_drewN | apply Kd.R_drew)); exact HO245.out⟩, ⟨by (with_reducible repeat (first | refine blk_drewN ?_ _ | refine blk_drew ?_ | refine blk_alloc ?_ _)); exact BK224.out⟩, ⟨by repeat (first | (with_reducible first | exact HB.out | apply below_alloc | apply pw_below_drewN | apply below_drew1 | refine below_set ?_ GE224.out) | exact HB.out)⟩⟩
          ·rw [if_neg c31] at H
           exact absurd H (by simp)
         ·rw [if_neg c30] at H
          exact absurd H (by simp)
        ·rw [if_neg c29] at H
         have c29b0 : decide (x10_2 < (l2_3.length : Int)) = false := decide_eq_false c29
         clear c29
         by_cases c34 : a2_2 = true
         ·subst c34
          have H1 : (some (x9_2, 0)) = some (r1, r2) := by rw [if_pos rfl] at H; exact H
          clear H
          have H := H1
          clear H1
          simp only [Option.some.injEq, Prod.mk.injEq] at H
          obtain ⟨rfl, rfl⟩ := H
          have hcz35_0 : wr.cell? ⟨gb224, 0, none⟩ = some (.int .i64 a2_0) := (blk_cell BK224.out 0).trans rfl
          have hcz35_1 : wr.cell? ⟨gb224, 1, none⟩ = some (.int .i64 a2_1) := (blk_cell BK224.out 1).trans rfl
          have hcz35_2 : wr.cell? ⟨gb224, 2, none⟩ = some (.bool true) := (blk_cell BK224.out 2).trans rfl
          have hcz35_3 : wr.cell? ⟨gb224, 3, none⟩ = some (.slice A2_3 l2_3.length c2_3) := (blk_cell BK224.out 3).trans rfl
          have hfz35_0 := blk_frozen BK224.out 0
          have hfz35_1 := blk_frozen BK224.out 1
          have hfz35_2 := blk_frozen BK224.out 2
          have hfz35_3 := blk_frozen BK224.out 3
          go_wp2
          go_ret2
          exact ⟨_, by first | rfl | (simp [errW_none, errW_some] <;> rfl) | (simp [*, errW_none, errW_some] <;> rfl), by (with_reducible repeat (first | apply Kd.R_alloc | apply Kd.R_drewN | apply Kd.R_drew)); exact HO_9.out, by repeat (first | (with_reducible first | exact HB.out | apply below_alloc | apply pw_below_drewN | apply below_drew1 | refine below_set ?_ GE224.out) | exact HB.out)⟩
         ·replace c34 := Bool.eq_false_iff.mpr c34
          subst c34
          have H1 : ((bailiwickref3_Pseudo.f k2 a0 a1 17 (wrap64 (8 + (l2_3.length : Int)))).bind fun t246 => ((bailiwickref1_Sum.f k2 (([t246, x9_2] : List (List Int)))).bind fun t253 => (if (wrap64 (65535 - t253)) = 0 then (if 6 < (x9_2.length : Int) then (if 7 < (x9_2.length : Int) then (some (((x9_2.set (6 : Int).toNat (255)).set (7 : Int).toNat (255)), 0)) else (none)) else (none)) else (if 6 < (x9_2.length : Int) then (if 7 < (x9_2.length : Int) then (some (((x9_2.set (6 : Int).toNat (((wrap64 (65535 - t253)) / 256) % 256)).set (7 : Int).toNat ((wrap64 (65535 - t253)) % 256)), 0)) else (none)) else (none))))) = some (r1, r2) := by rw [if_neg (show ¬ (false = true) by decide)] at H; exact H
          clear H
          have H := H1
          clear H1
          replace H := Option.bind_eq_some_iff.mp H
          obtain ⟨t246, A360, H⟩ := H
          replace H : ((bailiwickref1_Sum.f k2 (([t246, x9_2] : List (List Int)))).bind fun t253 => (if (wrap64 (65535 - t253)) = 0 then (if 6 < (x9_2.length : Int) then (if 7 < (x9_2.length : Int) then (some (((x9_2.set (6 : Int).toNat (255)).set (7 : Int).toNat (255)), 0)) else (none)) else (none)) else (if 6 < (x9_2.length : Int) then (if 7 < (x9_2.length : Int) then (some (((x9_2.set (6 : Int).toNat (((wrap64 (65535 - t253)) / 256) % 256)).set (7 : Int).toNat ((wrap64 (65535 - t253)) % 256)), 0)) else (none)) else (none)))) = some (r1, r2) := H
          have A36 := Aside0.mk A360
          clear A360
          obtain ⟨y249, hy249⟩ : ∃ y_ : List (List Int), y_ = (([t246, x9_2] : List (List Int))) := ⟨_, rfl⟩
          replace H : ((bailiwickref1_Sum.f k2 y249).bind fun t253 => (if (wrap64 (65535 - t253)) = 0 then (if 6 < (x9_2.length : Int) then (if 7 < (x9_2.length : Int) then (some (((x9_2.set (6 : Int).toNat (255)).set (7 : Int).toNat (255)), 0)) else (none)) else (none)) else (if 6 < (x9_2.length : Int) then (if 7 < (x9_2.length : Int) then (some (((x9_2.set (6 : Int).toNat (((wrap64 (65535 - t253)) / 256) % 256)).set (7 : Int).toNat ((wrap64 (65535 - t253)) % 256)), 0)) else (none)) else (none)))) = some (r1, r2) := by first | (rw [hy249]; with_reducible exact H) | (have H2_ := (Option.bind_some _ _).symm.trans H; rw [hy249]; with_reducible exact H2_) | (have H2_ := (Option.bind_some _ _).symm.trans H; with_reducible exact H2_) | with_reducible exact H | (rw [hy249]; exact H) | exact H
          have Ny249 := Aside0.mk hy249
          clear hy249
          replace H := Option.bind_eq_some_iff.mp H
          obtain ⟨t253, A370, H⟩ := H
          replace H : (if (wrap64 (65535 - t253)) = 0 then (if 6 < (x9_2.length : Int) then (if 7 < (x9_2.length : Int) then (some (((x9_2.set (6 : Int).toNat (255)).set (7 : Int).toNat (255)), 0)) else (none)) else (none)) else (if 6 < (x9_2.length : Int) then (if 7 < (x9_2.length : Int) then (some (((x9_2.set (6 : Int).toNat (((wrap64 (65535 - t253)) / 256) % 256)).set (7 : Int).toNat ((wrap64 (65535 - t253)) % 256)), 0)) else (none)) else (none))) = some (r1, r2) := H
          have A37 := Aside0.mk A370
          clear A370
          by_cases c38 : (wrap64 (65535 - t253)) = 0
          ·rw [if_pos c38] at H
           have c38b0 : ((wrap64 (65535 - t253)) == 0) = true := beq_iff_eq.mpr c38
           have c38b1 : ((wrap64 (65535 - t253)) != 0) = false := bne_eq_false_iff_eq.mpr c38
           clear c38
           by_cases c39 : 6 < (x9_2.length : Int)
           ·rw [if_pos c39] at H
            have c39b0 : decide (6 < (x9_2.length : Int)) = true := decide_eq_true c39
            have c39b1 : decide (6 < x9_2.length) = true := decide_eq_true (by omega)
            clear c39
            obtain ⟨y254, hy254⟩ : ∃ y_ : List Int, y_ = (x9_2.set (6 : Int).toNat (255)) := ⟨_, rfl⟩
            replace H : (if 7 < (x9_2.length : Int) then (some ((y254.set (7 : Int).toNat (255)), 0)) else (none)) = some (r1, r2) := by first | (rw [hy254]; with_reducible exact H) | (have H2_ := (Option.bind_some _ _).symm.trans H; rw [hy254]; with_reducible exact H2_) | (have H2_ := (Option.bind_some _ _).symm.trans H; with_reducible exact H2_) | with_reducible exact H | (rw [hy254]; exact H) | exact H
            have Ny254 := Aside0.mk hy254
            clear hy254
            by_cases c41 : 7 < (x9_2.length : Int)
            ·rw [if_pos c41] at H
             have c41b0 : decide (7 < (x9_2.length : Int)) = true := decide_eq_true c41
             have c41b1 : decide (7 < x9_2.length) = true := decide_eq_true (by omega)
             clear c41
             obtain ⟨y255, hy255⟩ : ∃ y_ : List Int, y_ = (y254.set (7 : Int).toNat (255)) := ⟨_, rfl⟩
             replace H : (some (y255, 0)) = some (r1, r2) := by first | (rw [hy255]; with_reducible exact H) | (have H2_ := (Option.bind_some _ _).symm.trans H; rw [hy255]; with_reducible exact H2_) | (have H2_ := (Option.bind_some _ _).symm.trans H; with_reducible exact H2_) | with_reducible exact H | (rw [hy255]; exact H) | exact H
             have Ny255 := Aside0.mk hy255
             clear hy255
             simp only [Option.some.injEq, Prod.mk.injEq] at H
             obtain ⟨rfl, rfl⟩ := H
             have hcz43_0 : wr.cell? ⟨gb224, 0, none⟩ = some (.int .i64 a2_0) := (blk_cell BK224.out 0).trans rfl
             have hcz43_1 : wr.cell? ⟨gb224, 1, none⟩ = some (.int .i64 a2_1) := (blk_cell BK224.out 1).trans rfl
             have hcz43_2 : wr.cell? ⟨gb224, 2, none⟩ = some (.bool false) := (blk_cell BK224.out 2).trans rfl
             have hcz43_3 : wr.cell? ⟨gb224, 3, none⟩ = some (.slice A2_3 l2_3.length c2_3) := (blk_cell BK224.out 3).trans rfl
             have hfz43_0 := blk_frozen BK224.out 0
             have hfz43_1 := blk_frozen BK224.out 1
             have hfz43_2 := blk_frozen BK224.out 2
             have hfz43_3 := blk_frozen BK224.out 3
             go_wp2_with (first | ((with_reducible refine gate_callee (f := 102) rfl ?_); refine goesL_ (some 68) rfl rfl Try.func102 (by kernel_rfl) rfl #[.int .u32 a0, .int .u32 a1, .int .i64 17, .int .i64 (wrap64 (8 + (l2_3.length : Int)))] rfl (by (try simp only [List.map_toArray, List.map_cons, List.map_nil]); first | done | rfl | (simp only [List.length_drop, List.length_take]; rfl)) ?_; (with_reducible refine (bailiwickref3_Pseudo.calls k2 a0 a1 17 (wrap64 (8 + (l2_3.length : Int))) t246 _ A36.out).mono ?_); rintro e w44 ⟨v247, rfl, ho0, hb⟩; refine ⟨_, rfl, ?_⟩; have n0_ := Aside0.mk (Kd.R_elder' (by (with_reducible repeat (first | apply Kd.R_alloc | apply Kd.R_drewN | apply Kd.R_drew)); exact HO_9.out) (Kd.R_base ho0) hb); have n1_ := Aside0.mk (Kd.R_lower (Kd.R_new' ho0 (Kd.R_lt (by (with_reducible repeat (first | apply Kd.R_alloc | apply Kd.R_drewN | apply Kd.R_drew)); exact HO_9.out))) (below_size (by repeat (first | (with_reducible first | exact HB.out | apply below_alloc | apply pw_below_drewN | apply below_drew1 | refine below_set ?_ GE224.out) | exact HB.out)))); have n2_ := Aside0.mk (blk_below (g := gb224) (o := .cells #[.int .i64 a2_0, .int .i64 a2_1, .bool false, .slice A2_3 l2_3.length c2_3] 77 (0, 0)) (by (with_reducible repeat (first | refine blk_drewN ?_ _ | refine blk_drew ?_ | refine blk_alloc ?_ _)); exact BK224.out) hb); have n3_ := Aside0.mk (below_step (by repeat (first | (with_reducible first | exact HB.out | apply below_alloc | apply pw_below_drewN | apply below_drew1 | refine below_set ?_ GE224.out) | exact HB.out)) hb); clear HO_9; clear BK224; clear HB; have HO_9 := n0_; have HO248 := n1_; have BK224 := n2_; have HB := n3_; clear n0_ n1_ n2_ n3_; (try clear hb); (try clear hb2); (try clear hk); (try clear hi); (try clear ho0); obtain ⟨Ao45, co45, eo45⟩ := Kd.R_slice HO248.out; subst eo45; obtain ⟨Ao46, co46, eo46⟩ := Kd.R_slice HO_9.out; subst eo46) | ((with_reducible refine gate_dst (N := 70) rfl ?_); refine Kd.N_lit (Kd.slice 5 (Kd.int .u8)) _ 23 ?hg (N' := 70) ?hd (xs := ([t246, x9_2] : List (List Int))) (inner := [.slice Ao45 t246.length co45, .slice Ao46 x9_2.length co46]) (ok := fun _ => True) (okp := fun _ => True) ?hr ?hp (fun _ _ => trivial) trivial (Below.refl _ _) (Nat.le_refl _) (by simp) ?_; (case hd => rfl); (case hg => rfl); (case hr => first | (go_simp; done) | (go_simp; rfl)); (case hp => exact (Reps.one (show Kd.FK (Kd.slice 5 (Kd.int .u8)) _ _ t246 [.slice Ao45 t246.length co45] from Kd.FK_slice_mk (by exact (Kd.R_reads' HO248.out).2.1) (Kd.F_mono (Kd.C_F (Kd.heap_int .u8) (by repeat (first | exact (Kd.R_reads' HO248.out).2.2 | (with_reducible refine Kd.C_alloc ?_ _) | (with_reducible refine Kd.C_drewN ?_ _) | (with_reducible refine Kd.C_drew ?_)))) (fun _ _ => trivial))) (Reps.one (show Kd.FK (Kd.slice 5 (Kd.int .u8)) _ _ x9_2 [.slice Ao46 x9_2.length co46] from Kd.FK_slice_mk (by exact (Kd.R_reads' HO_9.out).2.1) (Kd.F_mono (Kd.C_F (Kd.heap_int .u8) (by repeat (first | exact (Kd.R_reads' HO_9.out).2.2 | (with_reducible refine Kd.C_alloc ?_ _) | (with_reducible refine Kd.C_drewN ?_ _) | (with_reducible refine Kd.C_drew ?_)))) (fun _ _ => trivial))) (Reps.none _ _)))); intro vl252 w47 ho hb hg_ hnew_; clear hg_ hnew_; (first | rw [← Ny249.out] at ho | (simp only [Int.reduceToNat] at ho; rw [← Ny249.out] at ho)); obtain ⟨Al252, cl252, el252⟩ := Kd.N_slice ho; subst el252; have hr := (Kd.N_reads' ho).2.2; have hl := (Kd.N_reads' ho).2.1; clear ho; have n0_ := Aside0.mk (Kd.R_below (by (with_reducible repeat (first | apply Kd.R_alloc | apply Kd.R_drewN | apply Kd.R_drew)); exact HO_9.out) hb); have n1_ := Aside0.mk (Kd.R_below (by (with_reducible repeat (first | apply Kd.R_alloc | apply Kd.R_drewN | apply Kd.R_drew)); exact HO248.out) hb); have n2_ := Aside0.mk (blk_below (g := gb224) (o := .cells #[.int .i64 a2_0, .int .i64 a2_1, .bool false, .slice A2_3 l2_3.length c2_3] 77 (0, 0)) (by (with_reducible repeat (first | refine blk_drewN ?_ _ | refine blk_drew ?_ | refine blk_alloc ?_ _)); exact BK224.out) hb); have n3_ := Aside0.mk (below_step (by repeat (first | (with_reducible first | exact HB.out | apply below_alloc | apply pw_below_drewN | apply below_drew1 | refine below_set ?_ GE224.out) | exact HB.out)) hb); have n4_ := Aside0.mk (hr); have n5_ := Aside0.mk (hl); clear HO_9; clear HO248; clear BK224; clear HB; have HO_9 := n0_; have HO248 := n1_; have BK224 := n2_; have HB := n3_; have HRl252 := n4_; have HCl252 := n5_; clear n0_ n1_ n2_ n3_ n4_ n5_; clear hb hr hl; have n_ := Aside0.mk (Kd.R_mono (ok' := (fun k_ => some k_ ≠ (.slice Ao45 t246.length co45 : Value).ownBlock)) HO_9.out (fun k_ hk => hk.2)); clear HO_9; have HO_9 := n_; clear n_; have n_ := Aside0.mk (Kd.R_mono (ok' := (fun k_ => some k_ ≠ (.slice Ao46 x9_2.length co46 : Value).ownBlock)) HO248.out (fun k_ hk => hk.2)); clear HO248; have HO248 := n_; clear n_) | ((with_reducible refine gate_callee (f := 101) rfl ?_); refine goesL_ (some 71) rfl rfl Try.func101 (by kernel_rfl) rfl #[.slice Al252 y249.length cl252] rfl (by (try simp only [List.map_toArray, List.map_cons, List.map_nil]); first | done | rfl | (simp only [List.length_drop, List.length_take]; rfl)) ?_; (with_reducible refine (bailiwickref1_Sum.calls k2 _ _ y249 t253 _ ?side1 ?side2 A37.out).mono ?_); (case side1 => repeat (first | exact (by repeat (first | (with_reducible exact HRl252.out) | (with_reducible refine Kd.C_alloc ?_ _) | (with_reducible refine Kd.C_drewN ?_ _) | (with_reducible refine Kd.C_drew ?_) | exact HRl252.out)) | (with_reducible refine Kd.C_alloc ?_ _) | (with_reducible refine Kd.C_drewN ?_ _) | (with_reducible refine Kd.C_drew ?_))); (case side2 => exact HCl252.out); rintro e w' ⟨rfl, ⟨nd, rfl⟩⟩; refine ⟨_, rfl, ?_⟩; (try (rw [drewN_self w47]; generalize hq_ : World.drewN w47 _ = w47; have n0_ : Aside0 (Kd.R (Kd.int .u8) 5 w47 w.heap.size (fun k_ => some k_ ≠ (.slice Ao46 x9_2.length co46 : Value).ownBlock) (.slice Ao45 t246.length co45) t246) := ⟨by rw [← hq_]; exact (by (with_reducible repeat (first | apply Kd.R_alloc | apply Kd.R_drewN | apply Kd.R_drew)); exact HO248.out)⟩; have n1_ : Aside0 (Kd.R (Kd.int .u8) 5 w47 w.heap.size (fun k_ => some k_ ≠ (.slice Ao45 t246.length co45 : Value).ownBlock) (.slice Ao46 x9_2.length co46) x9_2) := ⟨by rw [← hq_]; exact (by (with_reducible repeat (first | apply Kd.R_alloc | apply Kd.R_drewN | apply Kd.R_drew)); exact HO_9.out)⟩; have n2_ : Aside0 (w47.heap[gb224]? = some (.cells #[.int .i64 a2_0, .int .i64 a2_1, .bool false, .slice A2_3 l2_3.length c2_3] 77 (0, 0))) := ⟨by rw [← hq_]; exact (by (with_reducible repeat (first | refine blk_drewN ?_ _ | refine blk_drew ?_ | refine blk_alloc ?_ _)); exact BK224.out)⟩; have n3_ : Aside0 (Below w.heap.size w w47) := ⟨by rw [← hq_]; exact (by repeat (first | (with_reducible first | exact HB.out | apply below_alloc | apply pw_below_drewN | apply below_drew1 | refine below_set ?_ GE224.out) | exact HB.out))⟩; have n4_ : Aside0 (Kd.C (Kd.slice 5 (Kd.int .u8)) w47 Al252 y249.length y249) := ⟨by rw [← hq_]; exact (by repeat (first | (with_reducible exact HRl252.out) | (with_reducible refine Kd.C_alloc ?_ _) | (with_reducible refine Kd.C_drewN ?_ _) | (with_reducible refine Kd.C_drew ?_) | exact HRl252.out))⟩; clear HO248 HO_9 BK224 HB HRl252 hq_; have HO248 := n0_; have HO_9 := n1_; have BK224 := n2_; have HB := n3_; have HRl252 := n4_; clear n0_ n1_ n2_ n3_ n4_)); have p40 : 0 ≤ (6 : Int) := (by omega); have q40 : (6 : Int) < ((x9_2.length : Int) : Int) := of_decide_eq_true (by first | (with_reducible assumption) | assumption); have qi40 : (6 < x9_2.length) = True := eq_true (by omega); obtain ⟨go40, co40, eo40, gb40, gl40, cl40, HG40⟩ := Kd.R_form HO_9.out (by omega); (first | cases eo40 | (injection eo40 with ea_ en_ ec_; (first | subst ea_ | (injection ea_ with ea_; subst ea_)); subst ec_; clear en_)); have GB40 := Aside0.mk gb40; have GG40 := Aside0.mk HG40; clear gb40 gl40 HG40; obtain ⟨hx40_0, hf40_0⟩ := Kd.R_celln 0 HO_9.out (6 : Int) p40 q40; (try rw [show ((6 : Int)).toNat = 6 from rfl] at hx40_0); (try simp only [Nat.reduceMul, Nat.zero_mul, Nat.zero_add, Nat.reduceAdd] at hx40_0); (try rw [show ((6 : Int)).toNat = 6 from rfl] at hf40_0); (try simp only [Nat.reduceMul, Nat.zero_mul, Nat.zero_add, Nat.reduceAdd] at hf40_0); replace p40 := eq_true p40; replace q40 := eq_true q40; obtain ⟨hy48_, hz48_⟩ := Kd.R_celln 0 HO_9.out (6 : Int) (by omega) (of_decide_eq_true (by first | (with_reducible assumption) | assumption)); (try simp only [Int.reduceToNat, Int.toNat_zero, Int.toNat_ofNat, Nat.reduceMul, Nat.zero_mul, Nat.zero_add] at hy48_ hz48_); (try rw [show ((6 : Int)).toNat = 6 from rfl] at hy48_); (try rw [show ((6 : Int)).toNat = 6 from rfl] at hz48_); have HP48 := Kd.R_putg HO_9.out (6 : Int) (255)) | ((with_reducible refine gate_store (t := 5) (p := 79) rfl ?_); refine store_event (t := 5) (p := 79) (v := ?vo_w49) (w1 := (w47.setCell ⟨go40, (6 : Int).toNat, none⟩ (.int .u8 (255)))) ?hg ?ho ?hn ?hr ?_; (case ho => rfl); (case hg => rfl); (case hn => rfl); (case hr => first | (go_simp; done) | (go_simp; rfl)); intro w49 hw; have hg : w47.grownBy w49 (some go40) := (by rw [hw]; exact HP48.2); have hp_ : Kd.R (Kd.int .u8) 5 w49 w.heap.size (fun k_ => some k_ ≠ (.slice Ao45 t246.length co45 : Value).ownBlock) (.slice (some ⟨go40, 0, none⟩) x9_2.length co46) y254 := (by rw [hw, Ny254.out]; exact HP48.1); clear HP48; have n0_ := Aside0.mk (hp_); have n1_ := Aside0.mk (blk_grown (g := gb224) (o := .cells #[.int .i64 a2_0, .int .i64 a2_1, .bool false, .slice A2_3 l2_3.length c2_3] 77 (0, 0)) (by (with_reducible repeat (first | refine blk_drewN ?_ _ | refine blk_drew ?_ | refine blk_alloc ?_ _)); exact BK224.out) hg (Kd.R_ne HO_9.out BK224.out (by decide))); have n2_ := Aside0.mk (Kd.R_after (v := (.slice (some ⟨go40, 0, none⟩) x9_2.length co46)) (v1 := (.slice (some ⟨go40, 0, none⟩) x9_2.length co46)) (ok := (fun _ => True)) (by (with_reducible repeat (first | apply Kd.R_alloc | apply Kd.R_drewN | apply Kd.R_drew)); exact Kd.R_mono HO248.out (fun _ hk => ⟨trivial, hk⟩)) hg (.inl rfl)); have n3_ := Aside0.mk ((by rw [hw]; exact below_set (HB.out) GB40.out : Below w.heap.size w w49)); clear HO_9; clear BK224; clear HO248; clear HB; have HO_9 := n0_; have BK224 := n1_; have HO248 := n2_; have HB := n3_; clear n0_ n1_ n2_ n3_; clear hg hw hp_; have p42 : 0 ≤ (7 : Int) := (by omega); have q42 : (7 : Int) < ((x9_2.length : Int) : Int) := of_decide_eq_true (by first | (with_reducible assumption) | assumption); have qi42 : (7 < x9_2.length) = True := eq_true (by omega); obtain ⟨hx42_0, hf42_0⟩ := Kd.R_celln 0 HO_9.out (7 : Int) p42 q42; (try rw [show ((7 : Int)).toNat = 7 from rfl] at hx42_0); (try simp only [Nat.reduceMul, Nat.zero_mul, Nat.zero_add, Nat.reduceAdd] at hx42_0); (try rw [show ((7 : Int)).toNat = 7 from rfl] at hf42_0); (try simp only [Nat.reduceMul, Nat.zero_mul, Nat.zero_add, Nat.reduceAdd] at hf42_0); replace p42 := eq_true p42; replace q42 := eq_true q42; obtain ⟨hy50_, hz50_⟩ := Kd.R_celln 0 HO_9.out (7 : Int) (by omega) (of_decide_eq_true (by first | (with_reducible assumption) | assumption)); (try simp only [Int.reduceToNat, Int.toNat_zero, Int.toNat_ofNat, Nat.reduceMul, Nat.zero_mul, Nat.zero_add] at hy50_ hz50_); (try rw [show ((7 : Int)).toNat = 7 from rfl] at hy50_); (try rw [show ((7 : Int)).toNat = 7 from rfl] at hz50_); have HP50 := Kd.R_putg HO_9.out (7 : Int) (255)) | ((with_reducible refine gate_store (t := 5) (p := 83) rfl ?_); refine store_event (t := 5) (p := 83) (v := ?vo_w51) (w1 := (w49.setCell ⟨go40, (7 : Int).toNat, none⟩ (.int .u8 (255)))) ?hg ?ho ?hn ?hr ?_; (case ho => rfl); (case hg => rfl); (case hn => rfl); (case hr => first | (go_simp; done) | (go_simp; rfl)); intro w51 hw; have hg : w49.grownBy w51 (some go40) := (by rw [hw]; exact HP50.2); have hp_ : Kd.R (Kd.int .u8) 5 w51 w.heap.size (fun k_ => some k_ ≠ (.slice Ao45 t246.length co45 : Value).ownBlock) (.slice (some ⟨go40, 0, none⟩) x9_2.length co46) y255 := (by rw [hw, Ny255.out]; exact HP50.1); clear HP50; have n0_ := Aside0.mk (hp_); have n1_ := Aside0.mk (blk_grown (g := gb224) (o := .cells #[.int .i64 a2_0, .int .i64 a2_1, .bool false, .slice A2_3 l2_3.length c2_3] 77 (0, 0)) (by (with_reducible repeat (first | refine blk_drewN ?_ _ | refine blk_drew ?_ | refine blk_alloc ?_ _)); exact BK224.out) hg (Kd.R_ne HO_9.out BK224.out (by decide))); have n2_ := Aside0.mk (Kd.R_after (v := (.slice (some ⟨go40, 0, none⟩) x9_2.length co46)) (v1 := (.slice (some ⟨go40, 0, none⟩) x9_2.length co46)) (ok := (fun _ => True)) (by (with_reducible repeat (first | apply Kd.R_alloc | apply Kd.R_drewN | apply Kd.R_drew)); exact HO248.out) hg (.inl rfl)); have n3_ := Aside0.mk ((by rw [hw]; exact below_set (HB.out) GB40.out : Below w.heap.size w w51)); clear HO_9; clear BK224; clear HO248; clear HB; have HO_9 := n0_; have BK224 := n1_; have HO248 := n2_; have HB := n3_; clear n0_ n1_ n2_ n3_; clear hg hw hp_))
             go_ret2
             exact ⟨_, by first | rfl | (simp [errW_none, errW_some] <;> rfl) | (simp [*, errW_none, errW_some] <;> rfl), by (with_reducible repeat (first | apply Kd.R_alloc | apply Kd.R_drewN | apply Kd.R_drew)); exact Kd.R_mono HO_9.out (fun _ hk => trivial), by repeat (first | (with_reducible first | exact HB.out | apply below_alloc | apply pw_below_drewN | apply below_drew1 | refine below_set ?_ GE224.out) | exact HB.out)⟩
            ·rw [if_neg c41] at H
             exact absurd H (by simp)
           ·rw [if_neg c39] at H
            exact absurd H (by simp)
          ·rw [if_neg c38] at H
           have c38b0 : ((wrap64 (65535 - t253)) == 0) = false := beq_eq_false_iff_ne.mpr c38
           have c38b1 : ((wrap64 (65535 - t253)) != 0) = true := bne_iff_ne.mpr c38
           by_cases c52 : 6 < (x9_2.length : Int)
           ·rw [if_pos c52] at H
            have c52b0 : decide (6 < (x9_2.length : Int)) = true := decide_eq_true c52
            have c52b1 : decide (6 < x9_2.length) = true := decide_eq_true (by omega)
            clear c52
            obtain ⟨y256, hy256⟩ : ∃ y_ : List Int, y_ = (x9_2.set (6 : Int).toNat (((wrap64 (65535 - t253)) / 256) % 256)) := ⟨_, rfl⟩
            replace H : (if 7 < (x9_2.length : Int) then (some ((y256.set (7 : Int).toNat ((wrap64 (65535 - t253)) % 256)), 0)) else (none)) = some (r1, r2) := by first | (rw [hy256]; with_reducible exact H) | (have H2_ := (Option.bind_some _ _).symm.trans H; rw [hy256]; with_reducible exact H2_) | (have H2_ := (Option.bind_some _ _).symm.trans H; with_reducible exact H2_) | with_reducible exact H | (rw [hy256]; exact H) | exact H
            have Ny256 := Aside0.mk hy256
            clear hy256
            by_cases c54 : 7 < (x9_2.length : Int)
            ·rw [if_pos c54] at H
             have c54b0 : decide (7 < (x9_2.length : Int)) = true := decide_eq_true c54
             have c54b1 : decide (7 < x9_2.length) = true := decide_eq_true (by omega)
             clear c54
             obtain ⟨y257, hy257⟩ : ∃ y_ : List Int, y_ = (y256.set (7 : Int).toNat ((wrap64 (65535 - t253)) % 256)) := ⟨_, rfl⟩
             replace H : (some (y257, 0)) = some (r1, r2) := by first | (rw [hy257]; with_reducible exact H) | (have H2_ := (Option.bind_some _ _).symm.trans H; rw [hy257]; with_reducible exact H2_) | (have H2_ := (Option.bind_some _ _).symm.trans H; with_reducible exact H2_) | with_reducible exact H | (rw [hy257]; exact H) | exact H
             have Ny257 := Aside0.mk hy257
             clear hy257
             simp only [Option.some.injEq, Prod.mk.injEq] at H
             obtain ⟨rfl, rfl⟩ := H
             have hcz56_0 : wr.cell? ⟨gb224, 0, none⟩ = some (.int .i64 a2_0) := (blk_cell BK224.out 0).trans rfl
             have hcz56_1 : wr.cell? ⟨gb224, 1, none⟩ = some (.int .i64 a2_1) := (blk_cell BK224.out 1).trans rfl
             have hcz56_2 : wr.cell? ⟨gb224, 2, none⟩ = some (.bool false) := (blk_cell BK224.out 2).trans rfl
             have hcz56_3 : wr.cell? ⟨gb224, 3, none⟩ = some (.slice A2_3 l2_3.length c2_3) := (blk_cell BK224.out 3).trans rfl
             have hfz56_0 := blk_frozen BK224.out 0
             have hfz56_1 := blk_frozen BK224.out 1
             have hfz56_2 := blk_frozen BK224.out 2
             have hfz56_3 := blk_frozen BK224.out 3
             go_wp2_with (first | ((with_reducible refine gate_callee (f := 102) rfl ?_); refine goesL_ (some 68) rfl rfl Try.func102 (by kernel_rfl) rfl #[.int .u32 a0, .int .u32 a1, .int .i64 17, .int .i64 (wrap64 (8 + (l2_3.length : Int)))] rfl (by (try simp only [List.map_toArray, List.map_cons, List.map_nil]); first | done | rfl | (simp only [List.length_drop, List.length_take]; rfl)) ?_; (with_reducible refine (bailiwickref3_Pseudo.calls k2 a0 a1 17 (wrap64 (8 + (l2_3.length : Int))) t246 _ A36.out).mono ?_); rintro e w57 ⟨v247, rfl, ho0, hb⟩; refine ⟨_, rfl, ?_⟩; have n0_ := Aside0.mk (Kd.R_elder' (by (with_reducible repeat (first | apply Kd.R_alloc | apply Kd.R_drewN | apply Kd.R_drew)); exact HO_9.out) (Kd.R_base ho0) hb); have n1_ := Aside0.mk (Kd.R_lower (Kd.R_new' ho0 (Kd.R_lt (by (with_reducible repeat (first | apply Kd.R_alloc | apply Kd.R_drewN | apply Kd.R_drew)); exact HO_9.out))) (below_size (by repeat (first | (with_reducible first | exact HB.out | apply below_alloc | apply pw_below_drewN | apply below_drew1 | refine below_set ?_ GE224.out) | exact HB.out)))); have n2_ := Aside0.mk (blk_below (g := gb224) (o := .cells #[.int .i64 a2_0, .int .i64 a2_1, .bool false, .slice A2_3 l2_3.length c2_3] 77 (0, 0)) (by (with_reducible repeat (first | refine blk_drewN ?_ _ | refine blk_drew ?_ | refine blk_alloc ?_ _)); exact BK224.out) hb); have n3_ := Aside0.mk (below_step (by repeat (first | (with_reducible first | exact HB.out | apply below_alloc | apply pw_below_drewN | apply below_drew1 | refine below_set ?_ GE224.out) | exact HB.out)) hb); clear HO_9; clear BK224; clear HB; have HO_9 := n0_; have HO248 := n1_; have BK224 := n2_; have HB := n3_; clear n0_ n1_ n2_ n3_; (try clear hb); (try clear hb2); (try clear hk); (try clear hi); (try clear ho0); obtain ⟨Ao58, co58, eo58⟩ := Kd.R_slice HO248.out; subst eo58; obtain ⟨Ao59, co59, eo59⟩ := Kd.R_slice HO_9.out; subst eo59) | ((with_reducible refine gate_dst (N := 70) rfl ?_); refine Kd.N_lit (Kd.slice 5 (Kd.int .u8)) _ 23 ?hg (N' := 70) ?hd (xs := ([t246, x9_2] : List (List Int))) (inner := [.slice Ao58 t246.length co58, .slice Ao59 x9_2.length co59]) (ok := fun _ => True) (okp := fun _ => True) ?hr ?hp (fun _ _ => trivial) trivial (Below.refl _ _) (Nat.le_refl _) (by simp) ?_; (case hd => rfl); (case hg => rfl); (case hr => first | (go_simp; done) | (go_simp; rfl)); (case hp => exact (Reps.one (show Kd.FK (Kd.slice 5 (Kd.int .u8)) _ _ t246 [.slice Ao58 t246.length co58] from Kd.FK_slice_mk (by exact (Kd.R_reads' HO248.out).2.1) (Kd.F_mono (Kd.C_F (Kd.heap_int .u8) (by repeat (first | exact (Kd.R_reads' HO248.out).2.2 | (with_reducible refine Kd.C_alloc ?_ _) | (with_reducible refine Kd.C_drewN ?_ _) | (with_reducible refine Kd.C_drew ?_)))) (fun _ _ => trivial))) (Reps.one (show Kd.FK (Kd.slice 5 (Kd.int .u8)) _ _ x9_2 [.slice Ao59 x9_2.length co59] from Kd.FK_slice_mk (by exact (Kd.R_reads' HO_9.out).2.1) (Kd.F_mono (Kd.C_F (Kd.heap_int .u8) (by repeat (first | exact (Kd.R_reads' HO_9.out).2.2 | (with_reducible refine Kd.C_alloc ?_ _) | (with_reducible refine Kd.C_drewN ?_ _) | (with_reducible refine Kd.C_drew ?_)))) (fun _ _ => trivial))) (Reps.none _ _)))); intro vl252 w60 ho hb hg_ hnew_; clear hg_ hnew_; (first | rw [← Ny249.out] at ho | (simp only [Int.reduceToNat] at ho; rw [← Ny249.out] at ho)); obtain ⟨Al252, cl252, el252⟩ := Kd.N_slice ho; subst el252; have hr := (Kd.N_reads' ho).2.2; have hl := (Kd.N_reads' ho).2.1; clear ho; have n0_ := Aside0.mk (Kd.R_below (by (with_reducible repeat (first | apply Kd.R_alloc | apply Kd.R_drewN | apply Kd.R_drew)); exact HO_9.out) hb); have n1_ := Aside0.mk (Kd.R_below (by (with_reducible repeat (first | apply Kd.R_alloc | apply Kd.R_drewN | apply Kd.R_drew)); exact HO248.out) hb); have n2_ := Aside0.mk (blk_below (g := gb224) (o := .cells #[.int .i64 a2_0, .int .i64 a2_1, .bool false, .slice A2_3 l2_3.length c2_3] 77 (0, 0)) (by (with_reducible repeat (first | refine blk_drewN ?_ _ | refine blk_drew ?_ | refine blk_alloc ?_ _)); exact BK224.out) hb); have n3_ := Aside0.mk (below_step (by repeat (first | (with_reducible first | exact HB.out | apply below_alloc | apply pw_below_drewN | apply below_drew1 | refine below_set ?_ GE224.out) | exact HB.out)) hb); have n4_ := Aside0.mk (hr); have n5_ := Aside0.mk (hl); clear HO_9; clear HO248; clear BK224; clear HB; have HO_9 := n0_; have HO248 := n1_; have BK224 := n2_; have HB := n3_; have HRl252 := n4_; have HCl252 := n5_; clear n0_ n1_ n2_ n3_ n4_ n5_; clear hb hr hl; have n_ := Aside0.mk (Kd.R_mono (ok' := (fun k_ => some k_ ≠ (.slice Ao58 t246.length co58 : Value).ownBlock)) HO_9.out (fun k_ hk => hk.2)); clear HO_9; have HO_9 := n_; clear n_; have n_ := Aside0.mk (Kd.R_mono (ok' := (fun k_ => some k_ ≠ (.slice Ao59 x9_2.length co59 : Value).ownBlock)) HO248.out (fun k_ hk => hk.2)); clear HO248; have HO248 := n_; clear n_) | ((with_reducible refine gate_callee (f := 101) rfl ?_); refine goesL_ (some 71) rfl rfl Try.func101 (by kernel_rfl) rfl #[.slice Al252 y249.length cl252] rfl (by (try simp only [List.map_toArray, List.map_cons, List.map_nil]); first | done | rfl | (simp only [List.length_drop, List.length_take]; rfl)) ?_; (with_reducible refine (bailiwickref1_Sum.calls k2 _ _ y249 t253 _ ?side1 ?side2 A37.out).mono ?_); (case side1 => repeat (first | exact (by repeat (first | (with_reducible exact HRl252.out) | (with_reducible refine Kd.C_alloc ?_ _) | (with_reducible refine Kd.C_drewN ?_ _) | (with_reducible refine Kd.C_drew ?_) | exact HRl252.out)) | (with_reducible refine Kd.C_alloc ?_ _) | (with_reducible refine Kd.C_drewN ?_ _) | (with_reducible refine Kd.C_drew ?_))); (case side2 => exact HCl252.out); rintro e w' ⟨rfl, ⟨nd, rfl⟩⟩; refine ⟨_, rfl, ?_⟩; (try (rw [drewN_self w60]; generalize hq_ : World.drewN w60 _ = w60; have n0_ : Aside0 (Kd.R (Kd.int .u8) 5 w60 w.heap.size (fun k_ => some k_ ≠ (.slice Ao59 x9_2.length co59 : Value).ownBlock) (.slice Ao58 t246.length co58) t246) := ⟨by rw [← hq_]; exact (by (with_reducible repeat (first | apply Kd.R_alloc | apply Kd.R_drewN | apply Kd.R_drew)); exact HO248.out)⟩; have n1_ : Aside0 (Kd.R (Kd.int .u8) 5 w60 w.heap.size (fun k_ => some k_ ≠ (.slice Ao58 t246.length co58 : Value).ownBlock) (.slice Ao59 x9_2.length co59) x9_2) := ⟨by rw [← hq_]; exact (by (with_reducible repeat (first | apply Kd.R_alloc | apply Kd.R_drewN | apply Kd.R_drew)); exact HO_9.out)⟩; have n2_ : Aside0 (w60.heap[gb224]? = some (.cells #[.int .i64 a2_0, .int .i64 a2_1, .bool false, .slice A2_3 l2_3.length c2_3] 77 (0, 0))) := ⟨by rw [← hq_]; exact (by (with_reducible repeat (first | refine blk_drewN ?_ _ | refine blk_drew ?_ | refine blk_alloc ?_ _)); exact BK224.out)⟩; have n3_ : Aside0 (Below w.heap.size w w60) := ⟨by rw [← hq_]; exact (by repeat (first | (with_reducible first | exact HB.out | apply below_alloc | apply pw_below_drewN | apply below_drew1 | refine below_set ?_ GE224.out) | exact HB.out))⟩; have n4_ : Aside0 (Kd.C (Kd.slice 5 (Kd.int .u8)) w60 Al252 y249.length y249) := ⟨by rw [← hq_]; exact (by repeat (first | (with_reducible exact HRl252.out) | (with_reducible refine Kd.C_alloc ?_ _) | (with_reducible refine Kd.C_drewN ?_ _) | (with_reducible refine Kd.C_drew ?_) | exact HRl252.out))⟩; clear HO248 HO_9 BK224 HB HRl252 hq_; have HO248 := n0_; have HO_9 := n1_; have BK224 := n2_; have HB := n3_; have HRl252 := n4_; clear n0_ n1_ n2_ n3_ n4_)); have p53 : 0 ≤ (6 : Int) := (by omega); have q53 : (6 : Int) < ((x9_2.length : Int) : Int) := of_decide_eq_true (by first | (with_reducible assumption) | assumption); have qi53 : (6 < x9_2.length) = True := eq_true (by omega); obtain ⟨go53, co53, eo53, gb53, gl53, cl53, HG53⟩ := Kd.R_form HO_9.out (by omega); (first | cases eo53 | (injection eo53 with ea_ en_ ec_; (first | subst ea_ | (injection ea_ with ea_; subst ea_)); subst ec_; clear en_)); have GB53 := Aside0.mk gb53; have GG53 := Aside0.mk HG53; clear gb53 gl53 HG53; obtain ⟨hx53_0, hf53_0⟩ := Kd.R_celln 0 HO_9.out (6 : Int) p53 q53; (try rw [show ((6 : Int)).toNat = 6 from rfl] at hx53_0); (try simp only [Nat.reduceMul, Nat.zero_mul, Nat.zero_add, Nat.reduceAdd] at hx53_0); (try rw [show ((6 : Int)).toNat = 6 from rfl] at hf53_0); (try simp only [Nat.reduceMul, Nat.zero_mul, Nat.zero_add, Nat.reduceAdd] at hf53_0); replace p53 := eq_true p53; replace q53 := eq_true q53; obtain ⟨hy61_, hz61_⟩ := Kd.R_celln 0 HO_9.out (6 : Int) (by omega) (of_decide_eq_true (by first | (with_reducible assumption) | assumption)); (try simp only [Int.reduceToNat, Int.toNat_zero, Int.toNat_ofNat, Nat.reduceMul, Nat.zero_mul, Nat.zero_add] at hy61_ hz61_); (try rw [show ((6 : Int)).toNat = 6 from rfl] at hy61_); (try rw [show ((6 : Int)).toNat = 6 from rfl] at hz61_); have HP61 := Kd.R_putg HO_9.out (6 : Int) (((wrap64 (65535 - t253)) / 256) % 256)) | ((with_reducible refine gate_store (t := 5) (p := 79) rfl ?_); refine store_event (t := 5) (p := 79) (v := ?vo_w62) (w1 := (w60.setCell ⟨go53, (6 : Int).toNat, none⟩ (.int .u8 (((wrap64 (65535 - t253)) / 256) % 256)))) ?hg ?ho ?hn ?hr ?_; (case ho => rfl); (case hg => rfl); (case hn => rfl); (case hr => first | (go_simp; done) | (go_simp; rfl)); intro w62 hw; have hg : w60.grownBy w62 (some go53) := (by rw [hw]; exact HP61.2); have hp_ : Kd.R (Kd.int .u8) 5 w62 w.heap.size (fun k_ => some k_ ≠ (.slice Ao58 t246.length co58 : Value).ownBlock) (.slice (some ⟨go53, 0, none⟩) x9_2.length co59) y256 := (by rw [hw, Ny256.out]; exact HP61.1); clear HP61; have n0_ := Aside0.mk (hp_); have n1_ := Aside0.mk (blk_grown (g := gb224) (o := .cells #[.int .i64 a2_0, .int .i64 a2_1, .bool false, .slice A2_3 l2_3.length c2_3] 77 (0, 0)) (by (with_reducible repeat (first | refine blk_drewN ?_ _ | refine blk_drew ?_ | refine blk_alloc ?_ _)); exact BK224.out) hg (Kd.R_ne HO_9.out BK224.out (by decide))); have n2_ := Aside0.mk (Kd.R_after (v := (.slice (some ⟨go53, 0, none⟩) x9_2.length co59)) (v1 := (.slice (some ⟨go53, 0, none⟩) x9_2.length co59)) (ok := (fun _ => True)) (by (with_reducible repeat (first | apply Kd.R_alloc | apply Kd.R_drewN | apply Kd.R_drew)); exact Kd.R_mono HO248.out (fun _ hk => ⟨trivial, hk⟩)) hg (.inl rfl)); have n3_ := Aside0.mk ((by rw [hw]; exact below_set (HB.out) GB53.out : Below w.heap.size w w62)); clear HO_9; clear BK224; clear HO248; clear HB; have HO_9 := n0_; have BK224 := n1_; have HO248 := n2_; have HB := n3_; clear n0_ n1_ n2_ n3_; clear hg hw hp_; have p55 : 0 ≤ (7 : Int) := (by omega); have q55 : (7 : Int) < ((x9_2.length : Int) : Int) := of_decide_eq_true (by first | (with_reducible assumption) | assumption); have qi55 : (7 < x9_2.length) = True := eq_true (by omega); obtain ⟨hx55_0, hf55_0⟩ := Kd.R_celln 0 HO_9.out (7 : Int) p55 q55; (try rw [show ((7 : Int)).toNat = 7 from rfl] at hx55_0); (try simp only [Nat.reduceMul, Nat.zero_mul, Nat.zero_add, Nat.reduceAdd] at hx55_0); (try rw [show ((7 : Int)).toNat = 7 from rfl] at hf55_0); (try simp only [Nat.reduceMul, Nat.zero_mul, Nat.zero_add, Nat.reduceAdd] at hf55_0); replace p55 := eq_true p55; replace q55 := eq_true q55; obtain ⟨hy63_, hz63_⟩ := Kd.R_celln 0 HO_9.out (7 : Int) (by omega) (of_decide_eq_true (by first | (with_reducible assumption) | assumption)); (try simp only [Int.reduceToNat, Int.toNat_zero, Int.toNat_ofNat, Nat.reduceMul, Nat.zero_mul, Nat.zero_add] at hy63_ hz63_); (try rw [show ((7 : Int)).toNat = 7 from rfl] at hy63_); (try rw [show ((7 : Int)).toNat = 7 from rfl] at hz63_); have HP63 := Kd.R_putg HO_9.out (7 : Int) ((wrap64 (65535 - t253)) % 256)) | ((with_reducible refine gate_store (t := 5) (p := 83) rfl ?_); refine store_event (t := 5) (p := 83) (v := ?vo_w64) (w1 := (w62.setCell ⟨go53, (7 : Int).toNat, none⟩ (.int .u8 ((wrap64 (65535 - t253)) % 256)))) ?hg ?ho ?hn ?hr ?_; (case ho => rfl); (case hg => rfl); (case hn => rfl); (case hr => first | (go_simp; done) | (go_simp; rfl)); intro w64 hw; have hg : w62.grownBy w64 (some go53) := (by rw [hw]; exact HP63.2); have hp_ : Kd.R (Kd.int .u8) 5 w64 w.heap.size (fun k_ => some k_ ≠ (.slice Ao58 t246.length co58 : Value).ownBlock) (.slice (some ⟨go53, 0, none⟩) x9_2.length co59) y257 := (by rw [hw, Ny257.out]; exact HP63.1); clear HP63; have n0_ := Aside0.mk (hp_); have n1_ := Aside0.mk (blk_grown (g := gb224) (o := .cells #[.int .i64 a2_0, .int .i64 a2_1, .bool false, .slice A2_3 l2_3.length c2_3] 77 (0, 0)) (by (with_reducible repeat (first | refine blk_drewN ?_ _ | refine blk_drew ?_ | refine blk_alloc ?_ _)); exact BK224.out) hg (Kd.R_ne HO_9.out BK224.out (by decide))); have n2_ := Aside0.mk (Kd.R_after (v := (.slice (some ⟨go53, 0, none⟩) x9_2.length co59)) (v1 := (.slice (some ⟨go53, 0, none⟩) x9_2.length co59)) (ok := (fun _ => True)) (by (with_reducible repeat (first | apply Kd.R_alloc | apply Kd.R_drewN | apply Kd.R_drew)); exact HO248.out) hg (.inl rfl)); have n3_ := Aside0.mk ((by rw [hw]; exact below_set (HB.out) GB53.out : Below w.heap.size w w64)); clear HO_9; clear BK224; clear HO248; clear HB; have HO_9 := n0_; have BK224 := n1_; have HO248 := n2_; have HB := n3_; clear n0_ n1_ n2_ n3_; clear hg hw hp_))
             go_ret2
             exact ⟨_, by first | rfl | (simp [errW_none, errW_some] <;> rfl) | (simp [*, errW_none, errW_some] <;> rfl), by (with_reducible repeat (first | apply Kd.R_alloc | apply Kd.R_drewN | apply Kd.R_drew)); exact Kd.R_mono HO_9.out (fun _ hk => trivial), by repeat (first | (with_reducible first | exact HB.out | apply below_alloc | apply pw_below_drewN | apply below_drew1 | refine below_set ?_ GE224.out) | exact HB.out)⟩
            ·rw [if_neg c54] at H
             exact absurd H (by simp)
           ·rw [if_neg c52] at H
            exact absurd H (by simp)
     ·rw [if_neg c17] at H
      exact absurd H (by simp)

end Go.Proofs.Ytljnnhloinbjhaa.P
