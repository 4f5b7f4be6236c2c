-- Laid by a program (wip/tools/myprint.py) out of the translation. Not trusted: Lean checks it.
import Derived.Test.YtljnnhloinbjhaaP0
import Derived.Test.YtljnnhloinbjhaaPbailiwickref1
import Derived.Test.YtljnnhloinbjhaaPbailiwickref3
namespace Go.Proofs.Ytljnnhloinbjhaa.P
open Go.RowKit Go.Proofs.YtljnnhloinbjhaaW.PrintWords Go.Proofs.YtljnnhloinbjhaaW.PrintLast
set_option linter.unusedVariables false
set_option linter.unusedSimpArgs false

/-! ### bailiwickref3_BuildWord: function 92 -/
mutual
def bailiwickref3_BuildWord.j0 : Nat → Bool → Int → Int → Int → List Int → Option (List Int × Int)
 | 0, _, _, _, _, _ => none
 | k + 1, x16, x749000, x749001, x749002, x749003 => if x16 = true then (some (([] : List Int), 1)) else (if (x749003.length : Int) > 2020 then (some (([] : List Int), 3)) else ((bailiwickref1_Lay.f k (([(x749000) % 256, (x749001) % 256, 0, 0] : List Int)) 4 (IntKind.u64.wrap (x749002))).bind fun t754 => (bailiwickref3_BuildWord.l0 k t754 0 x749000 x749001 x749002 x749003)))
def bailiwickref3_BuildWord.l0 : Nat → List Int → Int → Int → Int → Int → List Int → Option (List Int × Int)
 | 0, _, _, _, _, _, _ => none
 | k + 1, x4, x5, x749000, x749001, x749002, x749003 => if x5 < (x749003.length : Int) then (if 0 ≤ x5 then (if x4.length < 140737488355328 then (bailiwickref3_BuildWord.l0 k (x4 ++ [rd x749003 x5]) (wrap64 (x5 + 1)) x749000 x749001 x749002 x749003) else (none)) else (none)) else ((bailiwickref1_One.f k x4).bind fun t761 => (if 2 < (x4.length : Int) then (if 3 < (x4.length : Int) then (some (((x4.set (2 : Int).toNat (((wrap64 (65535 - t761)) / 256) % 256)).set (3 : Int).toNat ((wrap64 (65535 - t761)) % 256)), 0)) else (none)) else (none)))
end
def bailiwickref3_BuildWord.f (k : Nat) (a0_0 : Int) (a0_1 : Int) (a0_2 : Int) (l0_3 : List Int) : Option (List Int × Int) := (bailiwickref3_in.f a0_0 255).bind fun t749 => (if t749 = true then ((bailiwickref3_in.f a0_1 255).bind fun t750 => (bailiwickref3_BuildWord.j0 k (!t750) a0_0 a0_1 a0_2 l0_3)) else (bailiwickref3_BuildWord.j0 k true a0_0 a0_1 a0_2 l0_3))
theorem bailiwickref3_BuildWord.mono_l : ∀ k, (∀ y0 y1 y2 y3 y4, LeO (bailiwickref3_BuildWord.j0 k y0 y1 y2 y3 y4) (bailiwickref3_BuildWord.j0 (k + 1) y0 y1 y2 y3 y4)) ∧ (∀ y0 y1 y2 y3 y4 y5, LeO (bailiwickref3_BuildWord.l0 k y0 y1 y2 y3 y4 y5) (bailiwickref3_BuildWord.l0 (k + 1) y0 y1 y2 y3 y4 y5))
 | 0 => ⟨fun _ _ _ _ _ r h => by simp [bailiwickref3_BuildWord.j0] at h, fun _ _ _ _ _ _ r h => by simp [bailiwickref3_BuildWord.l0] at h⟩
 | k + 1 => by
  obtain ⟨ih0, ih1⟩ := bailiwickref3_BuildWord.mono_l k
  refine ⟨?_, ?_⟩
  ·intro y0 y1 y2 y3 y4
   unfold bailiwickref3_BuildWord.j0
   repeat' first
   | (with_reducible exact ih0 _ _ _ _ _)
   | (with_reducible exact ih1 _ _ _ _ _ _)
   | (with_reducible exact bailiwickref1_Lay.mono _ _ _ _)
   | (with_reducible exact bailiwickref1_One.mono _ _)
   | (with_reducible exact LeO.refl _)
   | (with_reducible exact LeO.none _)
   | (with_reducible refine LeO.ite ?_ ?_)
   | (with_reducible refine LeO.bind ?_ (fun _ => ?_))
   | exact ih0 _ _ _ _ _
   | exact ih1 _ _ _ _ _ _
   | exact bailiwickref1_Lay.mono _ _ _ _
   | exact bailiwickref1_One.mono _ _
   | exact LeO.none _
   | refine LeO.ite ?_ ?_
   | refine LeO.bind ?_ (fun _ => ?_)
  ·intro y0 y1 y2 y3 y4 y5
   unfold bailiwickref3_BuildWord.l0
   repeat' first
   | (with_reducible exact ih0 _ _ _ _ _)
   | (with_reducible exact ih1 _ _ _ _ _ _)
   | (with_reducible exact bailiwickref1_Lay.mono _ _ _ _)
   | (with_reducible exact bailiwickref1_One.mono _ _)
   | (with_reducible exact LeO.refl _)
   | (with_reducible exact LeO.none _)
   | (with_reducible refine LeO.ite ?_ ?_)
   | (with_reducible refine LeO.bind ?_ (fun _ => ?_))
   | exact ih0 _ _ _ _ _
   | exact ih1 _ _ _ _ _ _
   | exact bailiwickref1_Lay.mono _ _ _ _
   | exact bailiwickref1_One.mono _ _
   | exact LeO.none _
   | refine LeO.ite ?_ ?_
   | refine LeO.bind ?_ (fun _ => ?_)
theorem bailiwickref3_BuildWord.mono : ∀ a0 a1 a2 a3 k, LeO (bailiwickref3_BuildWord.f k a0 a1 a2 a3) (bailiwickref3_BuildWord.f (k + 1) a0 a1 a2 a3) := by
 intro a0 a1 a2 a3 k
 obtain ⟨ih0, ih1⟩ := bailiwickref3_BuildWord.mono_l k
 unfold bailiwickref3_BuildWord.f
 repeat' first
   | (with_reducible exact ih0 _ _ _ _ _)
   | (with_reducible exact ih1 _ _ _ _ _ _)
   | (with_reducible exact bailiwickref1_Lay.mono _ _ _ _)
   | (with_reducible exact bailiwickref1_One.mono _ _)
   | (with_reducible exact LeO.refl _)
   | (with_reducible exact LeO.none _)
   | (with_reducible refine LeO.ite ?_ ?_)
   | (with_reducible refine LeO.bind ?_ (fun _ => ?_))
   | exact ih0 _ _ _ _ _
   | exact ih1 _ _ _ _ _ _
   | exact bailiwickref1_Lay.mono _ _ _ _
   | exact bailiwickref1_One.mono _ _
   | exact LeO.none _
   | refine LeO.ite ?_ ?_
   | refine LeO.bind ?_ (fun _ => ?_)
set_option maxHeartbeats 8000000 in
set_option maxRecDepth 100000 in
theorem bailiwickref3_BuildWord.calls (k : Nat) (a0_0 : Int) (a0_1 : Int) (a0_2 : Int) (A0_3 : Option Addr) (c0_3 : Nat) (l0_3 : List Int) (r1 : List Int) (r2 : Int) (w : World) (hr0_3 : Kd.C (Kd.int .u8) w A0_3 l0_3.length l0_3) (hc0_3 : l0_3.length ≤ c0_3) (h : bailiwickref3_BuildWord.f k a0_0 a0_1 a0_2 l0_3 = some (r1, r2)) :
  Calls Try.prog 92 #[.agg #[.int .i64 a0_0, .int .i64 a0_1, .int .u32 a0_2, .slice A0_3 l0_3.length c0_3]] w fun e w' => ∃ v0_ : Value, e = .returned (.tuple #[v0_, .int .i64 r2]) ∧ Kd.R (Kd.int .u8) 5 w' w.heap.size (fun _ => True) v0_ r1 ∧ Below w.heap.size w w' := by
 have hu118 := Try.underlying118
 have HR0_3 := Aside0.mk hr0_3
 have HC0_3 := Aside0.mk hc0_3
 clear hr0_3 hc0_3
 have HB := Aside0.mk (Below.refl w.heap.size w)
 have H : ((bailiwickref3_in.f a0_0 255).bind fun t749 => (if t749 = true then ((bailiwickref3_in.f a0_1 255).bind fun t750 => (bailiwickref3_BuildWord.j0 k (!t750) a0_0 a0_1 a0_2 l0_3)) else (bailiwickref3_BuildWord.j0 k true a0_0 a0_1 a0_2 l0_3))) = some (r1, r2) := h
 clear h
 have HC2 := Aside0.mk H
 clear H
 go_enter Try.func92, Try.ntmps92
 go_upto_region 1 with (first | ((with_reducible refine gate_dst (N := 1) rfl ?_); refine box_event ?hg (N := 1) ?hd (cs := #[.int .i64 a0_0, .int .i64 a0_1, .int .u32 a0_2, .slice A0_3 l0_3.length c0_3]) (t := 118) ?hr ?_; (case hd => rfl); (case hg => rfl); (case hr => first | (go_simp; done) | (go_simp; rfl)); intro gb748 hg w3 hbox hb; have n0_ := Aside0.mk (below_step (by repeat (first | (with_reducible first | exact HB.out | apply below_alloc | apply pw_below_drewN | apply below_drew1) | exact HB.out)) hb); have n1_ := Aside0.mk (hbox); have n2_ := Aside0.mk ((by rw [hg]; exact (below_size (by repeat (first | (with_reducible first | exact HB.out | apply below_alloc | apply pw_below_drewN | apply below_drew1) | exact HB.out))) : w.heap.size ≤ gb748)); have n3_ := Aside0.mk ((by rw [hg]; exact (below_size (by repeat (first | (with_reducible first | exact HB.out | apply below_alloc | apply pw_below_drewN | apply below_drew1) | exact HB.out))) : w.heap.size ≤ gb748)); clear HB; have HB := n0_; have BK748 := n1_; have GW748 := n2_; have GE748 := n3_; clear n0_ n1_ n2_ n3_; clear hb hbox hg))
 (try simp only [Act.put, List.setIfInBounds_toArray, List.set_cons_zero, List.set_cons_succ])
 go_cut [16] (fun v16 wc => ∃ (kq : Nat) (x16_1 : Bool), v16 = .bool x16_1 ∧ Aside0 (bailiwickref3_BuildWord.j0 kq x16_1 a0_0 a0_1 a0_2 l0_3 = some (r1, r2)) ∧ Aside0 (kq ≤ k) ∧ Aside0 (wc.heap[gb748]? = some (.cells #[.int .i64 a0_0, .int .i64 a0_1, .int .u32 a0_2, (.slice A0_3 l0_3.length c0_3)] 118 (0, 0))) ∧ Aside0 (Below w.heap.size w wc))
 case first =>
  have H := HC2.out
  clear HC2
  replace H := Option.bind_eq_some_iff.mp H
  obtain ⟨t749, A40, H⟩ := H
  replace H : (if t749 = true then ((bailiwickref3_in.f a0_1 255).bind fun t750 => (bailiwickref3_BuildWord.j0 k (!t750) a0_0 a0_1 a0_2 l0_3)) else (bailiwickref3_BuildWord.j0 k true a0_0 a0_1 a0_2 l0_3)) = some (r1, r2) := H
  have A4 := Aside0.mk A40
  clear A40
  by_cases c5 : t749 = true
  ·subst c5
   have H1 : ((bailiwickref3_in.f a0_1 255).bind fun t750 => (bailiwickref3_BuildWord.j0 k (!t750) a0_0 a0_1 a0_2 l0_3)) = some (r1, r2) := by rw [if_pos rfl] at H; exact H
   clear H
   have H := H1
   clear H1
   replace H := Option.bind_eq_some_iff.mp H
   obtain ⟨t750, A60, H⟩ := H
   replace H : (bailiwickref3_BuildWord.j0 k (!t750) a0_0 a0_1 a0_2 l0_3) = some (r1, r2) := H
   have A6 := Aside0.mk A60
   clear A60
   have H' := Aside0.mk H
   clear H
   have hcz7_0 : w3.cell? ⟨gb748, 0, none⟩ = some (.int .i64 a0_0) := (blk_cell BK748.out 0).trans rfl
   have hcz7_1 : w3.cell? ⟨gb748, 1, none⟩ = some (.int .i64 a0_1) := (blk_cell BK748.out 1).trans rfl
   have hcz7_2 : w3.cell? ⟨gb748, 2, none⟩ = some (.int .u32 a0_2) := (blk_cell BK748.out 2).trans rfl
   have hcz7_3 : w3.cell? ⟨gb748, 3, none⟩ = some (.slice A0_3 l0_3.length c0_3) := (blk_cell BK748.out 3).trans rfl
   have hfz7_0 := blk_frozen BK748.out 0
   have hfz7_1 := blk_frozen BK748.out 1
   have hfz7_2 := blk_frozen BK748.out 2
   have hfz7_3 := blk_frozen BK748.out 3
   go_wp2_with (first | ((with_reducible refine gate_callee (f := 100) rfl ?_); refine goesL_ (some 9) rfl rfl Try.func100 (by kernel_rfl) rfl #[.int .i64 a0_0, .int .i64 255] rfl (by (try simp only [List.map_toArray, List.map_cons, List.map_nil]); first | done | rfl | (simp only [List.length_drop, List.length_take]; rfl)) ?_; (with_reducible refine (bailiwickref3_in.calls a0_0 255 true _ A4.out).mono ?_); rintro e w' ⟨rfl, ⟨nd, rfl⟩⟩; refine ⟨_, rfl, ?_⟩) | (go_at_call 100; (with_reducible refine (bailiwickref3_in.calls a0_1 255 t750 _ A6.out).mono ?_); rintro e w' ⟨rfl, ⟨nd, rfl⟩⟩))
   go_meet
   case rel => exact ⟨_, (!t750), (by first | rfl | (simp; done) | (simp [*]; done)), H', ⟨by first | omega | exact Nat.le_refl _⟩, ⟨by (with_reducible repeat (first | refine blk_drewN ?_ _ | refine blk_drew ?_ | refine blk_alloc ?_ _)); exact BK748.out⟩, ⟨by repeat (first | (with_reducible first | exact HB.out | apply below_alloc | apply pw_below_drewN | apply below_drew1 | refine below_set ?_ GE748.out) | exact HB.out)⟩⟩
  ·replace c5 := Bool.eq_false_iff.mpr c5
   subst c5
   have H1 : (bailiwickref3_BuildWord.j0 k true a0_0 a0_1 a0_2 l0_3) = some (r1, r2) := by rw [if_neg (show ¬ (false = true) by decide)] at H; exact H
   clear H
   have H := H1
   clear H1
   have H' := Aside0.mk H
   clear H
   have hcz8_0 : w3.cell? ⟨gb748, 0, none⟩ = some (.int .i64 a0_0) := (blk_cell BK748.out 0).trans rfl
   have hcz8_1 : w3.cell? ⟨gb748, 1, none⟩ = some (.int .i64 a0_1) := (blk_cell BK748.out 1).trans rfl
   have hcz8_2 : w3.cell? ⟨gb748, 2, none⟩ = some (.int .u32 a0_2) := (blk_cell BK748.out 2).trans rfl
   have hcz8_3 : w3.cell? ⟨gb748, 3, none⟩ = some (.slice A0_3 l0_3.length c0_3) := (blk_cell BK748.out 3).trans rfl
   have hfz8_0 := blk_frozen BK748.out 0
   have hfz8_1 := blk_frozen BK748.out 1
   have hfz8_2 := blk_frozen BK748.out 2
   have hfz8_3 := blk_frozen BK748.out 3
   go_wp2_with (first | ((with_reducible refine gate_callee (f := 100) rfl ?_); refine goesL_ (some 9) rfl rfl Try.func100 (by kernel_rfl) rfl #[.int .i64 a0_0, .int .i64 255] rfl (by (try simp only [List.map_toArray, List.map_cons, List.map_nil]); first | done | rfl | (simp only [List.length_drop, List.length_take]; rfl)) ?_; (with_reducible refine (bailiwickref3_in.calls a0_0 255 false _ A4.out).mono ?_); rintro e w' ⟨rfl, ⟨nd, rfl⟩⟩; refine ⟨_, rfl, ?_⟩))
   go_meet
   case rel => exact ⟨_, (true), (by first | rfl | (simp; done) | (simp [*]; done)), H', ⟨by first | omega | exact Nat.le_refl _⟩, ⟨by (with_reducible repeat (first | refine blk_drewN ?_ _ | refine blk_drew ?_ | refine blk_alloc ?_ _)); exact BK748.out⟩, ⟨by repeat (first | (with_reducible first | exact HB.out | apply below_alloc | apply pw_below_drewN | apply below_drew1 | refine below_set ?_ GE748.out) | exact HB.out)⟩⟩
 case rest =>
  clear HC2
  try clear c1
  try clear p2
  try clear c5
  try clear hcz7_0
  try clear hcz7_1
  try clear hcz7_2
  try clear hcz7_3
  try clear hcz8_0
  try clear hcz8_1
  try clear hcz8_2
  try clear hcz8_3
  try clear hfz7_0
  try clear hfz7_1
  try clear hfz7_2
  try clear hfz7_3
  try clear hfz8_0
  try clear hfz8_1
  try clear hfz8_2
  try clear hfz8_3
  obtain ⟨kq, x16_1, rfl, HA, HJ1, BK748, HB⟩ := hcut
  cases kq with
  | zero => exact absurd HA.out (by simp [bailiwickref3_BuildWord.j0])
  | succ kj1 =>
   have H := HA.out
   clear HA
   simp only [bailiwickref3_BuildWord.j0] at H
   by_cases c9 : x16_1 = true
   ·subst c9
    have H1 : (some (([] : List Int), 1)) = some (r1, r2) := by rw [if_pos rfl] at H; exact H
    clear H
    have H := H1
    clear H1
    simp only [Option.some.injEq, Prod.mk.injEq] at H
    obtain ⟨rfl, rfl⟩ := H
    go_wp2
    go_ret2
    exact ⟨_, by first | rfl | (simp [errW_none, errW_some] <;> rfl) | (simp [*, errW_none, errW_some] <;> rfl), by first | exact Kd.R_nil _ _ _ _ _ | exact Kd.N_nil _ _ _ _ _ | exact Kd.V_nil _ _ _ _ _ | exact Kd.Q_nil _ _ _ _ _ | exact Kd.S_nil _ _ _ _ _, by repeat (first | (with_reducible first | exact HB.out | apply below_alloc | apply pw_below_drewN | apply below_drew1 | refine below_set ?_ GE748.out) | exact HB.out)⟩
   ·replace c9 := Bool.eq_false_iff.mpr c9
    subst c9
    have H1 : (if (l0_3.length : Int) > 2020 then (some (([] : List Int), 3)) else ((bailiwickref1_Lay.f kj1 (([(a0_0) % 256, (a0_1) % 256, 0, 0] : List Int)) 4 (IntKind.u64.wrap (a0_2))).bind fun t754 => (bailiwickref3_BuildWord.l0 kj1 t754 0 a0_0 a0_1 a0_2 l0_3))) = some (r1, r2) := by rw [if_neg (show ¬ (false = true) by decide)] at H; exact H
    clear H
    have H := H1
    clear H1
    by_cases c10 : (l0_3.length : Int) > 2020
    ·rw [if_pos c10] at H
     have c10b0 : decide (2020 < (l0_3.length : Int)) = true := decide_eq_true c10
     have c10b1 : decide (2020 < l0_3.length) = true := decide_eq_true (by omega)
     clear c10
     simp only [Option.some.injEq, Prod.mk.injEq] at H
     obtain ⟨rfl, rfl⟩ := H
     have hcz11_0 : wc.cell? ⟨gb748, 0, none⟩ = some (.int .i64 a0_0) := (blk_cell BK748.out 0).trans rfl
     have hcz11_1 : wc.cell? ⟨gb748, 1, none⟩ = some (.int .i64 a0_1) := (blk_cell BK748.out 1).trans rfl
     have hcz11_2 : wc.cell? ⟨gb748, 2, none⟩ = some (.int .u32 a0_2) := (blk_cell BK748.out 2).trans rfl
     have hcz11_3 : wc.cell? ⟨gb748, 3, none⟩ = some (.slice A0_3 l0_3.length c0_3) := (blk_cell BK748.out 3).trans rfl
     have hfz11_0 := blk_frozen BK748.out 0
     have hfz11_1 := blk_frozen BK748.out 1
     have hfz11_2 := blk_frozen BK748.out 2
     have hfz11_3 := blk_frozen BK748.out 3
     go_wp2
     go_ret2
     exact ⟨_, by first | rfl | (simp [errW_none, errW_some] <;> rfl) | (simp [*, errW_none, errW_some] <;> rfl), by first | exact Kd.R_nil _ _ _ _ _ | exact Kd.N_nil _ _ _ _ _ | exact Kd.V_nil _ _ _ _ _ | exact Kd.Q_nil _ _ _ _ _ | exact Kd.S_nil _ _ _ _ _, by repeat (first | (with_reducible first | exact HB.out | apply below_alloc | apply pw_below_drewN | apply below_drew1 | refine below_set ?_ GE748.out) | exact HB.out)⟩
    ·rw [if_neg c10] at H
     have c10b0 : decide (2020 < (l0_3.length : Int)) = false := decide_eq_false c10
     have c10b1 : decide (2020 < l0_3.length) = false := decide_eq_false (by omega)
     clear c10
     obtain ⟨y751, hy751⟩ : ∃ y_ : List Int, y_ = (([(a0_0) % 256, (a0_1) % 256, 0, 0] : List Int)) := ⟨_, rfl⟩
     replace H : ((bailiwickref1_Lay.f kj1 y751 4 (IntKind.u64.wrap (a0_2))).bind fun t754 => (bailiwickref3_BuildWord.l0 kj1 t754 0 a0_0 a0_1 a0_2 l0_3)) = some (r1, r2) := by first | (rw [hy751]; with_reducible exact H) | (have H2_ := (Option.bind_some _ _).symm.trans H; rw [hy751]; with_reducible exact H2_) | (have H2_ := (Option.bind_some _ _).symm.trans H; with_reducible exact H2_) | with_reducible exact H | (rw [hy751]; exact H) | exact H
     have Ny751 := Aside0.mk hy751
     clear hy751
     replace H := Option.bind_eq_some_iff.mp H
     obtain ⟨t754, A120, H⟩ := H
     replace H : (bailiwickref3_BuildWord.l0 kj1 t754 0 a0_0 a0_1 a0_2 l0_3) = some (r1, r2) := H
     have A12 := Aside0.mk A120
     clear A120
     have H' := Aside0.mk H
     clear H
     have hcz13_0 : wc.cell? ⟨gb748, 0, none⟩ = some (.int .i64 a0_0) := (blk_cell BK748.out 0).trans rfl
     have hcz13_1 : wc.cell? ⟨gb748, 1, none⟩ = some (.int .i64 a0_1) := (blk_cell BK748.out 1).trans rfl
     have hcz13_2 : wc.cell? ⟨gb748, 2, none⟩ = some (.int .u32 a0_2) := (blk_cell BK748.out 2).trans rfl
     have hcz13_3 : wc.cell? ⟨gb748, 3, none⟩ = some (.slice A0_3 l0_3.length c0_3) := (blk_cell BK748.out 3).trans rfl
     have hfz13_0 := blk_frozen BK748.out 0
     have hfz13_1 := blk_frozen BK748.out 1
     have hfz13_2 := blk_frozen BK748.out 2
     have hfz13_3 := blk_frozen BK748.out 3
     go_wp2_with (first | ((with_reducible refine gate_dst (N := 27) rfl ?_); refine Kd.R_lit (Kd.int .u8) _ 5 ?hg (N := 27) ?hd (xs := ([(a0_0) % 256, (a0_1) % 256, 0, 0] : List Int)) (inner := [.int .u8 ((a0_0) % 256), .int .u8 ((a0_1) % 256), .int .u8 0, .int .u8 0]) (ok := fun _ => True) (okp := fun _ => True) ?hr ?hp (fun _ hk => hk) trivial (Below.refl _ _) (Nat.le_refl _) (by simp) ?_; (case hd => rfl); (case hg => rfl); (case hr => first | (go_simp; done) | (go_simp; rfl)); (case hp => exact (Reps.one (show Kd.M (Kd.int .u8) _ _ _ ((a0_0) % 256) [.int .u8 ((a0_0) % 256)] from rfl) (Reps.one (show Kd.M (Kd.int .u8) _ _ _ ((a0_1) % 256) [.int .u8 ((a0_1) % 256)] from rfl) (Reps.one (show Kd.M (Kd.int .u8) _ _ _ 0 [.int .u8 0] from rfl) (Reps.one (show Kd.M (Kd.int .u8) _ _ _ 0 [.int .u8 0] from rfl) (Reps.none _ _)))))); intro v752 w14 ho15 hb hg_ hnew_; clear hg_ hnew_; (first | rw [← Ny751.out] at ho15 | (simp only [Int.reduceToNat] at ho15; rw [← Ny751.out] at ho15)); have n0_ := Aside0.mk (Kd.R_lower ho15 (below_size (by repeat (first | (with_reducible first | exact HB.out | apply below_alloc | apply pw_below_drewN | apply below_drew1 | refine below_set ?_ GE748.out) | exact HB.out)))); have n1_ := Aside0.mk (blk_below (g := gb748) (o := .cells #[.int .i64 a0_0, .int .i64 a0_1, .int .u32 a0_2, .slice A0_3 l0_3.length c0_3] 118 (0, 0)) (by (with_reducible repeat (first | refine blk_drewN ?_ _ | refine blk_drew ?_ | refine blk_alloc ?_ _)); exact BK748.out) hb); have n2_ := Aside0.mk (below_step (by repeat (first | (with_reducible first | exact HB.out | apply below_alloc | apply pw_below_drewN | apply below_drew1 | refine below_set ?_ GE748.out) | exact HB.out)) hb); clear BK748; clear HB; have HO753 := n0_; have BK748 := n1_; have HB := n2_; clear n0_ n1_ n2_; clear hb ho15; have hcz16_0 : w14.cell? ⟨gb748, 0, none⟩ = some (.int .i64 a0_0) := (blk_cell BK748.out 0).trans rfl; have hcz16_1 : w14.cell? ⟨gb748, 1, none⟩ = some (.int .i64 a0_1) := (blk_cell BK748.out 1).trans rfl; have hcz16_2 : w14.cell? ⟨gb748, 2, none⟩ = some (.int .u32 a0_2) := (blk_cell BK748.out 2).trans rfl; have hcz16_3 : w14.cell? ⟨gb748, 3, none⟩ = some (.slice A0_3 l0_3.length c0_3) := (blk_cell BK748.out 3).trans rfl; have hfz16_0 := blk_frozen BK748.out 0; have hfz16_1 := blk_frozen BK748.out 1; have hfz16_2 := blk_frozen BK748.out 2; have hfz16_3 := blk_frozen BK748.out 3; obtain ⟨Ao17, co17, eo17⟩ := Kd.R_slice HO753.out; subst eo17) | ((with_reducible refine gate_callee (f := 60) rfl ?_); refine goesL_ (some 32) rfl rfl Try.func60 (by kernel_rfl) rfl #[.slice Ao17 y751.length co17, .int .i64 4, .int .u64 (IntKind.u64.wrap (a0_2))] rfl (by (try simp only [List.map_toArray, List.map_cons, List.map_nil]); first | done | rfl | (simp only [List.length_drop, List.length_take]; rfl)) ?_; (with_reducible refine (bailiwickref1_Lay.calls kj1 (fun k_ => some k_ = (.slice Ao17 y751.length co17 : Value).ownBlock) (.slice Ao17 y751.length co17) y751 4 (IntKind.u64.wrap (a0_2)) t754 w _ ?side1 ?side2 A12.out).mono ?_); (case side1 => repeat (first | (with_reducible first | exact HB.out | apply below_alloc | apply pw_below_drewN | apply below_drew1 | refine below_set ?_ GE748.out) | exact HB.out)); (case side2 => exact Kd.R_tight rfl HO753.out); rintro e w18 ⟨v755, rfl, ho0, hb, hkp⟩; refine ⟨_, rfl, ?_⟩; have n0_ := Aside0.mk (blk_kept (by (with_reducible repeat (first | refine blk_drewN ?_ _ | refine blk_drew ?_ | refine blk_alloc ?_ _)); exact BK748.out) hkp (fun hs_ => (fun e_ => (Kd.R_ne HO753.out BK748.out (by decide)) e_) hs_)); have n1_ := Aside0.mk (Kd.R_mono (ok' := fun k_ => True) ho0 (fun k_ hk_ => trivial)); have n2_ := Aside0.mk (hb); clear BK748; clear HB; clear HO753; have BK748 := n0_; have HO756 := n1_; have HB := n2_; clear n0_ n1_ n2_; (try clear hb); (try clear hkp); (try clear ho0)))
     go_loopg [4, 5] kj1 (fun kq v4 v5 w' => ∃ (x4_2 : List Int) (x5_2 : Int), v5 = .int .i64 x5_2 ∧ Aside0 (bailiwickref3_BuildWord.l0 kq x4_2 x5_2 a0_0 a0_1 a0_2 l0_3 = some (r1, r2)) ∧ Aside0 (kq ≤ kj1) ∧ Aside0 (Kd.R (Kd.int .u8) 5 w' w.heap.size (fun _ => True) v4 x4_2) ∧ Aside0 (w'.heap[gb748]? = some (.cells #[.int .i64 a0_0, .int .i64 a0_1, .int .u32 a0_2, (.slice A0_3 l0_3.length c0_3)] 118 (0, 0))) ∧ Aside0 (Below w.heap.size w w'))
     case atStart => exact ⟨(t754), (0), (by first | rfl | (simp; done) | (simp [*]; done)), H', ⟨Nat.le_refl _⟩, ⟨by (with_reducible repeat (first | apply Kd.R_alloc | apply Kd.R_drewN | apply Kd.R_drew)); exact HO756.out⟩, ⟨by (with_reducible repeat (first | refine blk_drewN ?_ _ | refine blk_drew ?_ | refine blk_alloc ?_ _)); exact BK748.out⟩, ⟨by repeat (first | (with_reducible first | exact HB.out | apply below_alloc | apply pw_below_drewN | apply below_drew1 | refine below_set ?_ GE748.out) | exact HB.out)⟩⟩
     case round =>
      clear H'
      try clear c1
      try clear p2
      try clear c5
      try clear c6
      try clear c9
      try clear c10
      try clear c10b0
      try clear c10b1
      try clear hcz11_0
      try clear hcz11_1
      try clear hcz11_2
      try clear hcz11_3
      try clear hcz13_0
      try clear hcz13_1
      try clear hcz13_2
      try clear hcz13_3
      try clear hcz16_0
      try clear hcz16_1
      try clear hcz16_2
      try clear hcz16_3
      try clear hcz7_0
      try clear hcz7_1
      try clear hcz7_2
      try clear hcz7_3
      try clear hcz8_0
      try clear hcz8_1
      try clear hcz8_2
      try clear hcz8_3
      try clear hfz11_0
      try clear hfz11_1
      try clear hfz11_2
      try clear hfz11_3
      try clear hfz13_0
      try clear hfz13_1
      try clear hfz13_2
      try clear hfz13_3
      try clear hfz16_0
      try clear hfz16_1
      try clear hfz16_2
      try clear hfz16_3
      try clear hfz7_0
      try clear hfz7_1
      try clear hfz7_2
      try clear hfz7_3
      try clear hfz8_0
      try clear hfz8_1
      try clear hfz8_2
      try clear hfz8_3
      try clear p2
      obtain ⟨x4_2, x5_2, rfl, HA, HK2, HO_4, BK748, HB⟩ := hrel
      cases gk with
      | zero => exact absurd HA.out (by simp [bailiwickref3_BuildWord.l0])
      | succ k2 =>
       have H := HA.out
       clear HA
       simp only [bailiwickref3_BuildWord.l0] at H
       by_cases c19 : x5_2 < (l0_3.length : Int)
       ·rw [if_pos c19] at H
        have c19b0 : decide (x5_2 < (l0_3.length : Int)) = true := decide_eq_true c19
        clear c19
        by_cases c20 : 0 ≤ x5_2
        ·rw [if_pos c20] at H
         have c20b0 : decide (0 ≤ x5_2) = true := decide_eq_true c20
         clear c20
         by_cases c21 : x4_2.length < 140737488355328
         ·rw [if_pos c21] at H
          have LMc21 := Aside0.mk c21
          clear c21
          obtain ⟨y758, hy758⟩ : ∃ y_ : List Int, y_ = (x4_2 ++ [rd l0_3 x5_2]) := ⟨_, rfl⟩
          replace H : (bailiwickref3_BuildWord.l0 k2 y758 (wrap64 (x5_2 + 1)) a0_0 a0_1 a0_2 l0_3) = some (r1, r2) := by first | (rw [hy758]; with_reducible exact H) | (have H2_ := (Option.bind_some _ _).symm.trans H; rw [hy758]; with_reducible exact H2_) | (have H2_ := (Option.bind_some _ _).symm.trans H; with_reducible exact H2_) | with_reducible exact H | (rw [hy758]; exact H) | exact H
          have Ny758 := Aside0.mk hy758
          clear hy758
          have H' := Aside0.mk H
          clear H
          have hcz22_0 : wr.cell? ⟨gb748, 0, none⟩ = some (.int .i64 a0_0) := (blk_cell BK748.out 0).trans rfl
          have hcz22_1 : wr.cell? ⟨gb748, 1, none⟩ = some (.int .i64 a0_1) := (blk_cell BK748.out 1).trans rfl
          have hcz22_2 : wr.cell? ⟨gb748, 2, none⟩ = some (.int .u32 a0_2) := (blk_cell BK748.out 2).trans rfl
          have hcz22_3 : wr.cell? ⟨gb748, 3, none⟩ = some (.slice A0_3 l0_3.length c0_3) := (blk_cell BK748.out 3).trans rfl
          have hfz22_0 := blk_frozen BK748.out 0
          have hfz22_1 := blk_frozen BK748.out 1
          have hfz22_2 := blk_frozen BK748.out 2
          have hfz22_3 := blk_frozen BK748.out 3
          have p757 : 0 ≤ (x5_2 : Int) := of_decide_eq_true (by first | (with_reducible assumption) | assumption)
          have q757 : x5_2 < (l0_3.length : Int) := of_decide_eq_true (by first | (with_reducible assumption) | assumption)
          obtain ⟨ad757, e757, hx757_0⟩ := Kd.at_int HR0_3.out x5_2 p757 q757
          cases e757
          replace hx757_0 := (HB.out.cell (World.block_lt_of_cell? w _ hx757_0)).trans hx757_0
          replace p757 := eq_true p757
          replace q757 := eq_true q757
          go_wp2_with (first | ((with_reducible refine gate_builtin (b := .append) (xs := #[.tmp 40, .tmp 46]) rfl ?_); at_builtin; refine Kd.R_append (Kd.int .u8) (w0 := w) w.heap.size rfl (.tmp 40) (.tmp 46) 23 5 (.int .u8 0) 1 rfl Try.underlying23 info5 rfl (by decide) (by omega) u4 x4_2 (rd l0_3 x5_2) [.int .u8 (rd l0_3 x5_2)] (fun _ => True) (fun _ => False) rfl rfl ?aP (fun _ hk => hk.elim) ?aF ?aO ?aB ?aS ?aL ?_; (case aP => exact rfl); (case aB => exact (by repeat (first | (with_reducible first | exact HB.out | apply below_alloc | apply pw_below_drewN | apply below_drew1 | refine below_set ?_ GE748.out) | exact HB.out))); (case aF => exact (fun _ _ => trivial)); (case aO => exact (by (with_reducible repeat (first | apply Kd.R_alloc | apply Kd.R_drewN | apply Kd.R_drew)); exact HO_4.out)); (case aS => exact (below_size (by repeat (first | (with_reducible first | exact HB.out | apply below_alloc | apply pw_below_drewN | apply below_drew1 | refine below_set ?_ GE748.out) | exact HB.out)))); (case aL => have := LMc21.out; omega); intro v759 w23 ho hb hg hat; rw [← Ny758.out] at ho; have n0_ := Aside0.mk (blk_grown (g := gb748) (o := .cells #[.int .i64 a0_0, .int .i64 a0_1, .int .u32 a0_2, .slice (some ad757) l0_3.length c0_3] 118 (0, 0)) (by (with_reducible repeat (first | refine blk_drewN ?_ _ | refine blk_drew ?_ | refine blk_alloc ?_ _)); exact BK748.out) hg (Kd.R_ne HO_4.out BK748.out (by decide))); have n1_ := Aside0.mk (hb); have n2_ := Aside0.mk (ho); clear BK748; clear HB; clear HO_4; have BK748 := n0_; have HB := n1_; have HO760 := n2_; clear n0_ n1_ n2_; clear ho hb hg hat))
          go_roundg k2
          case measure => have := HJ1.out; have := HK2.out; omega
          case rel => exact ⟨(y758), (wrap64 (x5_2 + 1)), (by first | rfl | (simp; done) | (simp [*]; done)), H', ⟨by have := HJ1.out; have := HK2.out; omega⟩, ⟨by (with_reducible repeat (first | apply Kd.R_alloc | apply Kd.R_drewN | apply Kd.R_drew)); exact HO760.out⟩, ⟨by (with_reducible repeat (first | refine blk_drewN ?_ _ | refine blk_drew ?_ | refine blk_alloc ?_ _)); exact BK748.out⟩, ⟨by repeat (first | (with_reducible first | exact HB.out | apply below_alloc | apply pw_below_drewN | apply below_drew1 | refine below_set ?_ GE748.out) | exact HB.out)⟩⟩
         ·rw [if_neg c21] at H
          exact absurd H (by simp)
        ·rw [if_neg c20] at H
         exact absurd H (by simp)
       ·rw [if_neg c19] at H
        have c19b0 : decide (x5_2 < (l0_3.length : Int)) = false := decide_eq_false c19
        clear c19
        replace H := Option.bind_eq_some_iff.mp H
        obtain ⟨t761, A240, H⟩ := H
        replace H : (if 2 < (x4_2.length : Int) then (if 3 < (x4_2.length : Int) then (some (((x4_2.set (2 : Int).toNat (((wrap64 (65535 - t761)) / 256) % 256)).set (3 : Int).toNat ((wrap64 (65535 - t761)) % 256)), 0)) else (none)) else (none)) = some (r1, r2) := H
        have A24 := Aside0.mk A240
        clear A240
        by_cases c25 : 2 < (x4_2.length : Int)
        ·rw [if_pos c25] at H
         have c25b0 : decide (2 < (x4_2.length : Int)) = true := decide_eq_true c25
         have c25b1 : decide (2 < x4_2.length) = true := decide_eq_true (by omega)
         clear c25
         obtain ⟨y762, hy762⟩ : ∃ y_ : List Int, y_ = (x4_2.set (2 : Int).toNat (((wrap64 (65535 - t761)) / 256) % 256)) := ⟨_, rfl⟩
         replace H : (if 3 < (x4_2.length : Int) then (some ((y762.set (3 : Int).toNat ((wrap64 (65535 - t761)) % 256)), 0)) else (none)) = some (r1, r2) := by first | (rw [hy762]; with_reducible exact H) | (have H2_ := (Option.bind_some _ _).symm.trans H; rw [hy762]; with_reducible exact H2_) | (have H2_ := (Option.bind_some _ _).symm.trans H; with_reducible exact H2_) | with_reducible exact H | (rw [hy762]; exact H) | exact H
         have Ny762 := Aside0.mk hy762
         clear hy762
         by_cases c27 : 3 < (x4_2.length : Int)
         ·rw [if_pos c27] at H
          have c27b0 : decide (3 < (x4_2.length : Int)) = true := decide_eq_true c27
          have c27b1 : decide (3 < x4_2.length) = true := decide_eq_true (by omega)
          clear c27
          obtain ⟨y763, hy763⟩ : ∃ y_ : List Int, y_ = (y762.set (3 : Int).toNat ((wrap64 (65535 - t761)) % 256)) := ⟨_, rfl⟩
          replace H : (some (y763, 0)) = some (r1, r2) := by first | (rw [hy763]; with_reducible exact H) | (have H2_ := (Option.bind_some _ _).symm.trans H; rw [hy763]; with_reducible exact H2_) | (have H2_ := (Option.bind_some _ _).symm.trans H; with_reducible exact H2_) | with_reducible exact H | (rw [hy763]; exact H) | exact H
          have Ny763 := Aside0.mk hy763
          clear hy763
          simp only [Option.some.injEq, Prod.mk.injEq] at H
          obtain ⟨rfl, rfl⟩ := H
          have hcz29_0 : wr.cell? ⟨gb748, 0, none⟩ = some (.int .i64 a0_0) := (blk_cell BK748.out 0).trans rfl
          have hcz29_1 : wr.cell? ⟨gb748, 1, none⟩ = some (.int .i64 a0_1) := (blk_cell BK748.out 1).trans rfl
          have hcz29_2 : wr.cell? ⟨gb748, 2, none⟩ = some (.int .u32 a0_2) := (blk_cell BK748.out 2).trans rfl
          have hcz29_3 : wr.cell? ⟨gb748, 3, none⟩ = some (.slice A0_3 l0_3.length c0_3) := (blk_cell BK748.out 3).trans rfl
          have hfz29_0 := blk_frozen BK748.out 0
          have hfz29_1 := blk_frozen BK748.out 1
          have hfz29_2 := blk_frozen BK748.out 2
          have hfz29_3 := blk_frozen BK748.out 3
          obtain ⟨Ao30, co30, eo30⟩ := Kd.R_slice HO_4.out
          subst eo30
          go_wp2_with (first | ((with_reducible refine gate_callee (f := 56) rfl ?_); refine goesL_ (some 49) rfl rfl Try.func56 (by kernel_rfl) rfl #[.slice Ao30 x4_2.length co30] rfl (by (try simp only [List.map_toArray, List.map_cons, List.map_nil]); first | done | rfl | (simp only [List.length_drop, List.length_take]; rfl)) ?_; (with_reducible refine (bailiwickref1_One.calls k2 _ _ x4_2 t761 _ ?side1 ?side2 A24.out).mono ?_); (case side1 => repeat (first | exact (Kd.R_reads' HO_4.out).2.2 | (with_reducible refine Kd.C_alloc ?_ _) | (with_reducible refine Kd.C_drewN ?_ _) | (with_reducible refine Kd.C_drew ?_))); (case side2 => exact (Kd.R_reads' HO_4.out).2.1); rintro e w31 ⟨rfl, hb⟩; refine ⟨_, rfl, ?_⟩; have n0_ := Aside0.mk (Kd.R_below (by (with_reducible repeat (first | apply Kd.R_alloc | apply Kd.R_drewN | apply Kd.R_drew)); exact HO_4.out) hb); have n1_ := Aside0.mk (blk_below (g := gb748) (o := .cells #[.int .i64 a0_0, .int .i64 a0_1, .int .u32 a0_2, .slice A0_3 l0_3.length c0_3] 118 (0, 0)) (by (with_reducible repeat (first | refine blk_drewN ?_ _ | refine blk_drew ?_ | refine blk_alloc ?_ _)); exact BK748.out) hb); have n2_ := Aside0.mk (below_step (by repeat (first | (with_reducible first | exact HB.out | apply below_alloc | apply pw_below_drewN | apply below_drew1 | refine below_set ?_ GE748.out) | exact HB.out)) hb); clear HO_4; clear BK748; clear HB; have HO_4 := n0_; have BK748 := n1_; have HB := n2_; clear n0_ n1_ n2_; (try clear hb); (try clear hb2); (try clear hk); (try clear hi); have p26 : 0 ≤ (2 : Int) := (by omega); have q26 : (2 : Int) < ((x4_2.length : Int) : Int) := of_decide_eq_true (by first | (with_reducible assumption) | assumption); have qi26 : (2 < x4_2.length) = True := eq_true (by omega); obtain ⟨go26, co26, eo26, gb26, gl26, cl26, HG26⟩ := Kd.R_form HO_4.out (by omega); (first | cases eo26 | (injection eo26 with ea_ en_ ec_; (first | subst ea_ | (injection ea_ with ea_; subst ea_)); subst ec_; clear en_)); have GB26 := Aside0.mk gb26; have GG26 := Aside0.mk HG26; clear gb26 gl26 HG26; obtain ⟨hx26_0, hf26_0⟩ := Kd.R_celln 0 HO_4.out (2 : Int) p26 q26; (try rw [show ((2 : Int)).toNat = 2 from rfl] at hx26_0); (try simp only [Nat.reduceMul, Nat.zero_mul, Nat.zero_add, Nat.reduceAdd] at hx26_0); (try rw [show ((2 : Int)).toNat = 2 from rfl] at hf26_0); (try simp only [Nat.reduceMul, Nat.zero_mul, Nat.zero_add, Nat.reduceAdd] at hf26_0); replace p26 := eq_true p26; replace q26 := eq_true q26; obtain ⟨hy32_, hz32_⟩ := Kd.R_celln 0 HO_4.out (2 : Int) (by omega) (of_decide_eq_true (by first | (with_reducible assumption) | assumption)); (try simp only [Int.reduceToNat, Int.toNat_zero, Int.toNat_ofNat, Nat.reduceMul, Nat.zero_mul, Nat.zero_add] at hy32_ hz32_); (try rw [show ((2 : Int)).toNat = 2 from rfl] at hy32_); (try rw [show ((2 : Int)).toNat = 2 from rfl] at hz32_); have HP32 := Kd.R_putg HO_4.out (2 : Int) (((wrap64 (65535 - t761)) / 256) % 256)) | ((with_reducible refine gate_store (t := 5) (p := 55) rfl ?_); refine store_event (t := 5) (p := 55) (v := ?vo_w33) (w1 := (w31.setCell ⟨go26, (2 : Int).toNat, none⟩ (.int .u8 (((wrap64 (65535 - t761)) / 256) % 256)))) ?hg ?ho ?hn ?hr ?_; (case ho => rfl); (case hg => rfl); (case hn => rfl); (case hr => first | (go_simp; done) | (go_simp; rfl)); intro w33 hw; have hg : w31.grownBy w33 (some go26) := (by rw [hw]; exact HP32.2); have hp_ : Kd.R (Kd.int .u8) 5 w33 w.heap.size (fun _ => True) (.slice (some ⟨go26, 0, none⟩) x4_2.length co30) y762 := (by rw [hw, Ny762.out]; exact HP32.1); clear HP32; have n0_ := Aside0.mk (hp_); have n1_ := Aside0.mk (blk_grown (g := gb748) (o := .cells #[.int .i64 a0_0, .int .i64 a0_1, .int .u32 a0_2, .slice A0_3 l0_3.length c0_3] 118 (0, 0)) (by (with_reducible repeat (first | refine blk_drewN ?_ _ | refine blk_drew ?_ | refine blk_alloc ?_ _)); exact BK748.out) hg (Kd.R_ne HO_4.out BK748.out (by decide))); have n2_ := Aside0.mk ((by rw [hw]; exact below_set (HB.out) GB26.out : Below w.heap.size w w33)); clear HO_4; clear BK748; clear HB; have HO_4 := n0_; have BK748 := n1_; have HB := n2_; clear n0_ n1_ n2_; clear hg hw hp_; have p28 : 0 ≤ (3 : Int) := (by omega); have q28 : (3 : Int) < ((x4_2.length : Int) : Int) := of_decide_eq_true (by first | (with_reducible assumption) | assumption); have qi28 : (3 < x4_2.length) = True := eq_true (by omega); obtain ⟨hx28_0, hf28_0⟩ := Kd.R_celln 0 HO_4.out (3 : Int) p28 q28; (try rw [show ((3 : Int)).toNat = 3 from rfl] at hx28_0); (try simp only [Nat.reduceMul, Nat.zero_mul, Nat.zero_add, Nat.reduceAdd] at hx28_0); (try rw [show ((3 : Int)).toNat = 3 from rfl] at hf28_0); (try simp only [Nat.reduceMul, Nat.zero_mul, Nat.zero_add, Nat.reduceAdd] at hf28_0); replace p28 := eq_true p28; replace q28 := eq_true q28; obtain ⟨hy34_, hz34_⟩ := Kd.R_celln 0 HO_4.out (3 : Int) (by omega) (of_decide_eq_true (by first | (with_reducible assumption) | assumption)); (try simp only [Int.reduceToNat, Int.toNat_zero, Int.toNat_ofNat, Nat.reduceMul, Nat.zero_mul, Nat.zero_add] at hy34_ hz34_); (try rw [show ((3 : Int)).toNat = 3 from rfl] at hy34_); (try rw [show ((3 : Int)).toNat = 3 from rfl] at hz34_); have HP34 := Kd.R_putg HO_4.out (3 : Int) ((wrap64 (65535 - t761)) % 256)) | ((with_reducible refine gate_store (t := 5) (p := 59) rfl ?_); refine store_event (t := 5) (p := 59) (v := ?vo_w35) (w1 := (w33.setCell ⟨go26, (3 : Int).toNat, none⟩ (.int .u8 ((wrap64 (65535 - t761)) % 256)))) ?hg ?ho ?hn ?hr ?_; (case ho => rfl); (case hg => rfl); (case hn => rfl); (case hr => first | (go_simp; done) | (go_simp; rfl)); intro w35 hw; have hg : w33.grownBy w35 (some go26) := (by rw [hw]; exact HP34.2); have hp_ : Kd.R (Kd.int .u8) 5 w35 w.heap.size (fun _ => True) (.slice (some ⟨go26, 0, none⟩) x4_2.length co30) y763 := (by rw [hw, Ny763.out]; exact HP34.1); clear HP34; have n0_ := Aside0.mk (hp_); have n1_ := Aside0.mk (blk_grown (g := gb748) (o := .cells #[.int .i64 a0_0, .int .i64 a0_1, .int .u32 a0_2, .slice A0_3 l0_3.length c0_3] 118 (0, 0)) (by (with_reducible repeat (first | refine blk_drewN ?_ _ | refine blk_drew ?_ | refine blk_alloc ?_ _)); exact BK748.out) hg (Kd.R_ne HO_4.out BK748.out (by decide))); have n2_ := Aside0.mk ((by rw [hw]; exact below_set (HB.out) GB26.out : Below w.heap.size w w35)); clear HO_4; clear BK748; clear HB; have HO_4 := n0_; have BK748 := n1_; have HB := n2_; clear n0_ n1_ n2_; clear hg hw hp_))
          go_ret2
          exact ⟨_, by first | rfl | (simp [errW_none, errW_some] <;> rfl) | (simp [*, errW_none, errW_some] <;> rfl), by (with_reducible repeat (first | apply Kd.R_alloc | apply Kd.R_drewN | apply Kd.R_drew)); exact HO_4.out, by repeat (first | (with_reducible first | exact HB.out | apply below_alloc | apply pw_below_drewN | apply below_drew1 | refine below_set ?_ GE748.out) | exact HB.out)⟩
         ·rw [if_neg c27] at H
          exact absurd H (by simp)
        ·rw [if_neg c25] at H
         exact absurd H (by simp)

end Go.Proofs.Ytljnnhloinbjhaa.P
