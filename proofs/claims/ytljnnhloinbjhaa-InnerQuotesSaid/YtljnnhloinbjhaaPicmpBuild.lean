-- Laid by a program (wip/tools/myprint.py) out of the translation. Not trusted: Lean checks it.
import Derived.Test.YtljnnhloinbjhaaP0
import Derived.Test.YtljnnhloinbjhaaPoctet
namespace Go.Proofs.Ytljnnhloinbjhaa.P
open Go.RowKit Go.Proofs.YtljnnhloinbjhaaW.PrintWords Go.Proofs.YtljnnhloinbjhaaW.PrintLast
set_option linter.unusedVariables false
set_option linter.unusedSimpArgs false

/-! ### icmp_Build: function 90 -/
def icmp_Build.j0 : Nat → Bool → Int → Int → Int → List Int → Option (List Int × Int)
 | 0, _, _, _, _, _ => none
 | k + 1, x6, x910000, x910001, x910002, x910003 => if x6 = true then (some (([] : List Int), 1)) else (if (x910003.length : Int) > 2020 then (some (([] : List Int), 3)) else ((some (([(x910000) % 256, (x910001) % 256, 0, 0, (x910002 / 16777216) % 256, (x910002 / 65536) % 256, (x910002 / 256) % 256, (x910002) % 256] : List Int) : List Int)).bind fun y910 => (if y910.length + x910003.length < 140737488355328 then ((some (y910 ++ x910003 : List Int)).bind fun y913 => ((octet_Check.f (([y913] : List (List Int)))).bind fun t920 => (if 2 < (y913.length : Int) then (if 3 < (y913.length : Int) then (some (((y913.set (2 : Int).toNat ((t920 / 256) % 256)).set (3 : Int).toNat ((t920) % 256)), 0)) else (none)) else (none)))) else (none))))
def icmp_Build.f (k : Nat) (a0_0 : Int) (a0_1 : Int) (a0_2 : Int) (l0_3 : List Int) : Option (List Int × Int) := if a0_0 < 0 then (icmp_Build.j0 k true a0_0 a0_1 a0_2 l0_3) else (if a0_0 > 255 then (icmp_Build.j0 k true a0_0 a0_1 a0_2 l0_3) else (if a0_1 < 0 then (icmp_Build.j0 k true a0_0 a0_1 a0_2 l0_3) else (icmp_Build.j0 k (decide (a0_1 > 255)) a0_0 a0_1 a0_2 l0_3)))
theorem icmp_Build.mono_l : ∀ k, (∀ y0 y1 y2 y3 y4, LeO (icmp_Build.j0 k y0 y1 y2 y3 y4) (icmp_Build.j0 (k + 1) y0 y1 y2 y3 y4))
 | 0 => fun _ _ _ _ _ r h => by simp [icmp_Build.j0] at h
 | k + 1 => by
  have ih0 := icmp_Build.mono_l k
  ·intro y0 y1 y2 y3 y4
   unfold icmp_Build.j0
   repeat' first
   | (with_reducible exact ih0 _ _ _ _ _)
   | (with_reducible exact LeO.refl _)
   | (with_reducible exact LeO.none _)
   | (with_reducible refine LeO.ite ?_ ?_)
   | (with_reducible refine LeO.bind ?_ (fun _ => ?_))
   | exact ih0 _ _ _ _ _
   | exact LeO.none _
   | refine LeO.ite ?_ ?_
   | refine LeO.bind ?_ (fun _ => ?_)
theorem icmp_Build.mono : ∀ a0 a1 a2 a3 k, LeO (icmp_Build.f k a0 a1 a2 a3) (icmp_Build.f (k + 1) a0 a1 a2 a3) := by
 intro a0 a1 a2 a3 k
 have ih0 := icmp_Build.mono_l k
 unfold icmp_Build.f
 repeat' first
   | (with_reducible exact ih0 _ _ _ _ _)
   | (with_reducible exact LeO.refl _)
   | (with_reducible exact LeO.none _)
   | (with_reducible refine LeO.ite ?_ ?_)
   | (with_reducible refine LeO.bind ?_ (fun _ => ?_))
   | exact ih0 _ _ _ _ _
   | exact LeO.none _
   | refine LeO.ite ?_ ?_
   | refine LeO.bind ?_ (fun _ => ?_)
set_option maxHeartbeats 8000000 in
set_option maxRecDepth 100000 in
theorem icmp_Build.calls (k : Nat) (a0_0 : Int) (a0_1 : Int) (a0_2 : Int) (A0_3 : Option Addr) (c0_3 : Nat) (l0_3 : List Int) (r1 : List Int) (r2 : Int) (w : World) (hr0_3 : Kd.C (Kd.int .u8) w A0_3 l0_3.length l0_3) (hc0_3 : l0_3.length ≤ c0_3) (h : icmp_Build.f k a0_0 a0_1 a0_2 l0_3 = some (r1, r2)) :
  Calls Try.prog 90 #[.agg #[.int .i64 a0_0, .int .i64 a0_1, .int .u32 a0_2, .slice A0_3 l0_3.length c0_3]] w fun e w' => ∃ v0_ : Value, e = .returned (.tuple #[v0_, .int .i64 r2]) ∧ Kd.R (Kd.int .u8) 5 w' w.heap.size (fun _ => True) v0_ r1 ∧ Below w.heap.size w w' := by
 have hu118 := Try.underlying118
 have HR0_3 := Aside0.mk hr0_3
 have HC0_3 := Aside0.mk hc0_3
 clear hr0_3 hc0_3
 have HB := Aside0.mk (Below.refl w.heap.size w)
 have H : (if a0_0 < 0 then (icmp_Build.j0 k true a0_0 a0_1 a0_2 l0_3) else (if a0_0 > 255 then (icmp_Build.j0 k true a0_0 a0_1 a0_2 l0_3) else (if a0_1 < 0 then (icmp_Build.j0 k true a0_0 a0_1 a0_2 l0_3) else (icmp_Build.j0 k (decide (a0_1 > 255)) a0_0 a0_1 a0_2 l0_3)))) = some (r1, r2) := h
 clear h
 have HC2 := Aside0.mk H
 clear H
 go_enter Try.func90, Try.ntmps90
 go_upto_region 1 with (first | ((with_reducible refine gate_dst (N := 1) rfl ?_); refine box_event ?hg (N := 1) ?hd (cs := #[.int .i64 a0_0, .int .i64 a0_1, .int .u32 a0_2, .slice A0_3 l0_3.length c0_3]) (t := 118) ?hr ?_; (case hd => rfl); (case hg => rfl); (case hr => first | (go_simp; done) | (go_simp; rfl)); intro gb909 hg w3 hbox hb; have n0_ := Aside0.mk (below_step (by repeat (first | (with_reducible first | exact HB.out | apply below_alloc | apply pw_below_drewN | apply below_drew1) | exact HB.out)) hb); have n1_ := Aside0.mk (hbox); have n2_ := Aside0.mk ((by rw [hg]; exact (below_size (by repeat (first | (with_reducible first | exact HB.out | apply below_alloc | apply pw_below_drewN | apply below_drew1) | exact HB.out))) : w.heap.size ≤ gb909)); have n3_ := Aside0.mk ((by rw [hg]; exact (below_size (by repeat (first | (with_reducible first | exact HB.out | apply below_alloc | apply pw_below_drewN | apply below_drew1) | exact HB.out))) : w.heap.size ≤ gb909)); clear HB; have HB := n0_; have BK909 := n1_; have GW909 := n2_; have GE909 := n3_; clear n0_ n1_ n2_ n3_; clear hb hbox hg))
 (try simp only [Act.put, List.setIfInBounds_toArray, List.set_cons_zero, List.set_cons_succ])
 go_cut [6] (fun v6 wc => ∃ (kq : Nat) (x6_1 : Bool), v6 = .bool x6_1 ∧ Aside0 (icmp_Build.j0 kq x6_1 a0_0 a0_1 a0_2 l0_3 = some (r1, r2)) ∧ Aside0 (kq ≤ k) ∧ Aside0 (wc.heap[gb909]? = some (.cells #[.int .i64 a0_0, .int .i64 a0_1, .int .u32 a0_2, (.slice A0_3 l0_3.length c0_3)] 118 (0, 0))) ∧ Aside0 (Below w.heap.size w wc))
 case first =>
  have H := HC2.out
  clear HC2
  by_cases c4 : a0_0 < 0
  ·rw [if_pos c4] at H
   have c4b0 : decide (a0_0 < 0) = true := decide_eq_true c4
   clear c4
   (first | rw [c4b0] | (simp only [i64_w, i32_w]; rw [c4b0]) | skip)
   have H' := Aside0.mk H
   clear H
   have hcz5_0 : w3.cell? ⟨gb909, 0, none⟩ = some (.int .i64 a0_0) := (blk_cell BK909.out 0).trans rfl
   have hcz5_1 : w3.cell? ⟨gb909, 1, none⟩ = some (.int .i64 a0_1) := (blk_cell BK909.out 1).trans rfl
   have hcz5_2 : w3.cell? ⟨gb909, 2, none⟩ = some (.int .u32 a0_2) := (blk_cell BK909.out 2).trans rfl
   have hcz5_3 : w3.cell? ⟨gb909, 3, none⟩ = some (.slice A0_3 l0_3.length c0_3) := (blk_cell BK909.out 3).trans rfl
   have hfz5_0 := blk_frozen BK909.out 0
   have hfz5_1 := blk_frozen BK909.out 1
   have hfz5_2 := blk_frozen BK909.out 2
   have hfz5_3 := blk_frozen BK909.out 3
   go_wp2
   go_meet
   case rel => exact ⟨_, (true), (by first | rfl | (simp; done) | (simp [*]; done)), H', ⟨by first | omega | exact Nat.le_refl _⟩, ⟨by (with_reducible repeat (first | refine blk_drewN ?_ _ | refine blk_drew ?_ | refine blk_alloc ?_ _)); exact BK909.out⟩, ⟨by repeat (first | (with_reducible first | exact HB.out | apply below_alloc | apply pw_below_drewN | apply below_drew1 | refine below_set ?_ GE909.out) | exact HB.out)⟩⟩
  ·rw [if_neg c4] at H
   have c4b0 : decide (a0_0 < 0) = false := decide_eq_false c4
   clear c4
   (first | rw [c4b0] | (simp only [i64_w, i32_w]; rw [c4b0]) | skip)
   by_cases c6 : a0_0 > 255
   ·rw [if_pos c6] at H
    have c6b0 : decide (255 < a0_0) = true := decide_eq_true c6
    clear c6
    have H' := Aside0.mk H
    clear H
    have hcz7_0 : w3.cell? ⟨gb909, 0, none⟩ = some (.int .i64 a0_0) := (blk_cell BK909.out 0).trans rfl
    have hcz7_1 : w3.cell? ⟨gb909, 1, none⟩ = some (.int .i64 a0_1) := (blk_cell BK909.out 1).trans rfl
    have hcz7_2 : w3.cell? ⟨gb909, 2, none⟩ = some (.int .u32 a0_2) := (blk_cell BK909.out 2).trans rfl
    have hcz7_3 : w3.cell? ⟨gb909, 3, none⟩ = some (.slice A0_3 l0_3.length c0_3) := (blk_cell BK909.out 3).trans rfl
    have hfz7_0 := blk_frozen BK909.out 0
    have hfz7_1 := blk_frozen BK909.out 1
    have hfz7_2 := blk_frozen BK909.out 2
    have hfz7_3 := blk_frozen BK909.out 3
    go_wp2
    go_meet
    case rel => exact ⟨_, (true), (by first | rfl | (simp; done) | (simp [*]; done)), H', ⟨by first | omega | exact Nat.le_refl _⟩, ⟨by (with_reducible repeat (first | refine blk_drewN ?_ _ | refine blk_drew ?_ | refine blk_alloc ?_ _)); exact BK909.out⟩, ⟨by repeat (first | (with_reducible first | exact HB.out | apply below_alloc | apply pw_below_drewN | apply below_drew1 | refine below_set ?_ GE909.out) | exact HB.out)⟩⟩
   ·rw [if_neg c6] at H
    have c6b0 : decide (255 < a0_0) = false := decide_eq_false c6
    clear c6
    by_cases c8 : a0_1 < 0
    ·rw [if_pos c8] at H
     have c8b0 : decide (a0_1 < 0) = true := decide_eq_true c8
     clear c8
     have H' := Aside0.mk H
     clear H
     have hcz9_0 : w3.cell? ⟨gb909, 0, none⟩ = some (.int .i64 a0_0) := (blk_cell BK909.out 0).trans rfl
     have hcz9_1 : w3.cell? ⟨gb909, 1, none⟩ = some (.int .i64 a0_1) := (blk_cell BK909.out 1).trans rfl
     have hcz9_2 : w3.cell? ⟨gb909, 2, none⟩ = some (.int .u32 a0_2) := (blk_cell BK909.out 2).trans rfl
     have hcz9_3 : w3.cell? ⟨gb909, 3, none⟩ = some (.slice A0_3 l0_3.length c0_3) := (blk_cell BK909.out 3).trans rfl
     have hfz9_0 := blk_frozen BK909.out 0
     have hfz9_1 := blk_frozen BK909.out 1
     have hfz9_2 := blk_frozen BK909.out 2
     have hfz9_3 := blk_frozen BK909.out 3
     go_wp2
     go_meet
     case rel => exact ⟨_, (true), (by first | rfl | (simp; done) | (simp [*]; done)), H', ⟨by first | omega | exact Nat.le_refl _⟩, ⟨by (with_reducible repeat (first | refine blk_drewN ?_ _ | refine blk_drew ?_ | refine blk_alloc ?_ _)); exact BK909.out⟩, ⟨by repeat (first | (with_reducible first | exact HB.out | apply below_alloc | apply pw_below_drewN | apply below_drew1 | refine below_set ?_ GE909.out) | exact HB.out)⟩⟩
    ·rw [if_neg c8] at H
     have c8b0 : decide (a0_1 < 0) = false := decide_eq_false c8
     clear c8
     have H' := Aside0.mk H
     clear H
     have hcz10_0 : w3.cell? ⟨gb909, 0, none⟩ = some (.int .i64 a0_0) := (blk_cell BK909.out 0).trans rfl
     have hcz10_1 : w3.cell? ⟨gb909, 1, none⟩ = some (.int .i64 a0_1) := (blk_cell BK909.out 1).trans rfl
     have hcz10_2 : w3.cell? ⟨gb909, 2, none⟩ = some (.int .u32 a0_2) := (blk_cell BK909.out 2).trans rfl
     have hcz10_3 : w3.cell? ⟨gb909, 3, none⟩ = some (.slice A0_3 l0_3.length c0_3) := (blk_cell BK909.out 3).trans rfl
     have hfz10_0 := blk_frozen BK909.out 0
     have hfz10_1 := blk_frozen BK909.out 1
     have hfz10_2 := blk_frozen BK909.out 2
     have hfz10_3 := blk_frozen BK909.out 3
     go_wp2
     go_meet
     case rel => exact ⟨_, (decide (a0_1 > 255)), (by first | rfl | (simp; done) | (simp [*]; done)), H', ⟨by first | omega | exact Nat.le_refl _⟩, ⟨by (with_reducible repeat (first | refine blk_drewN ?_ _ | refine blk_drew ?_ | refine blk_alloc ?_ _)); exact BK909.out⟩, ⟨by repeat (first | (with_reducible first | exact HB.out | apply below_alloc | apply pw_below_drewN | apply below_drew1 | refine below_set ?_ GE909.out) | exact HB.out)⟩⟩
 case rest =>
  clear HC2
  try clear p2
  try clear c4
  try clear c4b0
  try clear c6
  try clear c6b0
  try clear c8
  try clear c8b0
  try clear c9
  try clear hcz10_0
  try clear hcz10_1
  try clear hcz10_2
  try clear hcz10_3
  try clear hcz5_0
  try clear hcz5_1
  try clear hcz5_2
  try clear hcz5_3
  try clear hcz7_0
  try clear hcz7_1
  try clear hcz7_2
  try clear hcz7_3
  try clear hcz9_0
  try clear hcz9_1
  try clear hcz9_2
  try clear hcz9_3
  try clear hfz10_0
  try clear hfz10_1
  try clear hfz10_2
  try clear hfz10_3
  try clear hfz5_0
  try clear hfz5_1
  try clear hfz5_2
  try clear hfz5_3
  try clear hfz7_0
  try clear hfz7_1
  try clear hfz7_2
  try clear hfz7_3
  try clear hfz9_0
  try clear hfz9_1
  try clear hfz9_2
  try clear hfz9_3
  obtain ⟨kq, x6_1, rfl, HA, HJ1, BK909, HB⟩ := hcut
  cases kq with
  | zero => exact absurd HA.out (by simp [icmp_Build.j0])
  | succ kj1 =>
   have H := HA.out
   clear HA
   simp only [icmp_Build.j0] at H
   by_cases c11 : x6_1 = true
   ·subst c11
    have H1 : (some (([] : List Int), 1)) = some (r1, r2) := by rw [if_pos rfl] at H; exact H
    clear H
    have H := H1
    clear H1
    simp only [Option.some.injEq, Prod.mk.injEq] at H
    obtain ⟨rfl, rfl⟩ := H
    go_wp2
    go_ret2
    exact ⟨_, by first | rfl | (simp [errW_none, errW_some] <;> rfl) | (simp [*, errW_none, errW_some] <;> rfl), by first | exact Kd.R_nil _ _ _ _ _ | exact Kd.N_nil _ _ _ _ _ | exact Kd.V_nil _ _ _ _ _ | exact Kd.Q_nil _ _ _ _ _ | exact Kd.S_nil _ _ _ _ _, by repeat (first | (with_reducible first | exact HB.out | apply below_alloc | apply pw_below_drewN | apply below_drew1 | refine below_set ?_ GE909.out) | exact HB.out)⟩
   ·replace c11 := Bool.eq_false_iff.mpr c11
    subst c11
    have H1 : (if (l0_3.length : Int) > 2020 then (some (([] : List Int), 3)) else ((some (([(a0_0) % 256, (a0_1) % 256, 0, 0, (a0_2 / 16777216) % 256, (a0_2 / 65536) % 256, (a0_2 / 256) % 256, (a0_2) % 256] : List Int) : List Int)).bind fun y910 => (if y910.length + l0_3.length < 140737488355328 then ((some (y910 ++ l0_3 : List Int)).bind fun y913 => ((octet_Check.f (([y913] : List (List Int)))).bind fun t920 => (if 2 < (y913.length : Int) then (if 3 < (y913.length : Int) then (some (((y913.set (2 : Int).toNat ((t920 / 256) % 256)).set (3 : Int).toNat ((t920) % 256)), 0)) else (none)) else (none)))) else (none)))) = some (r1, r2) := by rw [if_neg (show ¬ (false = true) by decide)] at H; exact H
    clear H
    have H := H1
    clear H1
    by_cases c12 : (l0_3.length : Int) > 2020
    ·rw [if_pos c12] at H
     have c12b0 : decide (2020 < (l0_3.length : Int)) = true := decide_eq_true c12
     have c12b1 : decide (2020 < l0_3.length) = true := decide_eq_true (by omega)
     clear c12
     simp only [Option.some.injEq, Prod.mk.injEq] at H
     obtain ⟨rfl, rfl⟩ := H
     have hcz13_0 : wc.cell? ⟨gb909, 0, none⟩ = some (.int .i64 a0_0) := (blk_cell BK909.out 0).trans rfl
     have hcz13_1 : wc.cell? ⟨gb909, 1, none⟩ = some (.int .i64 a0_1) := (blk_cell BK909.out 1).trans rfl
     have hcz13_2 : wc.cell? ⟨gb909, 2, none⟩ = some (.int .u32 a0_2) := (blk_cell BK909.out 2).trans rfl
     have hcz13_3 : wc.cell? ⟨gb909, 3, none⟩ = some (.slice A0_3 l0_3.length c0_3) := (blk_cell BK909.out 3).trans rfl
     have hfz13_0 := blk_frozen BK909.out 0
     have hfz13_1 := blk_frozen BK909.out 1
     have hfz13_2 := blk_frozen BK909.out 2
     have hfz13_3 := blk_frozen BK909.out 3
     go_wp2
     go_ret2
     exact ⟨_, by first | rfl | (simp [errW_none, errW_some] <;> rfl) | (simp [*, errW_none, errW_some] <;> rfl), by first | exact Kd.R_nil _ _ _ _ _ | exact Kd.N_nil _ _ _ _ _ | exact Kd.V_nil _ _ _ _ _ | exact Kd.Q_nil _ _ _ _ _ | exact Kd.S_nil _ _ _ _ _, by repeat (first | (with_reducible first | exact HB.out | apply below_alloc | apply pw_below_drewN | apply below_drew1 | refine below_set ?_ GE909.out) | exact HB.out)⟩
    ·rw [if_neg c12] at H
     have c12b0 : decide (2020 < (l0_3.length : Int)) = false := decide_eq_false c12
     have c12b1 : decide (2020 < l0_3.length) = false := decide_eq_false (by omega)
     clear c12
     obtain ⟨y910, hy910⟩ : ∃ y_ : List Int, y_ = (([(a0_0) % 256, (a0_1) % 256, 0, 0, (a0_2 / 16777216) % 256, (a0_2 / 65536) % 256, (a0_2 / 256) % 256, (a0_2) % 256] : List Int)) := ⟨_, rfl⟩
     replace H : (if y910.length + l0_3.length < 140737488355328 then ((some (y910 ++ l0_3 : List Int)).bind fun y913 => ((octet_Check.f (([y913] : List (List Int)))).bind fun t920 => (if 2 < (y913.length : Int) then (if 3 < (y913.length : Int) then (some (((y913.set (2 : Int).toNat ((t920 / 256) % 256)).set (3 : Int).toNat ((t920) % 256)), 0)) else (none)) else (none)))) else (none)) = some (r1, r2) := by first | (rw [hy910]; with_reducible exact H) | (have H2_ := (Option.bind_some _ _).symm.trans H; rw [hy910]; with_reducible exact H2_) | (have H2_ := (Option.bind_some _ _).symm.trans H; with_reducible exact H2_) | with_reducible exact H | (rw [hy910]; exact H) | exact H
     have Ny910 := Aside0.mk hy910
     clear hy910
     by_cases c14 : y910.length + l0_3.length < 140737488355328
     ·rw [if_pos c14] at H
      have LMc14 := Aside0.mk c14
      clear c14
      obtain ⟨y913, hy913⟩ : ∃ y_ : List Int, y_ = (y910 ++ l0_3) := ⟨_, rfl⟩
      replace H : ((octet_Check.f (([y913] : List (List Int)))).bind fun t920 => (if 2 < (y913.length : Int) then (if 3 < (y913.length : Int) then (some (((y913.set (2 : Int).toNat ((t920 / 256) % 256)).set (3 : Int).toNat ((t920) % 256)), 0)) else (none)) else (none))) = some (r1, r2) := by first | (rw [hy913]; with_reducible exact H) | (have H2_ := (Option.bind_some _ _).symm.trans H; rw [hy913]; with_reducible exact H2_) | (have H2_ := (Option.bind_some _ _).symm.trans H; with_reducible exact H2_) | with_reducible exact H | (rw [hy913]; exact H) | exact H
      have Ny913 := Aside0.mk hy913
      clear hy913
      obtain ⟨y916, hy916⟩ : ∃ y_ : List (List Int), y_ = (([y913] : List (List Int))) := ⟨_, rfl⟩
      replace H : ((octet_Check.f y916).bind fun t920 => (if 2 < (y913.length : Int) then (if 3 < (y913.length : Int) then (some (((y913.set (2 : Int).toNat ((t920 / 256) % 256)).set (3 : Int).toNat ((t920) % 256)), 0)) else (none)) else (none))) = some (r1, r2) := by first | (rw [hy916]; with_reducible exact H) | (have H2_ := (Option.bind_some _ _).symm.trans H; rw [hy916]; with_reducible exact H2_) | (have H2_ := (Option.bind_some _ _).symm.trans H; with_reducible exact H2_) | with_reducible exact H | (rw [hy916]; exact H) | exact H
      have Ny916 := Aside0.mk hy916
      clear hy916
      replace H := Option.bind_eq_some_iff.mp H
      obtain ⟨t920, A150, H⟩ := H
      replace H : (if 2 < (y913.length : Int) then (if 3 < (y913.length : Int) then (some (((y913.set (2 : Int).toNat ((t920 / 256) % 256)).set (3 : Int).toNat ((t920) % 256)), 0)) else (none)) else (none)) = some (r1, r2) := H
      have A15 := Aside0.mk A150
      clear A150
      by_cases c16 : 2 < (y913.length : Int)
      ·rw [if_pos c16] at H
       have c16b0 : decide (2 < (y913.length : Int)) = true := decide_eq_true c16
       have c16b1 : decide (2 < y913.length) = true := decide_eq_true (by omega)
       clear c16
       obtain ⟨y921, hy921⟩ : ∃ y_ : List Int, y_ = (y913.set (2 : Int).toNat ((t920 / 256) % 256)) := ⟨_, rfl⟩
       replace H : (if 3 < (y913.length : Int) then (some ((y921.set (3 : Int).toNat ((t920) % 256)), 0)) else (none)) = some (r1, r2) := by first | (rw [hy921]; with_reducible exact H) | (have H2_ := (Option.bind_some _ _).symm.trans H; rw [hy921]; with_reducible exact H2_) | (have H2_ := (Option.bind_some _ _).symm.trans H; with_reducible exact H2_) | with_reducible exact H | (rw [hy921]; exact H) | exact H
       have Ny921 := Aside0.mk hy921
       clear hy921
       by_cases c18 : 3 < (y913.length : Int)
       ·rw [if_pos c18] at H
        have c18b0 : decide (3 < (y913.length : Int)) = true := decide_eq_true c18
        have c18b1 : decide (3 < y913.length) = true := decide_eq_true (by omega)
        clear c18
        obtain ⟨y922, hy922⟩ : ∃ y_ : List Int, y_ = (y921.set (3 : Int).toNat ((t920) % 256)) := ⟨_, rfl⟩
        replace H : (some (y922, 0)) = some (r1, r2) := by first | (rw [hy922]; with_reducible exact H) | (have H2_ := (Option.bind_some _ _).symm.trans H; rw [hy922]; with_reducible exact H2_) | (have H2_ := (Option.bind_some _ _).symm.trans H; with_reducible exact H2_) | with_reducible exact H | (rw [hy922]; exact H) | exact H
        have Ny922 := Aside0.mk hy922
        clear hy922
        simp only [Option.some.injEq, Prod.mk.injEq] at H
        obtain ⟨rfl, rfl⟩ := H
        have hcz20_0 : wc.cell? ⟨gb909, 0, none⟩ = some (.int .i64 a0_0) := (blk_cell BK909.out 0).trans rfl
        have hcz20_1 : wc.cell? ⟨gb909, 1, none⟩ = some (.int .i64 a0_1) := (blk_cell BK909.out 1).trans rfl
        have hcz20_2 : wc.cell? ⟨gb909, 2, none⟩ = some (.int .u32 a0_2) := (blk_cell BK909.out 2).trans rfl
        have hcz20_3 : wc.cell? ⟨gb909, 3, none⟩ = some (.slice A0_3 l0_3.length c0_3) := (blk_cell BK909.out 3).trans rfl
        have hfz20_0 := blk_frozen BK909.out 0
        have hfz20_1 := blk_frozen BK909.out 1
        have hfz20_2 := blk_frozen BK909.out 2
        have hfz20_3 := blk_frozen BK909.out 3
        go_wp2_with (first | ((with_reducible refine gate_dst (N := 51) rfl ?_); refine Kd.R_lit (Kd.int .u8) _ 5 ?hg (N := 51) ?hd (xs := ([(a0_0) % 256, (a0_1) % 256, 0, 0, (a0_2 / 16777216) % 256, (a0_2 / 65536) % 256, (a0_2 / 256) % 256, (a0_2) % 256] : List Int)) (inner := [.int .u8 ((a0_0) % 256), .int .u8 ((a0_1) % 256), .int .u8 0, .int .u8 0, .int .u8 ((a0_2 / 16777216) % 256), .int .u8 ((a0_2 / 65536) % 256), .int .u8 ((a0_2 / 256) % 256), .int .u8 ((a0_2) % 256)]) (ok := fun _ => True) (okp := fun _ => True) ?hr ?hp (fun _ hk => hk) trivial (Below.refl _ _) (Nat.le_refl _) (by simp) ?_; (case hd => rfl); (case hg => rfl); (case hr => first | (go_simp; done) | (go_simp; rfl)); (case hp => exact (Reps.one (show Kd.M (Kd.int .u8) _ _ _ ((a0_0) % 256) [.int .u8 ((a0_0) % 256)] from rfl) (Reps.one (show Kd.M (Kd.int .u8) _ _ _ ((a0_1) % 256) [.int .u8 ((a0_1) % 256)] from rfl) (Reps.one (show Kd.M (Kd.int .u8) _ _ _ 0 [.int .u8 0] from rfl) (Reps.one (show Kd.M (Kd.int .u8) _ _ _ 0 [.int .u8 0] from rfl) (Reps.one (show Kd.M (Kd.int .u8) _ _ _ ((a0_2 / 16777216) % 256) [.int .u8 ((a0_2 / 16777216) % 256)] from rfl) (Reps.one (show Kd.M (Kd.int .u8) _ _ _ ((a0_2 / 65536) % 256) [.int .u8 ((a0_2 / 65536) % 256)] from rfl) (Reps.one (show Kd.M (Kd.int .u8) _ _ _ ((a0_2 / 256) % 256) [.int .u8 ((a0_2 / 256) % 256)] from rfl) (Reps.one (show Kd.M (Kd.int .u8) _ _ _ ((a0_2) % 256) [.int .u8 ((a0_2) % 256)] from rfl) (Reps.none _ _)))))))))); intro v911 w21 ho22 hb hg_ hnew_; clear hg_ hnew_; (first | rw [← Ny910.out] at ho22 | (simp only [Int.reduceToNat] at ho22; rw [← Ny910.out] at ho22)); have n0_ := Aside0.mk (Kd.R_lower ho22 (below_size (by repeat (first | (with_reducible first | exact HB.out | apply below_alloc | apply pw_below_drewN | apply below_drew1 | refine below_set ?_ GE909.out) | exact HB.out)))); have n1_ := Aside0.mk (blk_below (g := gb909) (o := .cells #[.int .i64 a0_0, .int .i64 a0_1, .int .u32 a0_2, .slice A0_3 l0_3.length c0_3] 118 (0, 0)) (by (with_reducible repeat (first | refine blk_drewN ?_ _ | refine blk_drew ?_ | refine blk_alloc ?_ _)); exact BK909.out) hb); have n2_ := Aside0.mk (below_step (by repeat (first | (with_reducible first | exact HB.out | apply below_alloc | apply pw_below_drewN | apply below_drew1 | refine below_set ?_ GE909.out) | exact HB.out)) hb); clear BK909; clear HB; have HO912 := n0_; have BK909 := n1_; have HB := n2_; clear n0_ n1_ n2_; clear hb ho22; have hcz23_0 : w21.cell? ⟨gb909, 0, none⟩ = some (.int .i64 a0_0) := (blk_cell BK909.out 0).trans rfl; have hcz23_1 : w21.cell? ⟨gb909, 1, none⟩ = some (.int .i64 a0_1) := (blk_cell BK909.out 1).trans rfl; have hcz23_2 : w21.cell? ⟨gb909, 2, none⟩ = some (.int .u32 a0_2) := (blk_cell BK909.out 2).trans rfl; have hcz23_3 : w21.cell? ⟨gb909, 3, none⟩ = some (.slice A0_3 l0_3.length c0_3) := (blk_cell BK909.out 3).trans rfl; have hfz23_0 := blk_frozen BK909.out 0; have hfz23_1 := blk_frozen BK909.out 1; have hfz23_2 := blk_frozen BK909.out 2; have hfz23_3 := blk_frozen BK909.out 3) | ((with_reducible refine gate_builtin (b := .append) (xs := #[.tmp 51, .tmp 53]) rfl ?_); at_builtin; refine Kd.R_append_rows (Kd.int .u8) (w0 := w) w.heap.size rfl (.tmp 51) (.tmp 53) 23 5 (.int .u8 0) 1 rfl Try.underlying23 info5 rfl (by decide) (by omega) v911 y910 l0_3 _ _ _ (fun _ => True) (fun _ => False) rfl rfl ?aO ?aR (fun _ _ h => h) (fun _ h => h.elim) ?aF ?aB ?aS ?aL ?_; (case aR => repeat (first | exact (Kd.C_below HR0_3.out HB.out) | (with_reducible refine Kd.C_alloc ?_ _) | (with_reducible refine Kd.C_drewN ?_ _) | (with_reducible refine Kd.C_drew ?_))); (case aB => exact (by repeat (first | (with_reducible first | exact HB.out | apply below_alloc | apply pw_below_drewN | apply below_drew1 | refine below_set ?_ GE909.out) | exact HB.out))); (case aF => exact (fun _ _ => trivial)); (case aO => exact (by (with_reducible repeat (first | apply Kd.R_alloc | apply Kd.R_drewN | apply Kd.R_drew)); exact HO912.out)); (case aS => exact (below_size (by repeat (first | (with_reducible first | exact HB.out | apply below_alloc | apply pw_below_drewN | apply below_drew1 | refine below_set ?_ GE909.out) | exact HB.out)))); (case aL => have := LMc14.out; omega); intro v914 w24 ho hb hg hat; rw [← Ny913.out] at ho; have n0_ := Aside0.mk (blk_grown (g := gb909) (o := .cells #[.int .i64 a0_0, .int .i64 a0_1, .int .u32 a0_2, .slice A0_3 l0_3.length c0_3] 118 (0, 0)) (by (with_reducible repeat (first | refine blk_drewN ?_ _ | refine blk_drew ?_ | refine blk_alloc ?_ _)); exact BK909.out) hg (Kd.R_ne HO912.out BK909.out (by decide))); have n1_ := Aside0.mk (hb); have n2_ := Aside0.mk (ho); clear BK909; clear HB; clear HO912; have BK909 := n0_; have HB := n1_; have HO915 := n2_; clear n0_ n1_ n2_; clear ho hb hg hat; obtain ⟨Ao25, co25, eo25⟩ := Kd.R_slice HO915.out; subst eo25) | ((with_reducible refine gate_dst (N := 56) rfl ?_); refine Kd.N_lit (Kd.slice 5 (Kd.int .u8)) _ 23 ?hg (N' := 56) ?hd (xs := ([y913] : List (List Int))) (inner := [.slice Ao25 y913.length co25]) (ok := fun _ => True) (okp := fun _ => True) ?hr ?hp (fun _ _ => trivial) trivial (Below.refl _ _) (Nat.le_refl _) (by simp) ?_; (case hd => rfl); (case hg => rfl); (case hr => first | (go_simp; done) | (go_simp; rfl)); (case hp => exact (Reps.one (show Kd.FK (Kd.slice 5 (Kd.int .u8)) _ _ y913 [.slice Ao25 y913.length co25] from Kd.FK_slice_mk (by exact (Kd.R_reads' HO915.out).2.1) (Kd.F_mono (Kd.C_F (Kd.heap_int .u8) (by repeat (first | exact (Kd.R_reads' HO915.out).2.2 | (with_reducible refine Kd.C_alloc ?_ _) | (with_reducible refine Kd.C_drewN ?_ _) | (with_reducible refine Kd.C_drew ?_)))) (fun _ _ => trivial))) (Reps.none _ _))); intro vl919 w26 ho hb hg_ hnew_; clear hg_ hnew_; (first | rw [← Ny916.out] at ho | (simp only [Int.reduceToNat] at ho; rw [← Ny916.out] at ho)); obtain ⟨Al919, cl919, el919⟩ := Kd.N_slice ho; subst el919; have hr := (Kd.N_reads' ho).2.2; have hl := (Kd.N_reads' ho).2.1; clear ho; have n0_ := Aside0.mk (Kd.R_below (by (with_reducible repeat (first | apply Kd.R_alloc | apply Kd.R_drewN | apply Kd.R_drew)); exact HO915.out) hb); have n1_ := Aside0.mk (blk_below (g := gb909) (o := .cells #[.int .i64 a0_0, .int .i64 a0_1, .int .u32 a0_2, .slice A0_3 l0_3.length c0_3] 118 (0, 0)) (by (with_reducible repeat (first | refine blk_drewN ?_ _ | refine blk_drew ?_ | refine blk_alloc ?_ _)); exact BK909.out) hb); have n2_ := Aside0.mk (below_step (by repeat (first | (with_reducible first | exact HB.out | apply below_alloc | apply pw_below_drewN | apply below_drew1 | refine below_set ?_ GE909.out) | exact HB.out)) hb); have n3_ := Aside0.mk (hr); have n4_ := Aside0.mk (hl); clear HO915; clear BK909; clear HB; have HO915 := n0_; have BK909 := n1_; have HB := n2_; have HRl919 := n3_; have HCl919 := n4_; clear n0_ n1_ n2_ n3_ n4_; clear hb hr hl) | ((with_reducible refine gate_callee (f := 122) rfl ?_); refine goesL_ (some 57) rfl rfl Try.func122 (by kernel_rfl) rfl #[.slice Al919 y916.length cl919] rfl (by (try simp only [List.map_toArray, List.map_cons, List.map_nil]); first | done | rfl | (simp only [List.length_drop, List.length_take]; rfl)) ?_; (with_reducible refine (octet_Check.calls _ _ y916 t920 _ ?side1 ?side2 A15.out).mono ?_); (case side1 => repeat (first | exact (by repeat (first | (with_reducible exact HRl919.out) | (with_reducible refine Kd.C_alloc ?_ _) | (with_reducible refine Kd.C_drewN ?_ _) | (with_reducible refine Kd.C_drew ?_) | exact HRl919.out)) | (with_reducible refine Kd.C_alloc ?_ _) | (with_reducible refine Kd.C_drewN ?_ _) | (with_reducible refine Kd.C_drew ?_))); (case side2 => exact HCl919.out); rintro e w27 ⟨rfl, hb⟩; refine ⟨_, rfl, ?_⟩; have n0_ := Aside0.mk (Kd.R_below (by (with_reducible repeat (first | apply Kd.R_alloc | apply Kd.R_drewN | apply Kd.R_drew)); exact HO915.out) hb); have n1_ := Aside0.mk (blk_below (g := gb909) (o := .cells #[.int .i64 a0_0, .int .i64 a0_1, .int .u32 a0_2, .slice A0_3 l0_3.length c0_3] 118 (0, 0)) (by (with_reducible repeat (first | refine blk_drewN ?_ _ | refine blk_drew ?_ | refine blk_alloc ?_ _)); exact BK909.out) hb); have n2_ := Aside0.mk (Kd.C_below (by repeat (first | (with_reducible exact HRl919.out) | (with_reducible refine Kd.C_alloc ?_ _) | (with_reducible refine Kd.C_drewN ?_ _) | (with_reducible refine Kd.C_drew ?_) | exact HRl919.out)) hb); have n3_ := Aside0.mk (below_step (by repeat (first | (with_reducible first | exact HB.out | apply below_alloc | apply pw_below_drewN | apply below_drew1 | refine below_set ?_ GE909.out) | exact HB.out)) hb); clear HO915; clear BK909; clear HRl919; clear HB; have HO915 := n0_; have BK909 := n1_; have HRl919 := n2_; have HB := n3_; clear n0_ n1_ n2_ n3_; (try clear hb); (try clear hb2); (try clear hk); (try clear hi); have p17 : 0 ≤ (2 : Int) := (by omega); have q17 : (2 : Int) < ((y913.length : Int) : Int) := of_decide_eq_true (by first | (with_reducible assumption) | assumption); have qi17 : (2 < y913.length) = True := eq_true (by omega); obtain ⟨go17, co17, eo17, gb17, gl17, cl17, HG17⟩ := Kd.R_form HO915.out (by omega); (first | cases eo17 | (injection eo17 with ea_ en_ ec_; (first | subst ea_ | (injection ea_ with ea_; subst ea_)); subst ec_; clear en_)); have GB17 := Aside0.mk gb17; have GG17 := Aside0.mk HG17; clear gb17 gl17 HG17; obtain ⟨hx17_0, hf17_0⟩ := Kd.R_celln 0 HO915.out (2 : Int) p17 q17; (try rw [show ((2 : Int)).toNat = 2 from rfl] at hx17_0); (try simp only [Nat.reduceMul, Nat.zero_mul, Nat.zero_add, Nat.reduceAdd] at hx17_0); (try rw [show ((2 : Int)).toNat = 2 from rfl] at hf17_0); (try simp only [Nat.reduceMul, Nat.zero_mul, Nat.zero_add, Nat.reduceAdd] at hf17_0); replace p17 := eq_true p17; replace q17 := eq_true q17; obtain ⟨hy28_, hz28_⟩ := Kd.R_celln 0 HO915.out (2 : Int) (by omega) (of_decide_eq_true (by first | (with_reducible assumption) | assumption)); (try simp only [Int.reduceToNat, Int.toNat_zero, Int.toNat_ofNat, Nat.reduceMul, Nat.zero_mul, Nat.zero_add] at hy28_ hz28_); (try rw [show ((2 : Int)).toNat = 2 from rfl] at hy28_); (try rw [show ((2 : Int)).toNat = 2 from rfl] at hz28_); have HP28 := Kd.R_putg HO915.out (2 : Int) ((t920 / 256) % 256)) | ((with_reducible refine gate_store (t := 5) (p := 65) rfl ?_); refine store_event (t := 5) (p := 65) (v := ?vo_w29) (w1 := (w27.setCell ⟨go17, (2 : Int).toNat, none⟩ (.int .u8 ((t920 / 256) % 256)))) ?hg ?ho ?hn ?hr ?_; (case ho => rfl); (case hg => rfl); (case hn => rfl); (case hr => first | (go_simp; done) | (go_simp; rfl)); intro w29 hw; have hg : w27.grownBy w29 (some go17) := (by rw [hw]; exact HP28.2); have hp_ : Kd.R (Kd.int .u8) 5 w29 w.heap.size (fun _ => True) (.slice (some ⟨go17, 0, none⟩) y913.length co25) y921 := (by rw [hw, Ny921.out]; exact HP28.1); clear HP28; have n0_ := Aside0.mk (blk_grown (g := gb909) (o := .cells #[.int .i64 a0_0, .int .i64 a0_1, .int .u32 a0_2, .slice A0_3 l0_3.length c0_3] 118 (0, 0)) (by (with_reducible repeat (first | refine blk_drewN ?_ _ | refine blk_drew ?_ | refine blk_alloc ?_ _)); exact BK909.out) hg (Kd.R_ne HO915.out BK909.out (by decide))); have n1_ := Aside0.mk (hp_); have n2_ := Aside0.mk ((by rw [hw]; exact below_set (HB.out) GB17.out : Below w.heap.size w w29)); clear BK909; clear HO915; clear HB; have BK909 := n0_; have HO915 := n1_; have HB := n2_; clear n0_ n1_ n2_; clear hg hw hp_; have p19 : 0 ≤ (3 : Int) := (by omega); have q19 : (3 : Int) < ((y913.length : Int) : Int) := of_decide_eq_true (by first | (with_reducible assumption) | assumption); have qi19 : (3 < y913.length) = True := eq_true (by omega); obtain ⟨hx19_0, hf19_0⟩ := Kd.R_celln 0 HO915.out (3 : Int) p19 q19; (try rw [show ((3 : Int)).toNat = 3 from rfl] at hx19_0); (try simp only [Nat.reduceMul, Nat.zero_mul, Nat.zero_add, Nat.reduceAdd] at hx19_0); (try rw [show ((3 : Int)).toNat = 3 from rfl] at hf19_0); (try simp only [Nat.reduceMul, Nat.zero_mul, Nat.zero_add, Nat.reduceAdd] at hf19_0); replace p19 := eq_true p19; replace q19 := eq_true q19; obtain ⟨hy30_, hz30_⟩ := Kd.R_celln 0 HO915.out (3 : Int) (by omega) (of_decide_eq_true (by first | (with_reducible assumption) | assumption)); (try simp only [Int.reduceToNat, Int.toNat_zero, Int.toNat_ofNat, Nat.reduceMul, Nat.zero_mul, Nat.zero_add] at hy30_ hz30_); (try rw [show ((3 : Int)).toNat = 3 from rfl] at hy30_); (try rw [show ((3 : Int)).toNat = 3 from rfl] at hz30_); have HP30 := Kd.R_putg HO915.out (3 : Int) ((t920) % 256)) | ((with_reducible refine gate_store (t := 5) (p := 66) rfl ?_); refine store_event (t := 5) (p := 66) (v := ?vo_w31) (w1 := (w29.setCell ⟨go17, (3 : Int).toNat, none⟩ (.int .u8 ((t920) % 256)))) ?hg ?ho ?hn ?hr ?_; (case ho => rfl); (case hg => rfl); (case hn => rfl); (case hr => first | (go_simp; done) | (go_simp; rfl)); intro w31 hw; have hg : w29.grownBy w31 (some go17) := (by rw [hw]; exact HP30.2); have hp_ : Kd.R (Kd.int .u8) 5 w31 w.heap.size (fun _ => True) (.slice (some ⟨go17, 0, none⟩) y913.length co25) y922 := (by rw [hw, Ny922.out]; exact HP30.1); clear HP30; have n0_ := Aside0.mk (blk_grown (g := gb909) (o := .cells #[.int .i64 a0_0, .int .i64 a0_1, .int .u32 a0_2, .slice A0_3 l0_3.length c0_3] 118 (0, 0)) (by (with_reducible repeat (first | refine blk_drewN ?_ _ | refine blk_drew ?_ | refine blk_alloc ?_ _)); exact BK909.out) hg (Kd.R_ne HO915.out BK909.out (by decide))); have n1_ := Aside0.mk (hp_); have n2_ := Aside0.mk ((by rw [hw]; exact below_set (HB.out) GB17.out : Below w.heap.size w w31)); clear BK909; clear HO915; clear HB; have BK909 := n0_; have HO915 := n1_; have HB := n2_; clear n0_ n1_ n2_; clear hg hw hp_))
        go_ret2
        exact ⟨_, by first | rfl | (simp [errW_none, errW_some] <;> rfl) | (simp [*, errW_none, errW_some] <;> rfl), by (with_reducible repeat (first | apply Kd.R_alloc | apply Kd.R_drewN | apply Kd.R_drew)); exact HO915.out, by repeat (first | (with_reducible first | exact HB.out | apply below_alloc | apply pw_below_drewN | apply below_drew1 | refine below_set ?_ GE909.out) | exact HB.out)⟩
       ·rw [if_neg c18] at H
        exact absurd H (by simp)
      ·rw [if_neg c16] at H
       exact absurd H (by simp)
     ·rw [if_neg c14] at H
      exact absurd H (by simp)

end Go.Proofs.Ytljnnhloinbjhaa.P
