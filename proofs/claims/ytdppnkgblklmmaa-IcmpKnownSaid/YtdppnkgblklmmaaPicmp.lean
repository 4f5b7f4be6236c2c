-- Laid by a program (wip/tools/myprint.py) out of the translation. Not trusted: Lean checks it.
import Derived.Test.YtdppnkgblklmmaaP0
import Derived.Test.YtdppnkgblklmmaaPoctet
namespace Go.Proofs.Ytdppnkgblklmmaa.P
open Go.RowKit Go.Proofs.YtdppnkgblklmmaaW.PrintWords Go.Proofs.YtdppnkgblklmmaaW.PrintLast Go.Proofs.YtdppnkgblklmmaaW.PrintMore
attribute [local go_sem] max2_int min2_int max_two min_two max_three min_three max_four min_four   -- for this text's walks alone
set_option linter.unusedVariables false
set_option linter.unusedSimpArgs false

/-! ### icmp_Build: function 47 -/
def icmp_Build.j0 : Nat → Bool → Int → Int → Int → List Int → Option (List Int × Int)
  | 0, _, _, _, _, _ => none
  | k + 1, x6, x576000, x576001, x576002, x576003 => if x6 = true then (some (([] : List Int), 1)) else (if (x576003.length : Int) > 2020 then (some (([] : List Int), 3)) else ((some (([(x576000) % 256, (x576001) % 256, 0, 0, (x576002 / 16777216) % 256, (x576002 / 65536) % 256, (x576002 / 256) % 256, (x576002) % 256] : List Int) : List Int)).bind fun y576 => (if y576.length + x576003.length < 140737488355328 then ((some (y576 ++ x576003 : List Int)).bind fun y579 => ((octet_Check.f (([y579] : List (List Int)))).bind fun t586 => (if 2 < (y579.length : Int) then (if 3 < (y579.length : Int) then (some (((y579.set (2 : Int).toNat ((t586 / 256) % 256)).set (3 : Int).toNat ((t586) % 256)), 0)) else (none)) else (none)))) else (none))))
def icmp_Build.f (k : Nat) (a0_0 : Int) (a0_1 : Int) (a0_2 : Int) (l0_3 : List Int) : Option (List Int × Int) := if a0_0 < 0 then (icmp_Build.j0 k true a0_0 a0_1 a0_2 l0_3) else (if a0_0 > 255 then (icmp_Build.j0 k true a0_0 a0_1 a0_2 l0_3) else (if a0_1 < 0 then (icmp_Build.j0 k true a0_0 a0_1 a0_2 l0_3) else (icmp_Build.j0 k (decide (a0_1 > 255)) a0_0 a0_1 a0_2 l0_3)))
theorem icmp_Build.mono_l : ∀ k, (∀ y0 y1 y2 y3 y4, LeO (icmp_Build.j0 k y0 y1 y2 y3 y4) (icmp_Build.j0 (k + 1) y0 y1 y2 y3 y4))
  | 0 => fun _ _ _ _ _ r h => by simp [icmp_Build.j0] at h
  | k + 1 => by
    have ih0 := icmp_Build.mono_l k
    · intro y0 y1 y2 y3 y4
      unfold icmp_Build.j0
      repeat' first
      | (with_reducible exact ih0 _ _ _ _ _)
      | (with_reducible exact LeO.refl _)
      | (with_reducible exact LeO.none _)
      | (with_reducible refine LeO.ite ?_ ?_)
      | (with_reducible refine LeO.bind ?_ (fun _ => ?_))
      | exact ih0 _ _ _ _ _
      | exact LeO.none _
      | refine LeO.ite ?_ ?_
      | refine LeO.bind ?_ (fun _ => ?_)
theorem icmp_Build.mono : ∀ a0 a1 a2 a3 k, LeO (icmp_Build.f k a0 a1 a2 a3) (icmp_Build.f (k + 1) a0 a1 a2 a3) := by
  intro a0 a1 a2 a3 k
  have ih0 := icmp_Build.mono_l k
  unfold icmp_Build.f
  repeat' first
      | (with_reducible exact ih0 _ _ _ _ _)
      | (with_reducible exact LeO.refl _)
      | (with_reducible exact LeO.none _)
      | (with_reducible refine LeO.ite ?_ ?_)
      | (with_reducible refine LeO.bind ?_ (fun _ => ?_))
      | exact ih0 _ _ _ _ _
      | exact LeO.none _
      | refine LeO.ite ?_ ?_
      | refine LeO.bind ?_ (fun _ => ?_)
set_option maxHeartbeats 8000000 in
set_option maxRecDepth 100000 in
theorem icmp_Build.calls (k : Nat) (a0_0 : Int) (a0_1 : Int) (a0_2 : Int) (A0_3 : Option Addr) (c0_3 : Nat) (l0_3 : List Int) (r1 : List Int) (r2 : Int) (w : World) (hr0_3 : Kd.C (Kd.int .u8) w A0_3 l0_3.length l0_3) (hc0_3 : l0_3.length ≤ c0_3) (h : icmp_Build.f k a0_0 a0_1 a0_2 l0_3 = some (r1, r2)) :
    Calls Try.prog 47 #[.agg #[.int .i64 a0_0, .int .i64 a0_1, .int .u32 a0_2, .slice A0_3 l0_3.length c0_3]] w fun e w' => ∃ v0_ : Value, e = .returned (.tuple #[v0_, .int .i64 r2]) ∧ Kd.R (Kd.int .u8) 5 w' w.heap.size (fun _ => True) v0_ r1 ∧ Below w.heap.size w w' := by
  have hu66 := Try.underlying66
  have HR0_3 := Aside0.mk hr0_3
  have HC0_3 := Aside0.mk hc0_3
  clear hr0_3 hc0_3
  have HB := Aside0.mk (Below.refl w.heap.size w)
  have H : (if a0_0 < 0 then (icmp_Build.j0 k true a0_0 a0_1 a0_2 l0_3) else (if a0_0 > 255 then (icmp_Build.j0 k true a0_0 a0_1 a0_2 l0_3) else (if a0_1 < 0 then (icmp_Build.j0 k true a0_0 a0_1 a0_2 l0_3) else (icmp_Build.j0 k (decide (a0_1 > 255)) a0_0 a0_1 a0_2 l0_3)))) = some (r1, r2) := h
  clear h
  have HC2 := Aside0.mk H
  clear H
  go_enter Try.func47, Try.ntmps47
  go_upto_region 1 with (first | ((with_reducible refine gate_dst (N := 1) rfl ?_); refine box_event ?hg (N := 1) ?hd (cs := #[.int .i64 a0_0, .int .i64 a0_1, .int .u32 a0_2, .slice A0_3 l0_3.length c0_3]) (t := 66) ?hr ?_; (case hd => rfl); (case hg => rfl); (case hr => first | (go_simp; done) | (go_simp; rfl)); intro gb575 hg w3 hbox hb; have n0_ := Aside0.mk (below_step (by repeat (first | (with_reducible first | exact HB.out | apply below_alloc | apply pw_below_drewN | apply below_drew1) | exact HB.out)) hb); have n1_ := Aside0.mk (hbox); have n2_ := Aside0.mk ((by rw [hg]; exact (below_size (by repeat (first | (with_reducible first | exact HB.out | apply below_alloc | apply pw_below_drewN | apply below_drew1) | exact HB.out))) : w.heap.size ≤ gb575)); have n3_ := Aside0.mk ((by rw [hg]; exact (below_size (by repeat (first | (with_reducible first | exact HB.out | apply below_alloc | apply pw_below_drewN | apply below_drew1) | exact HB.out))) : w.heap.size ≤ gb575)); clear HB; have HB := n0_; have BK575 := n1_; have GW575 := n2_; have GE575 := n3_; clear n0_ n1_ n2_ n3_; clear hb hbox hg))
  (try simp only [Act.put, List.setIfInBounds_toArray, List.set_cons_zero, List.set_cons_succ])
  go_cut [6] (fun v6 wc => ∃ (kq : Nat) (x6_1 : Bool), v6 = .bool x6_1 ∧ Aside0 (icmp_Build.j0 kq x6_1 a0_0 a0_1 a0_2 l0_3 = some (r1, r2)) ∧ Aside0 (kq ≤ k) ∧ Aside0 (wc.heap[gb575]? = some (.cells #[.int .i64 a0_0, .int .i64 a0_1, .int .u32 a0_2, (.slice A0_3 l0_3.length c0_3)] 66 (0, 0))) ∧ Aside0 (Below w.heap.size w wc))
  case first =>
    have H := HC2.out
    clear HC2
    by_cases c4 : a0_0 < 0
    · rw [if_pos c4] at H
      have c4b0 : decide (a0_0 < 0) = true := decide_eq_true c4
      clear c4
      (first | rw [c4b0] | (simp only [i64_w, i32_w]; rw [c4b0]) | skip)
      have H' := Aside0.mk H
      clear H
      have hcz5_0 : w3.cell? ⟨gb575, 0, none⟩ = some (.int .i64 a0_0) := (blk_cell BK575.out 0).trans rfl
      have hcz5_1 : w3.cell? ⟨gb575, 1, none⟩ = some (.int .i64 a0_1) := (blk_cell BK575.out 1).trans rfl
      have hcz5_2 : w3.cell? ⟨gb575, 2, none⟩ = some (.int .u32 a0_2) := (blk_cell BK575.out 2).trans rfl
      have hcz5_3 : w3.cell? ⟨gb575, 3, none⟩ = some (.slice A0_3 l0_3.length c0_3) := (blk_cell BK575.out 3).trans rfl
      have hfz5_0 := blk_frozen BK575.out 0
      have hfz5_1 := blk_frozen BK575.out 1
      have hfz5_2 := blk_frozen BK575.out 2
      have hfz5_3 := blk_frozen BK575.out 3
      go_wp2
      go_meet
      case rel => exact ⟨_, (true), (by first | rfl | (simp; done) | (simp [*]; done)), H', ⟨by first | omega | exact Nat.le_refl _⟩, ⟨by (with_reducible repeat (first | refine blk_drewN ?_ _ | refine blk_drew ?_ | refine blk_alloc ?_ _)); exact BK575.out⟩, ⟨by repeat (first | (with_reducible first | exact HB.out | apply below_alloc | apply pw_below_drewN | apply below_drew1 | refine below_set ?_ GE575.out) | exact HB.out)⟩⟩
    · rw [if_neg c4] at H
      have c4b0 : decide (a0_0 < 0) = false := decide_eq_false c4
      clear c4
      (first | rw [c4b0] | (simp only [i64_w, i32_w]; rw [c4b0]) | skip)
      by_cases c6 : a0_0 > 255
      · rw [if_pos c6] at H
        have c6b0 : decide (255 < a0_0) = true := decide_eq_true c6
        clear c6
        have H' := Aside0.mk H
        clear H
        have hcz7_0 : w3.cell? ⟨gb575, 0, none⟩ = some (.int .i64 a0_0) := (blk_cell BK575.out 0).trans rfl
        have hcz7_1 : w3.cell? ⟨gb575, 1, none⟩ = some (.int .i64 a0_1) := (blk_cell BK575.out 1).trans rfl
        have hcz7_2 : w3.cell? ⟨gb575, 2, none⟩ = some (.int .u32 a0_2) := (blk_cell BK575.out 2).trans rfl
        have hcz7_3 : w3.cell? ⟨gb575, 3, none⟩ = some (.slice A0_3 l0_3.length c0_3) := (blk_cell BK575.out 3).trans rfl
        have hfz7_0 := blk_frozen BK575.out 0
        have hfz7_1 := blk_frozen BK575.out 1
        have hfz7_2 := blk_frozen BK575.out 2
        have hfz7_3 := blk_frozen BK575.out 3
        go_wp2
        go_meet
        case rel => exact ⟨_, (true), (by first | rfl | (simp; done) | (simp [*]; done)), H', ⟨by first | omega | exact Nat.le_refl _⟩, ⟨by (with_reducible repeat (first | refine blk_drewN ?_ _ | refine blk_drew ?_ | refine blk_alloc ?_ _)); exact BK575.out⟩, ⟨by repeat (first | (with_reducible first | exact HB.out | apply below_alloc | apply pw_below_drewN | apply below_drew1 | refine below_set ?_ GE575.out) | exact HB.out)⟩⟩
      · rw [if_neg c6] at H
        have c6b0 : decide (255 < a0_0) = false := decide_eq_false c6
        clear c6
        by_cases c8 : a0_1 < 0
        · rw [if_pos c8] at H
          have c8b0 : decide (a0_1 < 0) = true := decide_eq_true c8
          clear c8
          have H' := Aside0.mk H
          clear H
          have hcz9_0 : w3.cell? ⟨gb575, 0, none⟩ = some (.int .i64 a0_0) := (blk_cell BK575.out 0).trans rfl
          have hcz9_1 : w3.cell? ⟨gb575, 1, none⟩ = some (.int .i64 a0_1) := (blk_cell BK575.out 1).trans rfl
          have hcz9_2 : w3.cell? ⟨gb575, 2, none⟩ = some (.int .u32 a0_2) := (blk_cell BK575.out 2).trans rfl
          have hcz9_3 : w3.cell? ⟨gb575, 3, none⟩ = some (.slice A0_3 l0_3.length c0_3) := (blk_cell BK575.out 3).trans rfl
          have hfz9_0 := blk_frozen BK575.out 0
          have hfz9_1 := blk_frozen BK575.out 1
          have hfz9_2 := blk_frozen BK575.out 2
          have hfz9_3 := blk_frozen BK575.out 3
          go_wp2
          go_meet
          case rel => exact ⟨_, (true), (by first | rfl | (simp; done) | (simp [*]; done)), H', ⟨by first | omega | exact Nat.le_refl _⟩, ⟨by (with_reducible repeat (first | refine blk_drewN ?_ _ | refine blk_drew ?_ | refine blk_alloc ?_ _)); exact BK575.out⟩, ⟨by repeat (first | (with_reducible first | exact HB.out | apply below_alloc | apply pw_below_drewN | apply below_drew1 | refine below_set ?_ GE575.out) | exact HB.out)⟩⟩
        · rw [if_neg c8] at H
          have c8b0 : decide (a0_1 < 0) = false := decide_eq_false c8
          clear c8
          have H' := Aside0.mk H
          clear H
          have hcz10_0 : w3.cell? ⟨gb575, 0, none⟩ = some (.int .i64 a0_0) := (blk_cell BK575.out 0).trans rfl
          have hcz10_1 : w3.cell? ⟨gb575, 1, none⟩ = some (.int .i64 a0_1) := (blk_cell BK575.out 1).trans rfl
          have hcz10_2 : w3.cell? ⟨gb575, 2, none⟩ = some (.int .u32 a0_2) := (blk_cell BK575.out 2).trans rfl
          have hcz10_3 : w3.cell? ⟨gb575, 3, none⟩ = some (.slice A0_3 l0_3.length c0_3) := (blk_cell BK575.out 3).trans rfl
          have hfz10_0 := blk_frozen BK575.out 0
          have hfz10_1 := blk_frozen BK575.out 1
          have hfz10_2 := blk_frozen BK575.out 2
          have hfz10_3 := blk_frozen BK575.out 3
          go_wp2
          go_meet
          case rel => exact ⟨_, (decide (a0_1 > 255)), (by first | rfl | (simp; done) | (simp [*]; done)), H', ⟨by first | omega | exact Nat.le_refl _⟩, ⟨by (with_reducible repeat (first | refine blk_drewN ?_ _ | refine blk_drew ?_ | refine blk_alloc ?_ _)); exact BK575.out⟩, ⟨by repeat (first | (with_reducible first | exact HB.out | apply below_alloc | apply pw_below_drewN | apply below_drew1 | refine below_set ?_ GE575.out) | exact HB.out)⟩⟩
  case rest =>
    clear HC2
    try clear p2
    try clear c4
    try clear c4b0
    try clear c6
    try clear c6b0
    try clear c8
    try clear c8b0
    try clear hcz10_0
    try clear hcz10_1
    try clear hcz10_2
    try clear hcz10_3
    try clear hcz5_0
    try clear hcz5_1
    try clear hcz5_2
    try clear hcz5_3
    try clear hcz7_0
    try clear hcz7_1
    try clear hcz7_2
    try clear hcz7_3
    try clear hcz9_0
    try clear hcz9_1
    try clear hcz9_2
    try clear hcz9_3
    try clear hfz10_0
    try clear hfz10_1
    try clear hfz10_2
    try clear hfz10_3
    try clear hfz5_0
    try clear hfz5_1
    try clear hfz5_2
    try clear hfz5_3
    try clear hfz7_0
    try clear hfz7_1
    try clear hfz7_2
    try clear hfz7_3
    try clear hfz9_0
    try clear hfz9_1
    try clear hfz9_2
    try clear hfz9_3
    obtain ⟨kq, x6_1, rfl, HA, HJ1, BK575, HB⟩ := hcut
    cases kq with
    | zero => exact absurd HA.out (by simp [icmp_Build.j0])
    | succ kj1 =>
      have H := HA.out
      clear HA
      simp only [icmp_Build.j0] at H
      by_cases c11 : x6_1 = true
      · subst c11
        have H1 : (some (([] : List Int), 1)) = some (r1, r2) := by rw [if_pos rfl] at H; exact H
        clear H
        have H := H1
        clear H1
        simp only [Option.some.injEq, Prod.mk.injEq] at H
        obtain ⟨rfl, rfl⟩ := H
        go_wp2
        go_ret2
        exact ⟨_, by first | rfl | (simp [errW_none, errW_some] <;> rfl) | (simp [*, errW_none, errW_some] <;> rfl), by first | exact Kd.R_nil _ _ _ _ _ | exact Kd.N_nil _ _ _ _ _ | exact Kd.V_nil _ _ _ _ _ | exact Kd.Q_nil _ _ _ _ _ | exact Kd.S_nil _ _ _ _ _, by repeat (first | (with_reducible first | exact HB.out | apply below_alloc | apply pw_below_drewN | apply below_drew1 | refine below_set ?_ GE575.out) | exact HB.out)⟩
      · replace c11 := Bool.eq_false_iff.mpr c11
        subst c11
        have H1 : (if (l0_3.length : Int) > 2020 then (some (([] : List Int), 3)) else ((some (([(a0_0) % 256, (a0_1) % 256, 0, 0, (a0_2 / 16777216) % 256, (a0_2 / 65536) % 256, (a0_2 / 256) % 256, (a0_2) % 256] : List Int) : List Int)).bind fun y576 => (if y576.length + l0_3.length < 140737488355328 then ((some (y576 ++ l0_3 : List Int)).bind fun y579 => ((octet_Check.f (([y579] : List (List Int)))).bind fun t586 => (if 2 < (y579.length : Int) then (if 3 < (y579.length : Int) then (some (((y579.set (2 : Int).toNat ((t586 / 256) % 256)).set (3 : Int).toNat ((t586) % 256)), 0)) else (none)) else (none)))) else (none)))) = some (r1, r2) := by rw [if_neg (show ¬ (false = true) by decide)] at H; exact H
        clear H
        have H := H1
        clear H1
        by_cases c12 : (l0_3.length : Int) > 2020
        · rw [if_pos c12] at H
          have c12b0 : decide (2020 < (l0_3.length : Int)) = true := decide_eq_true c12
          have c12b1 : decide (2020 < l0_3.length) = true := decide_eq_true (by omega)
          clear c12
          simp only [Option.some.injEq, Prod.mk.injEq] at H
          obtain ⟨rfl, rfl⟩ := H
          have hcz13_0 : wc.cell? ⟨gb575, 0, none⟩ = some (.int .i64 a0_0) := (blk_cell BK575.out 0).trans rfl
          have hcz13_1 : wc.cell? ⟨gb575, 1, none⟩ = some (.int .i64 a0_1) := (blk_cell BK575.out 1).trans rfl
          have hcz13_2 : wc.cell? ⟨gb575, 2, none⟩ = some (.int .u32 a0_2) := (blk_cell BK575.out 2).trans rfl
          have hcz13_3 : wc.cell? ⟨gb575, 3, none⟩ = some (.slice A0_3 l0_3.length c0_3) := (blk_cell BK575.out 3).trans rfl
          have hfz13_0 := blk_frozen BK575.out 0
          have hfz13_1 := blk_frozen BK575.out 1
          have hfz13_2 := blk_frozen BK575.out 2
          have hfz13_3 := blk_frozen BK575.out 3
          go_wp2
          go_ret2
          exact ⟨_, by first | rfl | (simp [errW_none, errW_some] <;> rfl) | (simp [*, errW_none, errW_some] <;> rfl), by first | exact Kd.R_nil _ _ _ _ _ | exact Kd.N_nil _ _ _ _ _ | exact Kd.V_nil _ _ _ _ _ | exact Kd.Q_nil _ _ _ _ _ | exact Kd.S_nil _ _ _ _ _, by repeat (first | (with_reducible first | exact HB.out | apply below_alloc | apply pw_below_drewN | apply below_drew1 | refine below_set ?_ GE575.out) | exact HB.out)⟩
        · rw [if_neg c12] at H
          have c12b0 : decide (2020 < (l0_3.length : Int)) = false := decide_eq_false c12
          have c12b1 : decide (2020 < l0_3.length) = false := decide_eq_false (by omega)
          clear c12
          obtain ⟨y576, hy576⟩ : ∃ y_ : List Int, y_ = (([(a0_0) % 256, (a0_1) % 256, 0, 0, (a0_2 / 16777216) % 256, (a0_2 / 65536) % 256, (a0_2 / 256) % 256, (a0_2) % 256] : List Int)) := ⟨_, rfl⟩
          replace H : (if y576.length + l0_3.length < 140737488355328 then ((some (y576 ++ l0_3 : List Int)).bind fun y579 => ((octet_Check.f (([y579] : List (List Int)))).bind fun t586 => (if 2 < (y579.length : Int) then (if 3 < (y579.length : Int) then (some (((y579.set (2 : Int).toNat ((t586 / 256) % 256)).set (3 : Int).toNat ((t586) % 256)), 0)) else (none)) else (none)))) else (none)) = some (r1, r2) := by first | (rw [hy576]; with_reducible exact H) | (have H2_ := (Option.bind_some _ _).symm.trans H; rw [hy576]; with_reducible exact H2_) | (have H2_ := (Option.bind_some _ _).symm.trans H; with_reducible exact H2_) | with_reducible exact H | (rw [hy576]; exact H) | exact H
          have Ny576 := Aside0.mk hy576
          clear hy576
          by_cases c14 : y576.length + l0_3.length < 140737488355328
          · rw [if_pos c14] at H
            have LMc14 := Aside0.mk c14
            clear c14
            obtain ⟨y579, hy579⟩ : ∃ y_ : List Int, y_ = (y576 ++ l0_3) := ⟨_, rfl⟩
            replace H : ((octet_Check.f (([y579] : List (List Int)))).bind fun t586 => (if 2 < (y579.length : Int) then (if 3 < (y579.length : Int) then (some (((y579.set (2 : Int).toNat ((t586 / 256) % 256)).set (3 : Int).toNat ((t586) % 256)), 0)) else (none)) else (none))) = some (r1, r2) := by first | (rw [hy579]; with_reducible exact H) | (have H2_ := (Option.bind_some _ _).symm.trans H; rw [hy579]; with_reducible exact H2_) | (have H2_ := (Option.bind_some _ _).symm.trans H; with_reducible exact H2_) | with_reducible exact H | (rw [hy579]; exact H) | exact H
            have Ny579 := Aside0.mk hy579
            clear hy579
            obtain ⟨y582, hy582⟩ : ∃ y_ : List (List Int), y_ = (([y579] : List (List Int))) := ⟨_, rfl⟩
            replace H : ((octet_Check.f y582).bind fun t586 => (if 2 < (y579.length : Int) then (if 3 < (y579.length : Int) then (some (((y579.set (2 : Int).toNat ((t586 / 256) % 256)).set (3 : Int).toNat ((t586) % 256)), 0)) else (none)) else (none))) = some (r1, r2) := by first | (rw [hy582]; with_reducible exact H) | (have H2_ := (Option.bind_some _ _).symm.trans H; rw [hy582]; with_reducible exact H2_) | (have H2_ := (Option.bind_some _ _).symm.trans H; with_reducible exact H2_) | with_reducible exact H | (rw [hy582]; exact H) | exact H
            have Ny582 := Aside0.mk hy582
            clear hy582
            replace H := Option.bind_eq_some_iff.mp H
            obtain ⟨t586, A150, H⟩ := H
            replace H : (if 2 < (y579.length : Int) then (if 3 < (y579.length : Int) then (some (((y579.set (2 : Int).toNat ((t586 / 256) % 256)).set (3 : Int).toNat ((t586) % 256)), 0)) else (none)) else (none)) = some (r1, r2) := H
            have A15 := Aside0.mk A150
            clear A150
            by_cases c16 : 2 < (y579.length : Int)
            · rw [if_pos c16] at H
              have c16b0 : decide (2 < (y579.length : Int)) = true := decide_eq_true c16
              have c16b1 : decide (2 < y579.length) = true := decide_eq_true (by omega)
              clear c16
              obtain ⟨y587, hy587⟩ : ∃ y_ : List Int, y_ = (y579.set (2 : Int).toNat ((t586 / 256) % 256)) := ⟨_, rfl⟩
              replace H : (if 3 < (y579.length : Int) then (some ((y587.set (3 : Int).toNat ((t586) % 256)), 0)) else (none)) = some (r1, r2) := by first | (rw [hy587]; with_reducible exact H) | (have H2_ := (Option.bind_some _ _).symm.trans H; rw [hy587]; with_reducible exact H2_) | (have H2_ := (Option.bind_some _ _).symm.trans H; with_reducible exact H2_) | with_reducible exact H | (rw [hy587]; exact H) | exact H
              have Ny587 := Aside0.mk hy587
              clear hy587
              by_cases c18 : 3 < (y579.length : Int)
              · rw [if_pos c18] at H
                have c18b0 : decide (3 < (y579.length : Int)) = true := decide_eq_true c18
                have c18b1 : decide (3 < y579.length) = true := decide_eq_true (by omega)
                clear c18
                obtain ⟨y588, hy588⟩ : ∃ y_ : List Int, y_ = (y587.set (3 : Int).toNat ((t586) % 256)) := ⟨_, rfl⟩
                replace H : (some (y588, 0)) = some (r1, r2) := by first | (rw [hy588]; with_reducible exact H) | (have H2_ := (Option.bind_some _ _).symm.trans H; rw [hy588]; with_reducible exact H2_) | (have H2_ := (Option.bind_some _ _).symm.trans H; with_reducible exact H2_) | with_reducible exact H | (rw [hy588]; exact H) | exact H
                have Ny588 := Aside0.mk hy588
                clear hy588
                simp only [Option.some.injEq, Prod.mk.injEq] at H
                obtain ⟨rfl, rfl⟩ := H
                have hcz20_0 : wc.cell? ⟨gb575, 0, none⟩ = some (.int .i64 a0_0) := (blk_cell BK575.out 0).trans rfl
                have hcz20_1 : wc.cell? ⟨gb575, 1, none⟩ = some (.int .i64 a0_1) := (blk_cell BK575.out 1).trans rfl
                have hcz20_2 : wc.cell? ⟨gb575, 2, none⟩ = some (.int .u32 a0_2) := (blk_cell BK575.out 2).trans rfl
                have hcz20_3 : wc.cell? ⟨gb575, 3, none⟩ = some (.slice A0_3 l0_3.length c0_3) := (blk_cell BK575.out 3).trans rfl
                have hfz20_0 := blk_frozen BK575.out 0
                have hfz20_1 := blk_frozen BK575.out 1
                have hfz20_2 := blk_frozen BK575.out 2
                have hfz20_3 := blk_frozen BK575.out 3
                go_wp2_with (first | ((with_reducible refine gate_dst (N := 51) rfl ?_); refine Kd.R_lit (Kd.int .u8) _ 5 ?hg (N := 51) ?hd (xs := ([(a0_0) % 256, (a0_1) % 256, 0, 0, (a0_2 / 16777216) % 256, (a0_2 / 65536) % 256, (a0_2 / 256) % 256, (a0_2) % 256] : List Int)) (inner := [.int .u8 ((a0_0) % 256), .int .u8 ((a0_1) % 256), .int .u8 0, .int .u8 0, .int .u8 ((a0_2 / 16777216) % 256), .int .u8 ((a0_2 / 65536) % 256), .int .u8 ((a0_2 / 256) % 256), .int .u8 ((a0_2) % 256)]) (ok := fun _ => True) (okp := fun _ => True) ?hr ?hp (fun _ hk => hk) trivial (Below.refl _ _) (Nat.le_refl _) (by simp) ?_; (case hd => rfl); (case hg => rfl); (case hr => first | (go_simp; done) | (go_simp; rfl)); (case hp => exact (Reps.one (show Kd.M (Kd.int .u8) _ _ _ ((a0_0) % 256) [.int .u8 ((a0_0) % 256)] from rfl) (Reps.one (show Kd.M (Kd.int .u8) _ _ _ ((a0_1) % 256) [.int .u8 ((a0_1) % 256)] from rfl) (Reps.one (show Kd.M (Kd.int .u8) _ _ _ 0 [.int .u8 0] from rfl) (Reps.one (show Kd.M (Kd.int .u8) _ _ _ 0 [.int .u8 0] from rfl) (Reps.one (show Kd.M (Kd.int .u8) _ _ _ ((a0_2 / 16777216) % 256) [.int .u8 ((a0_2 / 16777216) % 256)] from rfl) (Reps.one (show Kd.M (Kd.int .u8) _ _ _ ((a0_2 / 65536) % 256) [.int .u8 ((a0_2 / 65536) % 256)] from rfl) (Reps.one (show Kd.M (Kd.int .u8) _ _ _ ((a0_2 / 256) % 256) [.int .u8 ((a0_2 / 256) % 256)] from rfl) (Reps.one (show Kd.M (Kd.int .u8) _ _ _ ((a0_2) % 256) [.int .u8 ((a0_2) % 256)] from rfl) (Reps.none _ _)))))))))); intro v577 w21 ho22 hb hg_ hnew_; clear hg_ hnew_; (first | rw [← Ny576.out] at ho22 | (simp only [Int.reduceToNat] at ho22; rw [← Ny576.out] at ho22)); have n0_ := Aside0.mk (Kd.R_lower ho22 (below_size (by repeat (first | (with_reducible first | exact HB.out | apply below_alloc | apply pw_below_drewN | apply below_drew1 | refine below_set ?_ GE575.out) | exact HB.out)))); have n1_ := Aside0.mk (blk_below (g := gb575) (o := .cells #[.int .i64 a0_0, .int .i64 a0_1, .int .u32 a0_2, .slice A0_3 l0_3.length c0_3] 66 (0, 0)) (by (with_reducible repeat (first | refine blk_drewN ?_ _ | refine blk_drew ?_ | refine blk_alloc ?_ _)); exact BK575.out) hb); have n2_ := Aside0.mk (below_step (by repeat (first | (with_reducible first | exact HB.out | apply below_alloc | apply pw_below_drewN | apply below_drew1 | refine below_set ?_ GE575.out) | exact HB.out)) hb); clear BK575; clear HB; have HO578 := n0_; have BK575 := n1_; have HB := n2_; clear n0_ n1_ n2_; clear hb ho22; have hcz23_0 : w21.cell? ⟨gb575, 0, none⟩ = some (.int .i64 a0_0) := (blk_cell BK575.out 0).trans rfl; have hcz23_1 : w21.cell? ⟨gb575, 1, none⟩ = some (.int .i64 a0_1) := (blk_cell BK575.out 1).trans rfl; have hcz23_2 : w21.cell? ⟨gb575, 2, none⟩ = some (.int .u32 a0_2) := (blk_cell BK575.out 2).trans rfl; have hcz23_3 : w21.cell? ⟨gb575, 3, none⟩ = some (.slice A0_3 l0_3.length c0_3) := (blk_cell BK575.out 3).trans rfl; have hfz23_0 := blk_frozen BK575.out 0; have hfz23_1 := blk_frozen BK575.out 1; have hfz23_2 := blk_frozen BK575.out 2; have hfz23_3 := blk_frozen BK575.out 3) | ((with_reducible refine gate_builtin (b := .append) (xs := #[.tmp 51, .tmp 53]) rfl ?_); at_builtin; refine Kd.R_append_rows (Kd.int .u8) (w0 := w) w.heap.size rfl (.tmp 51) (.tmp 53) 22 5 (.int .u8 0) 1 rfl Try.underlying22 info5 rfl (by decide) (by omega) v577 y576 l0_3 _ _ _ (fun _ => True) (fun _ => False) rfl rfl ?aO ?aR (fun _ _ h => h) (fun _ h => h.elim) ?aF ?aB ?aS ?aL ?_; (case aR => repeat (first | exact (Kd.C_below HR0_3.out HB.out) | (with_reducible refine Kd.C_alloc ?_ _) | (with_reducible refine Kd.C_drewN ?_ _) | (with_reducible refine Kd.C_drew ?_))); (case aB => exact (by repeat (first | (with_reducible first | exact HB.out | apply below_alloc | apply pw_below_drewN | apply below_drew1 | refine below_set ?_ GE575.out) | exact HB.out))); (case aF => exact (fun _ _ => trivial)); (case aO => exact (by (with_reducible repeat (first | apply Kd.R_alloc | apply Kd.R_drewN | apply Kd.R_drew)); exact HO578.out)); (case aS => exact (below_size (by repeat (first | (with_reducible first | exact HB.out | apply below_alloc | apply pw_below_drewN | apply below_drew1 | refine below_set ?_ GE575.out) | exact HB.out)))); (case aL => have := LMc14.out; omega); intro v580 w24 ho hb hg hat; rw [← Ny579.out] at ho; have n0_ := Aside0.mk (blk_grown (g := gb575) (o := .cells #[.int .i64 a0_0, .int .i64 a0_1, .int .u32 a0_2, .slice A0_3 l0_3.length c0_3] 66 (0, 0)) (by (with_reducible repeat (first | refine blk_drewN ?_ _ | refine blk_drew ?_ | refine blk_alloc ?_ _)); exact BK575.out) hg (Kd.R_ne HO578.out BK575.out (by decide))); have n1_ := Aside0.mk (hb); have n2_ := Aside0.mk (ho); clear BK575; clear HB; clear HO578; have BK575 := n0_; have HB := n1_; have HO581 := n2_; clear n0_ n1_ n2_; clear ho hb hg hat; obtain ⟨Ao25, co25, eo25⟩ := Kd.R_slice HO581.out; subst eo25) | ((with_reducible refine gate_dst (N := 56) rfl ?_); refine Kd.N_lit (Kd.slice 5 (Kd.int .u8)) _ 22 ?hg (N' := 56) ?hd (xs := ([y579] : List (List Int))) (inner := [.slice Ao25 y579.length co25]) (ok := fun _ => True) (okp := fun _ => True) ?hr ?hp (fun _ _ => trivial) trivial (Below.refl _ _) (Nat.le_refl _) (by simp) ?_; (case hd => rfl); (case hg => rfl); (case hr => first | (go_simp; done) | (go_simp; rfl)); (case hp => exact (Reps.one (show Kd.FK (Kd.slice 5 (Kd.int .u8)) _ _ y579 [.slice Ao25 y579.length co25] from Kd.FK_slice_mk (by exact (Kd.R_reads' HO581.out).2.1) (Kd.F_mono (Kd.C_F (Kd.heap_int .u8) (by repeat (first | exact (Kd.R_reads' HO581.out).2.2 | (with_reducible refine Kd.C_alloc ?_ _) | (with_reducible refine Kd.C_drewN ?_ _) | (with_reducible refine Kd.C_drew ?_)))) (fun _ _ => trivial))) (Reps.none _ _))); intro vl585 w26 ho hb hg_ hnew_; clear hg_ hnew_; (first | rw [← Ny582.out] at ho | (simp only [Int.reduceToNat] at ho; rw [← Ny582.out] at ho)); obtain ⟨Al585, cl585, el585⟩ := Kd.N_slice ho; subst el585; have hr := (Kd.N_reads' ho).2.2; have hl := (Kd.N_reads' ho).2.1; clear ho; have n0_ := Aside0.mk (Kd.R_below (by (with_reducible repeat (first | apply Kd.R_alloc | apply Kd.R_drewN | apply Kd.R_drew)); exact HO581.out) hb); have n1_ := Aside0.mk (blk_below (g := gb575) (o := .cells #[.int .i64 a0_0, .int .i64 a0_1, .int .u32 a0_2, .slice A0_3 l0_3.length c0_3] 66 (0, 0)) (by (with_reducible repeat (first | refine blk_drewN ?_ _ | refine blk_drew ?_ | refine blk_alloc ?_ _)); exact BK575.out) hb); have n2_ := Aside0.mk (below_step (by repeat (first | (with_reducible first | exact HB.out | apply below_alloc | apply pw_below_drewN | apply below_drew1 | refine below_set ?_ GE575.out) | exact HB.out)) hb); have n3_ := Aside0.mk (hr); have n4_ := Aside0.mk (hl); clear HO581; clear BK575; clear HB; have HO581 := n0_; have BK575 := n1_; have HB := n2_; have HRl585 := n3_; have HCl585 := n4_; clear n0_ n1_ n2_ n3_ n4_; clear hb hr hl) | ((with_reducible refine gate_callee (f := 28) rfl ?_); refine goesL_ (some 57) rfl rfl Try.func28 (by kernel_rfl) rfl #[.slice Al585 y582.length cl585] rfl (by (try simp only [List.map_toArray, List.map_cons, List.map_nil]); first | done | rfl | (simp only [List.length_drop, List.length_take]; rfl)) ?_; (with_reducible refine (octet_Check.calls _ _ y582 t586 _ ?side1 ?side2 A15.out).mono ?_); (case side1 => repeat (first | exact (by repeat (first | (with_reducible exact HRl585.out) | (with_reducible refine Kd.C_alloc ?_ _) | (with_reducible refine Kd.C_drewN ?_ _) | (with_reducible refine Kd.C_drew ?_) | exact HRl585.out)) | (with_reducible refine Kd.C_alloc ?_ _) | (with_reducible refine Kd.C_drewN ?_ _) | (with_reducible refine Kd.C_drew ?_))); (case side2 => exact HCl585.out); rintro e w27 ⟨rfl, hb⟩; refine ⟨_, rfl, ?_⟩; have n0_ := Aside0.mk (Kd.R_below (by (with_reducible repeat (first | apply Kd.R_alloc | apply Kd.R_drewN | apply Kd.R_drew)); exact HO581.out) hb); have n1_ := Aside0.mk (blk_below (g := gb575) (o := .cells #[.int .i64 a0_0, .int .i64 a0_1, .int .u32 a0_2, .slice A0_3 l0_3.length c0_3] 66 (0, 0)) (by (with_reducible repeat (first | refine blk_drewN ?_ _ | refine blk_drew ?_ | refine blk_alloc ?_ _)); exact BK575.out) hb); have n2_ := Aside0.mk (Kd.C_below (by repeat (first | (with_reducible exact HRl585.out) | (with_reducible refine Kd.C_alloc ?_ _) | (with_reducible refine Kd.C_drewN ?_ _) | (with_reducible refine Kd.C_drew ?_) | exact HRl585.out)) hb); have n3_ := Aside0.mk (below_step (by repeat (first | (with_reducible first | exact HB.out | apply below_alloc | apply pw_below_drewN | apply below_drew1 | refine below_set ?_ GE575.out) | exact HB.out)) hb); clear HO581; clear BK575; clear HRl585; clear HB; have HO581 := n0_; have BK575 := n1_; have HRl585 := n2_; have HB := n3_; clear n0_ n1_ n2_ n3_; (try clear hb); (try clear hb2); (try clear hk); (try clear hi); have p17 : 0 ≤ (2 : Int) := (by omega); have q17 : (2 : Int) < ((y579.length : Int) : Int) := of_decide_eq_true (by first | (with_reducible assumption) | assumption); have qi17 : (2 < y579.length) = True := eq_true (by omega); obtain ⟨go17, co17, eo17, gb17, gl17, cl17, HG17⟩ := Kd.R_form HO581.out (by omega); (first | cases eo17 | (injection eo17 with ea_ en_ ec_; (first | subst ea_ | (injection ea_ with ea_; subst ea_)); subst ec_; clear en_)); have GB17 := Aside0.mk gb17; have GG17 := Aside0.mk HG17; clear gb17 gl17 HG17; obtain ⟨hx17_0, hf17_0⟩ := Kd.R_celln 0 HO581.out (2 : Int) p17 q17; (try rw [show ((2 : Int)).toNat = 2 from rfl] at hx17_0); (try simp only [Nat.reduceMul, Nat.zero_mul, Nat.zero_add, Nat.reduceAdd] at hx17_0); (try rw [show ((2 : Int)).toNat = 2 from rfl] at hf17_0); (try simp only [Nat.reduceMul, Nat.zero_mul, Nat.zero_add, Nat.reduceAdd] at hf17_0); replace p17 := eq_true p17; replace q17 := eq_true q17; obtain ⟨hy28_, hz28_⟩ := Kd.R_celln 0 HO581.out (2 : Int) (by omega) (of_decide_eq_true (by first | (with_reducible assumption) | assumption)); (try simp only [Int.reduceToNat, Int.toNat_zero, Int.toNat_ofNat, Nat.reduceMul, Nat.zero_mul, Nat.zero_add] at hy28_ hz28_); (try rw [show ((2 : Int)).toNat = 2 from rfl] at hy28_); (try rw [show ((2 : Int)).toNat = 2 from rfl] at hz28_); have HP28 := Kd.R_putg HO581.out (2 : Int) ((t586 / 256) % 256)) | ((with_reducible refine gate_store (t := 5) (p := 65) rfl ?_); refine store_event (t := 5) (p := 65) (v := ?vo_w29) (w1 := (w27.setCell ⟨go17, (2 : Int).toNat, none⟩ (.int .u8 ((t586 / 256) % 256)))) ?hg ?ho ?hn ?hr ?_; (case ho => rfl); (case hg => rfl); (case hn => rfl); (case hr => first | (go_simp; done) | (go_simp; rfl)); intro w29 hw; have hg : w27.grownBy w29 (some go17) := (by rw [hw]; exact HP28.2); have hp_ : Kd.R (Kd.int .u8) 5 w29 w.heap.size (fun _ => True) (.slice (some ⟨go17, 0, none⟩) y579.length co25) y587 := (by rw [hw, Ny587.out]; exact HP28.1); clear HP28; have n0_ := Aside0.mk (blk_grown (g := gb575) (o := .cells #[.int .i64 a0_0, .int .i64 a0_1, .int .u32 a0_2, .slice A0_3 l0_3.length c0_3] 66 (0, 0)) (by (with_reducible repeat (first | refine blk_drewN ?_ _ | refine blk_drew ?_ | refine blk_alloc ?_ _)); exact BK575.out) hg (Kd.R_ne HO581.out BK575.out (by decide))); have n1_ := Aside0.mk (hp_); have n2_ := Aside0.mk ((by rw [hw]; exact below_set (HB.out) GB17.out : Below w.heap.size w w29)); clear BK575; clear HO581; clear HB; have BK575 := n0_; have HO581 := n1_; have HB := n2_; clear n0_ n1_ n2_; clear hg hw hp_; have p19 : 0 ≤ (3 : Int) := (by omega); have q19 : (3 : Int) < ((y579.length : Int) : Int) := of_decide_eq_true (by first | (with_reducible assumption) | assumption); have qi19 : (3 < y579.length) = True := eq_true (by omega); obtain ⟨hx19_0, hf19_0⟩ := Kd.R_celln 0 HO581.out (3 : Int) p19 q19; (try rw [show ((3 : Int)).toNat = 3 from rfl] at hx19_0); (try simp only [Nat.reduceMul, Nat.zero_mul, Nat.zero_add, Nat.reduceAdd] at hx19_0); (try rw [show ((3 : Int)).toNat = 3 from rfl] at hf19_0); (try simp only [Nat.reduceMul, Nat.zero_mul, Nat.zero_add, Nat.reduceAdd] at hf19_0); replace p19 := eq_true p19; replace q19 := eq_true q19; obtain ⟨hy30_, hz30_⟩ := Kd.R_celln 0 HO581.out (3 : Int) (by omega) (of_decide_eq_true (by first | (with_reducible assumption) | assumption)); (try simp only [Int.reduceToNat, Int.toNat_zero, Int.toNat_ofNat, Nat.reduceMul, Nat.zero_mul, Nat.zero_add] at hy30_ hz30_); (try rw [show ((3 : Int)).toNat = 3 from rfl] at hy30_); (try rw [show ((3 : Int)).toNat = 3 from rfl] at hz30_); have HP30 := Kd.R_putg HO581.out (3 : Int) ((t586) % 256)) | ((with_reducible refine gate_store (t := 5) (p := 66) rfl ?_); refine store_event (t := 5) (p := 66) (v := ?vo_w31) (w1 := (w29.setCell ⟨go17, (3 : Int).toNat, none⟩ (.int .u8 ((t586) % 256)))) ?hg ?ho ?hn ?hr ?_; (case ho => rfl); (case hg => rfl); (case hn => rfl); (case hr => first | (go_simp; done) | (go_simp; rfl)); intro w31 hw; have hg : w29.grownBy w31 (some go17) := (by rw [hw]; exact HP30.2); have hp_ : Kd.R (Kd.int .u8) 5 w31 w.heap.size (fun _ => True) (.slice (some ⟨go17, 0, none⟩) y579.length co25) y588 := (by rw [hw, Ny588.out]; exact HP30.1); clear HP30; have n0_ := Aside0.mk (blk_grown (g := gb575) (o := .cells #[.int .i64 a0_0, .int .i64 a0_1, .int .u32 a0_2, .slice A0_3 l0_3.length c0_3] 66 (0, 0)) (by (with_reducible repeat (first | refine blk_drewN ?_ _ | refine blk_drew ?_ | refine blk_alloc ?_ _)); exact BK575.out) hg (Kd.R_ne HO581.out BK575.out (by decide))); have n1_ := Aside0.mk (hp_); have n2_ := Aside0.mk ((by rw [hw]; exact below_set (HB.out) GB17.out : Below w.heap.size w w31)); clear BK575; clear HO581; clear HB; have BK575 := n0_; have HO581 := n1_; have HB := n2_; clear n0_ n1_ n2_; clear hg hw hp_))
                go_ret2
                exact ⟨_, by first | rfl | (simp [errW_none, errW_some] <;> rfl) | (simp [*, errW_none, errW_some] <;> rfl), by (with_reducible repeat (first | apply Kd.R_alloc | apply Kd.R_drewN | apply Kd.R_drew)); exact HO581.out, by repeat (first | (with_reducible first | exact HB.out | apply below_alloc | apply pw_below_drewN | apply below_drew1 | refine below_set ?_ GE575.out) | exact HB.out)⟩
              · rw [if_neg c18] at H
                exact absurd H (by simp)
            · rw [if_neg c16] at H
              exact absurd H (by simp)
          · rw [if_neg c14] at H
            exact absurd H (by simp)

/-! ### icmp_Kind: function 49 -/
def icmp_Kind.f (a0_0 : Int) (a0_1 : Int) (a0_2 : Int) (l0_3 : List Int) : Option (Int) := if a0_0 = 8 then (if a0_1 = 0 then (some 3) else (some 0)) else (if a0_0 = 0 then (if a0_1 = 0 then (some 4) else (some 0)) else (if a0_0 = 3 then (some 5) else (if a0_0 = 11 then (some 5) else (if a0_0 = 12 then (some 5) else (some 0)))))
set_option maxHeartbeats 8000000 in
set_option maxRecDepth 100000 in
theorem icmp_Kind.calls (a0_0 : Int) (a0_1 : Int) (a0_2 : Int) (A0_3 : Option Addr) (c0_3 : Nat) (l0_3 : List Int) (r : Int) (w : World) (hr0_3 : Kd.C (Kd.int .u8) w A0_3 l0_3.length l0_3) (hc0_3 : l0_3.length ≤ c0_3) (h : icmp_Kind.f a0_0 a0_1 a0_2 l0_3 = some r) :
    Calls Try.prog 49 #[.agg #[.int .i64 a0_0, .int .i64 a0_1, .int .u32 a0_2, .slice A0_3 l0_3.length c0_3]] w fun e w' => e = .returned (.int .i64 r) ∧ Below w.heap.size w w' := by
  have hu66 := Try.underlying66
  have HR0_3 := Aside0.mk hr0_3
  have HC0_3 := Aside0.mk hc0_3
  clear hr0_3 hc0_3
  have HB := Aside0.mk (Below.refl w.heap.size w)
  have H : (if a0_0 = 8 then (if a0_1 = 0 then (some 3) else (some 0)) else (if a0_0 = 0 then (if a0_1 = 0 then (some 4) else (some 0)) else (if a0_0 = 3 then (some 5) else (if a0_0 = 11 then (some 5) else (if a0_0 = 12 then (some 5) else (some 0)))))) = some r := h
  clear h
  by_cases c2 : a0_0 = 8
  · rw [if_pos c2] at H
    have c2b0 : (a0_0 == 8) = true := beq_iff_eq.mpr c2
    have c2b1 : (a0_0 != 8) = false := bne_eq_false_iff_eq.mpr c2
    clear c2
    by_cases c3 : a0_1 = 0
    · rw [if_pos c3] at H
      have c3b0 : (a0_1 == 0) = true := beq_iff_eq.mpr c3
      have c3b1 : (a0_1 != 0) = false := bne_eq_false_iff_eq.mpr c3
      clear c3
      obtain rfl := Option.some.inj H
      go_enter Try.func49, Try.ntmps49
      go_wp2_with (first | ((with_reducible refine gate_dst (N := 1) rfl ?_); refine box_event ?hg (N := 1) ?hd (cs := #[.int .i64 a0_0, .int .i64 a0_1, .int .u32 a0_2, .slice A0_3 l0_3.length c0_3]) (t := 66) ?hr ?_; (case hd => rfl); (case hg => rfl); (case hr => first | (go_simp; done) | (go_simp; rfl)); intro gb629 hg w4 hbox hb; have n0_ := Aside0.mk (below_step (by repeat (first | (with_reducible first | exact HB.out | apply below_alloc | apply pw_below_drewN | apply below_drew1) | exact HB.out)) hb); have n1_ := Aside0.mk (hbox); have n2_ := Aside0.mk ((by rw [hg]; exact (below_size (by repeat (first | (with_reducible first | exact HB.out | apply below_alloc | apply pw_below_drewN | apply below_drew1) | exact HB.out))) : w.heap.size ≤ gb629)); have n3_ := Aside0.mk ((by rw [hg]; exact (below_size (by repeat (first | (with_reducible first | exact HB.out | apply below_alloc | apply pw_below_drewN | apply below_drew1) | exact HB.out))) : w.heap.size ≤ gb629)); clear HB; have HB := n0_; have BK629 := n1_; have GW629 := n2_; have GE629 := n3_; clear n0_ n1_ n2_ n3_; clear hb hbox hg; have hcz5_0 : w4.cell? ⟨gb629, 0, none⟩ = some (.int .i64 a0_0) := (blk_cell BK629.out 0).trans rfl; have hcz5_1 : w4.cell? ⟨gb629, 1, none⟩ = some (.int .i64 a0_1) := (blk_cell BK629.out 1).trans rfl; have hcz5_2 : w4.cell? ⟨gb629, 2, none⟩ = some (.int .u32 a0_2) := (blk_cell BK629.out 2).trans rfl; have hcz5_3 : w4.cell? ⟨gb629, 3, none⟩ = some (.slice A0_3 l0_3.length c0_3) := (blk_cell BK629.out 3).trans rfl; have hfz5_0 := blk_frozen BK629.out 0; have hfz5_1 := blk_frozen BK629.out 1; have hfz5_2 := blk_frozen BK629.out 2; have hfz5_3 := blk_frozen BK629.out 3))
      go_ret
      exact ⟨by first | rfl | (simp [errW_none, errW_some] <;> rfl) | (simp [*, errW_none, errW_some] <;> rfl), by repeat (first | (with_reducible first | exact HB.out | apply below_alloc | apply pw_below_drewN | apply below_drew1 | refine below_set ?_ GE629.out) | exact HB.out)⟩
    · rw [if_neg c3] at H
      have c3b0 : (a0_1 == 0) = false := beq_eq_false_iff_ne.mpr c3
      have c3b1 : (a0_1 != 0) = true := bne_iff_ne.mpr c3
      obtain rfl := Option.some.inj H
      go_enter Try.func49, Try.ntmps49
      go_wp2_with (first | ((with_reducible refine gate_dst (N := 1) rfl ?_); refine box_event ?hg (N := 1) ?hd (cs := #[.int .i64 a0_0, .int .i64 a0_1, .int .u32 a0_2, .slice A0_3 l0_3.length c0_3]) (t := 66) ?hr ?_; (case hd => rfl); (case hg => rfl); (case hr => first | (go_simp; done) | (go_simp; rfl)); intro gb629 hg w6 hbox hb; have n0_ := Aside0.mk (below_step (by repeat (first | (with_reducible first | exact HB.out | apply below_alloc | apply pw_below_drewN | apply below_drew1) | exact HB.out)) hb); have n1_ := Aside0.mk (hbox); have n2_ := Aside0.mk ((by rw [hg]; exact (below_size (by repeat (first | (with_reducible first | exact HB.out | apply below_alloc | apply pw_below_drewN | apply below_drew1) | exact HB.out))) : w.heap.size ≤ gb629)); have n3_ := Aside0.mk ((by rw [hg]; exact (below_size (by repeat (first | (with_reducible first | exact HB.out | apply below_alloc | apply pw_below_drewN | apply below_drew1) | exact HB.out))) : w.heap.size ≤ gb629)); clear HB; have HB := n0_; have BK629 := n1_; have GW629 := n2_; have GE629 := n3_; clear n0_ n1_ n2_ n3_; clear hb hbox hg; have hcz7_0 : w6.cell? ⟨gb629, 0, none⟩ = some (.int .i64 a0_0) := (blk_cell BK629.out 0).trans rfl; have hcz7_1 : w6.cell? ⟨gb629, 1, none⟩ = some (.int .i64 a0_1) := (blk_cell BK629.out 1).trans rfl; have hcz7_2 : w6.cell? ⟨gb629, 2, none⟩ = some (.int .u32 a0_2) := (blk_cell BK629.out 2).trans rfl; have hcz7_3 : w6.cell? ⟨gb629, 3, none⟩ = some (.slice A0_3 l0_3.length c0_3) := (blk_cell BK629.out 3).trans rfl; have hfz7_0 := blk_frozen BK629.out 0; have hfz7_1 := blk_frozen BK629.out 1; have hfz7_2 := blk_frozen BK629.out 2; have hfz7_3 := blk_frozen BK629.out 3))
      go_ret
      exact ⟨by first | rfl | (simp [errW_none, errW_some] <;> rfl) | (simp [*, errW_none, errW_some] <;> rfl), by repeat (first | (with_reducible first | exact HB.out | apply below_alloc | apply pw_below_drewN | apply below_drew1 | refine below_set ?_ GE629.out) | exact HB.out)⟩
  · rw [if_neg c2] at H
    have c2b0 : (a0_0 == 8) = false := beq_eq_false_iff_ne.mpr c2
    have c2b1 : (a0_0 != 8) = true := bne_iff_ne.mpr c2
    by_cases c8 : a0_0 = 0
    · rw [if_pos c8] at H
      have c8b0 : (a0_0 == 0) = true := beq_iff_eq.mpr c8
      have c8b1 : (a0_0 != 0) = false := bne_eq_false_iff_eq.mpr c8
      clear c8
      by_cases c9 : a0_1 = 0
      · rw [if_pos c9] at H
        have c9b0 : (a0_1 == 0) = true := beq_iff_eq.mpr c9
        have c9b1 : (a0_1 != 0) = false := bne_eq_false_iff_eq.mpr c9
        clear c9
        obtain rfl := Option.some.inj H
        go_enter Try.func49, Try.ntmps49
        go_wp2_with (first | ((with_reducible refine gate_dst (N := 1) rfl ?_); refine box_event ?hg (N := 1) ?hd (cs := #[.int .i64 a0_0, .int .i64 a0_1, .int .u32 a0_2, .slice A0_3 l0_3.length c0_3]) (t := 66) ?hr ?_; (case hd => rfl); (case hg => rfl); (case hr => first | (go_simp; done) | (go_simp; rfl)); intro gb629 hg w10 hbox hb; have n0_ := Aside0.mk (below_step (by repeat (first | (with_reducible first | exact HB.out | apply below_alloc | apply pw_below_drewN | apply below_drew1) | exact HB.out)) hb); have n1_ := Aside0.mk (hbox); have n2_ := Aside0.mk ((by rw [hg]; exact (below_size (by repeat (first | (with_reducible first | exact HB.out | apply below_alloc | apply pw_below_drewN | apply below_drew1) | exact HB.out))) : w.heap.size ≤ gb629)); have n3_ := Aside0.mk ((by rw [hg]; exact (below_size (by repeat (first | (with_reducible first | exact HB.out | apply below_alloc | apply pw_below_drewN | apply below_drew1) | exact HB.out))) : w.heap.size ≤ gb629)); clear HB; have HB := n0_; have BK629 := n1_; have GW629 := n2_; have GE629 := n3_; clear n0_ n1_ n2_ n3_; clear hb hbox hg; have hcz11_0 : w10.cell? ⟨gb629, 0, none⟩ = some (.int .i64 a0_0) := (blk_cell BK629.out 0).trans rfl; have hcz11_1 : w10.cell? ⟨gb629, 1, none⟩ = some (.int .i64 a0_1) := (blk_cell BK629.out 1).trans rfl; have hcz11_2 : w10.cell? ⟨gb629, 2, none⟩ = some (.int .u32 a0_2) := (blk_cell BK629.out 2).trans rfl; have hcz11_3 : w10.cell? ⟨gb629, 3, none⟩ = some (.slice A0_3 l0_3.length c0_3) := (blk_cell BK629.out 3).trans rfl; have hfz11_0 := blk_frozen BK629.out 0; have hfz11_1 := blk_frozen BK629.out 1; have hfz11_2 := blk_frozen BK629.out 2; have hfz11_3 := blk_frozen BK629.out 3))
        go_ret
        exact ⟨by first | rfl | (simp [errW_none, errW_some] <;> rfl) | (simp [*, errW_none, errW_some] <;> rfl), by repeat (first | (with_reducible first | exact HB.out | apply below_alloc | apply pw_below_drewN | apply below_drew1 | refine below_set ?_ GE629.out) | exact HB.out)⟩
      · rw [if_neg c9] at H
        have c9b0 : (a0_1 == 0) = false := beq_eq_false_iff_ne.mpr c9
        have c9b1 : (a0_1 != 0) = true := bne_iff_ne.mpr c9
        obtain rfl := Option.some.inj H
        go_enter Try.func49, Try.ntmps49
        go_wp2_with (first | ((with_reducible refine gate_dst (N := 1) rfl ?_); refine box_event ?hg (N := 1) ?hd (cs := #[.int .i64 a0_0, .int .i64 a0_1, .int .u32 a0_2, .slice A0_3 l0_3.length c0_3]) (t := 66) ?hr ?_; (case hd => rfl); (case hg => rfl); (case hr => first | (go_simp; done) | (go_simp; rfl)); intro gb629 hg w12 hbox hb; have n0_ := Aside0.mk (below_step (by repeat (first | (with_reducible first | exact HB.out | apply below_alloc | apply pw_below_drewN | apply below_drew1) | exact HB.out)) hb); have n1_ := Aside0.mk (hbox); have n2_ := Aside0.mk ((by rw [hg]; exact (below_size (by repeat (first | (with_reducible first | exact HB.out | apply below_alloc | apply pw_below_drewN | apply below_drew1) | exact HB.out))) : w.heap.size ≤ gb629)); have n3_ := Aside0.mk ((by rw [hg]; exact (below_size (by repeat (first | (with_reducible first | exact HB.out | apply below_alloc | apply pw_below_drewN | apply below_drew1) | exact HB.out))) : w.heap.size ≤ gb629)); clear HB; have HB := n0_; have BK629 := n1_; have GW629 := n2_; have GE629 := n3_; clear n0_ n1_ n2_ n3_; clear hb hbox hg; have hcz13_0 : w12.cell? ⟨gb629, 0, none⟩ = some (.int .i64 a0_0) := (blk_cell BK629.out 0).trans rfl; have hcz13_1 : w12.cell? ⟨gb629, 1, none⟩ = some (.int .i64 a0_1) := (blk_cell BK629.out 1).trans rfl; have hcz13_2 : w12.cell? ⟨gb629, 2, none⟩ = some (.int .u32 a0_2) := (blk_cell BK629.out 2).trans rfl; have hcz13_3 : w12.cell? ⟨gb629, 3, none⟩ = some (.slice A0_3 l0_3.length c0_3) := (blk_cell BK629.out 3).trans rfl; have hfz13_0 := blk_frozen BK629.out 0; have hfz13_1 := blk_frozen BK629.out 1; have hfz13_2 := blk_frozen BK629.out 2; have hfz13_3 := blk_frozen BK629.out 3))
        go_ret
        exact ⟨by first | rfl | (simp [errW_none, errW_some] <;> rfl) | (simp [*, errW_none, errW_some] <;> rfl), by repeat (first | (with_reducible first | exact HB.out | apply below_alloc | apply pw_below_drewN | apply below_drew1 | refine below_set ?_ GE629.out) | exact HB.out)⟩
    · rw [if_neg c8] at H
      have c8b0 : (a0_0 == 0) = false := beq_eq_false_iff_ne.mpr c8
      have c8b1 : (a0_0 != 0) = true := bne_iff_ne.mpr c8
      by_cases c14 : a0_0 = 3
      · rw [if_pos c14] at H
        have c14b0 : (a0_0 == 3) = true := beq_iff_eq.mpr c14
        have c14b1 : (a0_0 != 3) = false := bne_eq_false_iff_eq.mpr c14
        clear c14
        obtain rfl := Option.some.inj H
        go_enter Try.func49, Try.ntmps49
        go_wp2_with (first | ((with_reducible refine gate_dst (N := 1) rfl ?_); refine box_event ?hg (N := 1) ?hd (cs := #[.int .i64 a0_0, .int .i64 a0_1, .int .u32 a0_2, .slice A0_3 l0_3.length c0_3]) (t := 66) ?hr ?_; (case hd => rfl); (case hg => rfl); (case hr => first | (go_simp; done) | (go_simp; rfl)); intro gb629 hg w15 hbox hb; have n0_ := Aside0.mk (below_step (by repeat (first | (with_reducible first | exact HB.out | apply below_alloc | apply pw_below_drewN | apply below_drew1) | exact HB.out)) hb); have n1_ := Aside0.mk (hbox); have n2_ := Aside0.mk ((by rw [hg]; exact (below_size (by repeat (first | (with_reducible first | exact HB.out | apply below_alloc | apply pw_below_drewN | apply below_drew1) | exact HB.out))) : w.heap.size ≤ gb629)); have n3_ := Aside0.mk ((by rw [hg]; exact (below_size (by repeat (first | (with_reducible first | exact HB.out | apply below_alloc | apply pw_below_drewN | apply below_drew1) | exact HB.out))) : w.heap.size ≤ gb629)); clear HB; have HB := n0_; have BK629 := n1_; have GW629 := n2_; have GE629 := n3_; clear n0_ n1_ n2_ n3_; clear hb hbox hg; have hcz16_0 : w15.cell? ⟨gb629, 0, none⟩ = some (.int .i64 a0_0) := (blk_cell BK629.out 0).trans rfl; have hcz16_1 : w15.cell? ⟨gb629, 1, none⟩ = some (.int .i64 a0_1) := (blk_cell BK629.out 1).trans rfl; have hcz16_2 : w15.cell? ⟨gb629, 2, none⟩ = some (.int .u32 a0_2) := (blk_cell BK629.out 2).trans rfl; have hcz16_3 : w15.cell? ⟨gb629, 3, none⟩ = some (.slice A0_3 l0_3.length c0_3) := (blk_cell BK629.out 3).trans rfl; have hfz16_0 := blk_frozen BK629.out 0; have hfz16_1 := blk_frozen BK629.out 1; have hfz16_2 := blk_frozen BK629.out 2; have hfz16_3 := blk_frozen BK629.out 3))
        go_ret
        exact ⟨by first | rfl | (simp [errW_none, errW_some] <;> rfl) | (simp [*, errW_none, errW_some] <;> rfl), by repeat (first | (with_reducible first | exact HB.out | apply below_alloc | apply pw_below_drewN | apply below_drew1 | refine below_set ?_ GE629.out) | exact HB.out)⟩
      · rw [if_neg c14] at H
        have c14b0 : (a0_0 == 3) = false := beq_eq_false_iff_ne.mpr c14
        have c14b1 : (a0_0 != 3) = true := bne_iff_ne.mpr c14
        by_cases c17 : a0_0 = 11
        · rw [if_pos c17] at H
          have c17b0 : (a0_0 == 11) = true := beq_iff_eq.mpr c17
          have c17b1 : (a0_0 != 11) = false := bne_eq_false_iff_eq.mpr c17
          clear c17
          obtain rfl := Option.some.inj H
          go_enter Try.func49, Try.ntmps49
          go_wp2_with (first | ((with_reducible refine gate_dst (N := 1) rfl ?_); refine box_event ?hg (N := 1) ?hd (cs := #[.int .i64 a0_0, .int .i64 a0_1, .int .u32 a0_2, .slice A0_3 l0_3.length c0_3]) (t := 66) ?hr ?_; (case hd => rfl); (case hg => rfl); (case hr => first | (go_simp; done) | (go_simp; rfl)); intro gb629 hg w18 hbox hb; have n0_ := Aside0.mk (below_step (by repeat (first | (with_reducible first | exact HB.out | apply below_alloc | apply pw_below_drewN | apply below_drew1) | exact HB.out)) hb); have n1_ := Aside0.mk (hbox); have n2_ := Aside0.mk ((by rw [hg]; exact (below_size (by repeat (first | (with_reducible first | exact HB.out | apply below_alloc | apply pw_below_drewN | apply below_drew1) | exact HB.out))) : w.heap.size ≤ gb629)); have n3_ := Aside0.mk ((by rw [hg]; exact (below_size (by repeat (first | (with_reducible first | exact HB.out | apply below_alloc | apply pw_below_drewN | apply below_drew1) | exact HB.out))) : w.heap.size ≤ gb629)); clear HB; have HB := n0_; have BK629 := n1_; have GW629 := n2_; have GE629 := n3_; clear n0_ n1_ n2_ n3_; clear hb hbox hg; have hcz19_0 : w18.cell? ⟨gb629, 0, none⟩ = some (.int .i64 a0_0) := (blk_cell BK629.out 0).trans rfl; have hcz19_1 : w18.cell? ⟨gb629, 1, none⟩ = some (.int .i64 a0_1) := (blk_cell BK629.out 1).trans rfl; have hcz19_2 : w18.cell? ⟨gb629, 2, none⟩ = some (.int .u32 a0_2) := (blk_cell BK629.out 2).trans rfl; have hcz19_3 : w18.cell? ⟨gb629, 3, none⟩ = some (.slice A0_3 l0_3.length c0_3) := (blk_cell BK629.out 3).trans rfl; have hfz19_0 := blk_frozen BK629.out 0; have hfz19_1 := blk_frozen BK629.out 1; have hfz19_2 := blk_frozen BK629.out 2; have hfz19_3 := blk_frozen BK629.out 3))
          go_ret
          exact ⟨by first | rfl | (simp [errW_none, errW_some] <;> rfl) | (simp [*, errW_none, errW_some] <;> rfl), by repeat (first | (with_reducible first | exact HB.out | apply below_alloc | apply pw_below_drewN | apply below_drew1 | refine below_set ?_ GE629.out) | exact HB.out)⟩
        · rw [if_neg c17] at H
          have c17b0 : (a0_0 == 11) = false := beq_eq_false_iff_ne.mpr c17
          have c17b1 : (a0_0 != 11) = true := bne_iff_ne.mpr c17
          by_cases c20 : a0_0 = 12
          · rw [if_pos c20] at H
            have c20b0 : (a0_0 == 12) = true := beq_iff_eq.mpr c20
            have c20b1 : (a0_0 != 12) = false := bne_eq_false_iff_eq.mpr c20
            clear c20
            obtain rfl := Option.some.inj H
            go_enter Try.func49, Try.ntmps49
            go_wp2_with (first | ((with_reducible refine gate_dst (N := 1) rfl ?_); refine box_event ?hg (N := 1) ?hd (cs := #[.int .i64 a0_0, .int .i64 a0_1, .int .u32 a0_2, .slice A0_3 l0_3.length c0_3]) (t := 66) ?hr ?_; (case hd => rfl); (case hg => rfl); (case hr => first | (go_simp; done) | (go_simp; rfl)); intro gb629 hg w21 hbox hb; have n0_ := Aside0.mk (below_step (by repeat (first | (with_reducible first | exact HB.out | apply below_alloc | apply pw_below_drewN | apply below_drew1) | exact HB.out)) hb); have n1_ := Aside0.mk (hbox); have n2_ := Aside0.mk ((by rw [hg]; exact (below_size (by repeat (first | (with_reducible first | exact HB.out | apply below_alloc | apply pw_below_drewN | apply below_drew1) | exact HB.out))) : w.heap.size ≤ gb629)); have n3_ := Aside0.mk ((by rw [hg]; exact (below_size (by repeat (first | (with_reducible first | exact HB.out | apply below_alloc | apply pw_below_drewN | apply below_drew1) | exact HB.out))) : w.heap.size ≤ gb629)); clear HB; have HB := n0_; have BK629 := n1_; have GW629 := n2_; have GE629 := n3_; clear n0_ n1_ n2_ n3_; clear hb hbox hg; have hcz22_0 : w21.cell? ⟨gb629, 0, none⟩ = some (.int .i64 a0_0) := (blk_cell BK629.out 0).trans rfl; have hcz22_1 : w21.cell? ⟨gb629, 1, none⟩ = some (.int .i64 a0_1) := (blk_cell BK629.out 1).trans rfl; have hcz22_2 : w21.cell? ⟨gb629, 2, none⟩ = some (.int .u32 a0_2) := (blk_cell BK629.out 2).trans rfl; have hcz22_3 : w21.cell? ⟨gb629, 3, none⟩ = some (.slice A0_3 l0_3.length c0_3) := (blk_cell BK629.out 3).trans rfl; have hfz22_0 := blk_frozen BK629.out 0; have hfz22_1 := blk_frozen BK629.out 1; have hfz22_2 := blk_frozen BK629.out 2; have hfz22_3 := blk_frozen BK629.out 3))
            go_ret
            exact ⟨by first | rfl | (simp [errW_none, errW_some] <;> rfl) | (simp [*, errW_none, errW_some] <;> rfl), by repeat (first | (with_reducible first | exact HB.out | apply below_alloc | apply pw_below_drewN | apply below_drew1 | refine below_set ?_ GE629.out) | exact HB.out)⟩
          · rw [if_neg c20] at H
            have c20b0 : (a0_0 == 12) = false := beq_eq_false_iff_ne.mpr c20
            have c20b1 : (a0_0 != 12) = true := bne_iff_ne.mpr c20
            obtain rfl := Option.some.inj H
            go_enter Try.func49, Try.ntmps49
            go_wp2_with (first | ((with_reducible refine gate_dst (N := 1) rfl ?_); refine box_event ?hg (N := 1) ?hd (cs := #[.int .i64 a0_0, .int .i64 a0_1, .int .u32 a0_2, .slice A0_3 l0_3.length c0_3]) (t := 66) ?hr ?_; (case hd => rfl); (case hg => rfl); (case hr => first | (go_simp; done) | (go_simp; rfl)); intro gb629 hg w23 hbox hb; have n0_ := Aside0.mk (below_step (by repeat (first | (with_reducible first | exact HB.out | apply below_alloc | apply pw_below_drewN | apply below_drew1) | exact HB.out)) hb); have n1_ := Aside0.mk (hbox); have n2_ := Aside0.mk ((by rw [hg]; exact (below_size (by repeat (first | (with_reducible first | exact HB.out | apply below_alloc | apply pw_below_drewN | apply below_drew1) | exact HB.out))) : w.heap.size ≤ gb629)); have n3_ := Aside0.mk ((by rw [hg]; exact (below_size (by repeat (first | (with_reducible first | exact HB.out | apply below_alloc | apply pw_below_drewN | apply below_drew1) | exact HB.out))) : w.heap.size ≤ gb629)); clear HB; have HB := n0_; have BK629 := n1_; have GW629 := n2_; have GE629 := n3_; clear n0_ n1_ n2_ n3_; clear hb hbox hg; have hcz24_0 : w23.cell? ⟨gb629, 0, none⟩ = some (.int .i64 a0_0) := (blk_cell BK629.out 0).trans rfl; have hcz24_1 : w23.cell? ⟨gb629, 1, none⟩ = some (.int .i64 a0_1) := (blk_cell BK629.out 1).trans rfl; have hcz24_2 : w23.cell? ⟨gb629, 2, none⟩ = some (.int .u32 a0_2) := (blk_cell BK629.out 2).trans rfl; have hcz24_3 : w23.cell? ⟨gb629, 3, none⟩ = some (.slice A0_3 l0_3.length c0_3) := (blk_cell BK629.out 3).trans rfl; have hfz24_0 := blk_frozen BK629.out 0; have hfz24_1 := blk_frozen BK629.out 1; have hfz24_2 := blk_frozen BK629.out 2; have hfz24_3 := blk_frozen BK629.out 3))
            go_ret
            exact ⟨by first | rfl | (simp [errW_none, errW_some] <;> rfl) | (simp [*, errW_none, errW_some] <;> rfl), by repeat (first | (with_reducible first | exact HB.out | apply below_alloc | apply pw_below_drewN | apply below_drew1 | refine below_set ?_ GE629.out) | exact HB.out)⟩

/-! ### icmp_Number: function 50 -/
def icmp_Number.f (a0_0 : Int) (a0_1 : Int) (a0_2 : Int) (l0_3 : List Int) : Option (Int) := some (wrap64 (a0_2 / 65536))
set_option maxHeartbeats 8000000 in
set_option maxRecDepth 100000 in
theorem icmp_Number.calls (a0_0 : Int) (a0_1 : Int) (a0_2 : Int) (A0_3 : Option Addr) (c0_3 : Nat) (l0_3 : List Int) (r : Int) (w : World) (hr0_3 : Kd.C (Kd.int .u8) w A0_3 l0_3.length l0_3) (hc0_3 : l0_3.length ≤ c0_3) (h : icmp_Number.f a0_0 a0_1 a0_2 l0_3 = some r) :
    Calls Try.prog 50 #[.agg #[.int .i64 a0_0, .int .i64 a0_1, .int .u32 a0_2, .slice A0_3 l0_3.length c0_3]] w fun e w' => e = .returned (.int .i64 r) ∧ Below w.heap.size w w' := by
  have hu66 := Try.underlying66
  have HR0_3 := Aside0.mk hr0_3
  have HC0_3 := Aside0.mk hc0_3
  clear hr0_3 hc0_3
  have HB := Aside0.mk (Below.refl w.heap.size w)
  have H : (some (wrap64 (a0_2 / 65536))) = some r := h
  clear h
  obtain rfl := Option.some.inj H
  go_enter Try.func50, Try.ntmps50
  go_wp2_with (first | ((with_reducible refine gate_dst (N := 1) rfl ?_); refine box_event ?hg (N := 1) ?hd (cs := #[.int .i64 a0_0, .int .i64 a0_1, .int .u32 a0_2, .slice A0_3 l0_3.length c0_3]) (t := 66) ?hr ?_; (case hd => rfl); (case hg => rfl); (case hr => first | (go_simp; done) | (go_simp; rfl)); intro gb630 hg w2 hbox hb; have n0_ := Aside0.mk (below_step (by repeat (first | (with_reducible first | exact HB.out | apply below_alloc | apply pw_below_drewN | apply below_drew1) | exact HB.out)) hb); have n1_ := Aside0.mk (hbox); have n2_ := Aside0.mk ((by rw [hg]; exact (below_size (by repeat (first | (with_reducible first | exact HB.out | apply below_alloc | apply pw_below_drewN | apply below_drew1) | exact HB.out))) : w.heap.size ≤ gb630)); have n3_ := Aside0.mk ((by rw [hg]; exact (below_size (by repeat (first | (with_reducible first | exact HB.out | apply below_alloc | apply pw_below_drewN | apply below_drew1) | exact HB.out))) : w.heap.size ≤ gb630)); clear HB; have HB := n0_; have BK630 := n1_; have GW630 := n2_; have GE630 := n3_; clear n0_ n1_ n2_ n3_; clear hb hbox hg; have hcz3_0 : w2.cell? ⟨gb630, 0, none⟩ = some (.int .i64 a0_0) := (blk_cell BK630.out 0).trans rfl; have hcz3_1 : w2.cell? ⟨gb630, 1, none⟩ = some (.int .i64 a0_1) := (blk_cell BK630.out 1).trans rfl; have hcz3_2 : w2.cell? ⟨gb630, 2, none⟩ = some (.int .u32 a0_2) := (blk_cell BK630.out 2).trans rfl; have hcz3_3 : w2.cell? ⟨gb630, 3, none⟩ = some (.slice A0_3 l0_3.length c0_3) := (blk_cell BK630.out 3).trans rfl; have hfz3_0 := blk_frozen BK630.out 0; have hfz3_1 := blk_frozen BK630.out 1; have hfz3_2 := blk_frozen BK630.out 2; have hfz3_3 := blk_frozen BK630.out 3))
  go_ret
  exact ⟨by first | rfl | (simp [errW_none, errW_some] <;> rfl) | (simp [*, errW_none, errW_some] <;> rfl), by repeat (first | (with_reducible first | exact HB.out | apply below_alloc | apply pw_below_drewN | apply below_drew1 | refine below_set ?_ GE630.out) | exact HB.out)⟩

/-! ### icmp_Parse: function 52 -/
def icmp_Parse.f (l0 : List Int) : Option (Int × Int × Int × List Int × Int) := if (l0.length : Int) < 8 then (some (0, 0, 0, ([] : List Int), 2)) else ((octet_Sum.f (([l0] : List (List Int)))).bind fun t649 => (if t649 = 65535 then ((octet_Get.f l0 4 4).bind fun bt650 => (if 0 < (l0.length : Int) then (if 1 < (l0.length : Int) then (if 8 ≤ (l0.length : Int) then (if ([] : List Int).length + (l0.drop 8).length < 140737488355328 then (some (wrap64 (rd l0 0), wrap64 (rd l0 1), (bt650.1) % 4294967296, (([] : List Int) ++ (l0.drop 8)), 0)) else (none)) else (none)) else (none)) else (none))) else (some (0, 0, 0, ([] : List Int), 5))))
def icmp_Parse.T6 : Bool × List (List Nat × List Nat) := (true, [([], []), ([0], [0]), ([1], [1]), ([2], [2]), ([], []), ([4], [4]), ([5], [5]), ([6], [6]), ([], []), ([8], [8]), ([], []), ([10], [10]), ([11], [11]), ([3, 7, 9, 12], [3, 7, 9, 12]), ([13, 12, 0, 1, 2, 3, 4, 5, 6, 7, 8, 9, 10, 11, 12, 13], [13]), ([14, 0, 1, 2, 3, 4, 5, 6, 7, 8, 9, 10, 11, 12, 13, 14], [])])
def icmp_Parse.B6 : List Nat := [0, 1, 3, 7, 0, 16, 48, 112, 0, 256, 0, 1024, 3072, 8191, 16383, 32767]
theorem icmp_Parse.tab6 : rtab .any (opsOf Try.f52 6) = icmp_Parse.T6 := by kernel_rfl
theorem icmp_Parse.bits6 : waitsOk icmp_Parse.T6.2 icmp_Parse.B6 = true := by kernel_rfl
set_option maxHeartbeats 8000000 in
set_option maxRecDepth 100000 in
theorem icmp_Parse.calls (A0 : Option Addr) (c0 : Nat) (l0 : List Int) (r1 : Int) (r2 : Int) (r3 : Int) (r4 : List Int) (r5 : Int) (w : World) (hr0 : Kd.C (Kd.int .u8) w A0 l0.length l0) (hc0 : l0.length ≤ c0) (h : icmp_Parse.f l0 = some (r1, r2, r3, r4, r5)) :
    Calls Try.prog 52 #[.slice A0 l0.length c0] w fun e w' => ∃ v3_ : Value, e = .returned (.tuple #[.agg #[.int .i64 r1, .int .i64 r2, .int .u32 r3, v3_], .int .i64 r5]) ∧ Kd.R (Kd.int .u8) 5 w' w.heap.size (fun _ => True) v3_ r4 ∧ Below w.heap.size w w' := by
  have hu66 := Try.underlying66
  have HR0 := Aside0.mk hr0
  have HC0 := Aside0.mk hc0
  clear hr0 hc0
  have HB := Aside0.mk (Below.refl w.heap.size w)
  have H : (if (l0.length : Int) < 8 then (some (0, 0, 0, ([] : List Int), 2)) else ((octet_Sum.f (([l0] : List (List Int)))).bind fun t649 => (if t649 = 65535 then ((octet_Get.f l0 4 4).bind fun bt650 => (if 0 < (l0.length : Int) then (if 1 < (l0.length : Int) then (if 8 ≤ (l0.length : Int) then (if ([] : List Int).length + (l0.drop 8).length < 140737488355328 then (some (wrap64 (rd l0 0), wrap64 (rd l0 1), (bt650.1) % 4294967296, (([] : List Int) ++ (l0.drop 8)), 0)) else (none)) else (none)) else (none)) else (none))) else (some (0, 0, 0, ([] : List Int), 5))))) = some (r1, r2, r3, r4, r5) := h
  clear h
  by_cases c2 : (l0.length : Int) < 8
  · rw [if_pos c2] at H
    have c2b0 : decide ((l0.length : Int) < 8) = true := decide_eq_true c2
    have c2b1 : decide (l0.length < 8) = true := decide_eq_true (by omega)
    clear c2
    simp only [Option.some.injEq, Prod.mk.injEq] at H
    obtain ⟨rfl, rfl, rfl, rfl, rfl⟩ := H
    go_enter Try.func52, Try.ntmps52
    go_wp2_with (first | ((with_reducible refine gate_dst (N := 2) rfl ?_); refine box_event ?hg (N := 2) ?hd (cs := #[.int .i64 0, .int .i64 0, .int .u32 0, .slice none 0 0]) (t := 66) ?hr ?_; (case hd => rfl); (case hg => rfl); (case hr => first | (go_simp; done) | (go_simp; rfl)); intro gb644 hg w3 hbox hb; have n0_ := Aside0.mk (below_step (by repeat (first | (with_reducible first | exact HB.out | apply below_alloc | apply pw_below_drewN | apply below_drew1) | exact HB.out)) hb); have n1_ := Aside0.mk (hbox); have n2_ := Aside0.mk ((by rw [hg]; exact (below_size (by repeat (first | (with_reducible first | exact HB.out | apply below_alloc | apply pw_below_drewN | apply below_drew1) | exact HB.out))) : w.heap.size ≤ gb644)); have n3_ := Aside0.mk ((by rw [hg]; exact (below_size (by repeat (first | (with_reducible first | exact HB.out | apply below_alloc | apply pw_below_drewN | apply below_drew1) | exact HB.out))) : w.heap.size ≤ gb644)); clear HB; have HB := n0_; have BK644 := n1_; have GW644 := n2_; have GE644 := n3_; clear n0_ n1_ n2_ n3_; clear hb hbox hg; have hcz4_0 : w3.cell? ⟨gb644, 0, none⟩ = some (.int .i64 0) := (blk_cell BK644.out 0).trans rfl; have hcz4_1 : w3.cell? ⟨gb644, 1, none⟩ = some (.int .i64 0) := (blk_cell BK644.out 1).trans rfl; have hcz4_2 : w3.cell? ⟨gb644, 2, none⟩ = some (.int .u32 0) := (blk_cell BK644.out 2).trans rfl; have hcz4_3 : w3.cell? ⟨gb644, 3, none⟩ = some (.slice none 0 0) := (blk_cell BK644.out 3).trans rfl; have hfz4_0 := blk_frozen BK644.out 0; have hfz4_1 := blk_frozen BK644.out 1; have hfz4_2 := blk_frozen BK644.out 2; have hfz4_3 := blk_frozen BK644.out 3))
    refine bodyPost_ret (results_ct rfl _ _ gb644 66 #[.int .i64 0, .int .i64 0, .int .u32 0, .slice none 0 0] (0, 0) _ rfl (by (with_reducible repeat (first | refine blk_drewN ?_ _ | refine blk_drew ?_ | refine blk_alloc ?_ _)); refine blk_put (cs := #[.int .i64 0, .int .i64 0, .int .u32 0, .slice none 0 0]) ?_ 3 _ rfl; (with_reducible repeat (first | refine blk_drewN ?_ _ | refine blk_drew ?_ | refine blk_alloc ?_ _)); refine blk_put (cs := #[.int .i64 0, .int .i64 0, .int .u32 0, .slice none 0 0]) ?_ 2 _ rfl; (with_reducible repeat (first | refine blk_drewN ?_ _ | refine blk_drew ?_ | refine blk_alloc ?_ _)); refine blk_put (cs := #[.int .i64 0, .int .i64 0, .int .u32 0, .slice none 0 0]) ?_ 1 _ rfl; (with_reducible repeat (first | refine blk_drewN ?_ _ | refine blk_drew ?_ | refine blk_alloc ?_ _)); refine blk_put (cs := #[.int .i64 0, .int .i64 0, .int .u32 0, .slice none 0 0]) ?_ 0 _ rfl; (with_reducible repeat (first | refine blk_drewN ?_ _ | refine blk_drew ?_ | refine blk_alloc ?_ _)); exact BK644.out) Try.underlying66 rfl (by kernel_rfl)) rfl ?_
    exact ⟨_, by first | rfl | (simp [errW_none, errW_some] <;> rfl) | (simp [*, errW_none, errW_some] <;> rfl), by first | exact Kd.R_nil _ _ _ _ _ | exact Kd.N_nil _ _ _ _ _ | exact Kd.V_nil _ _ _ _ _ | exact Kd.Q_nil _ _ _ _ _ | exact Kd.S_nil _ _ _ _ _, by repeat (first | (with_reducible first | exact HB.out | apply below_alloc | apply pw_below_drewN | apply below_drew1 | refine below_set ?_ GE644.out) | exact HB.out)⟩
  · rw [if_neg c2] at H
    have c2b0 : decide ((l0.length : Int) < 8) = false := decide_eq_false c2
    have c2b1 : decide (l0.length < 8) = false := decide_eq_false (by omega)
    clear c2
    obtain ⟨y645, hy645⟩ : ∃ y_ : List (List Int), y_ = (([l0] : List (List Int))) := ⟨_, rfl⟩
    replace H : ((octet_Sum.f y645).bind fun t649 => (if t649 = 65535 then ((octet_Get.f l0 4 4).bind fun bt650 => (if 0 < (l0.length : Int) then (if 1 < (l0.length : Int) then (if 8 ≤ (l0.length : Int) then (if ([] : List Int).length + (l0.drop 8).length < 140737488355328 then (some (wrap64 (rd l0 0), wrap64 (rd l0 1), (bt650.1) % 4294967296, (([] : List Int) ++ (l0.drop 8)), 0)) else (none)) else (none)) else (none)) else (none))) else (some (0, 0, 0, ([] : List Int), 5)))) = some (r1, r2, r3, r4, r5) := by first | (rw [hy645]; with_reducible exact H) | (have H2_ := (Option.bind_some _ _).symm.trans H; rw [hy645]; with_reducible exact H2_) | (have H2_ := (Option.bind_some _ _).symm.trans H; with_reducible exact H2_) | with_reducible exact H | (rw [hy645]; exact H) | exact H
    have Ny645 := Aside0.mk hy645
    clear hy645
    replace H := Option.bind_eq_some_iff.mp H
    obtain ⟨t649, A50, H⟩ := H
    replace H : (if t649 = 65535 then ((octet_Get.f l0 4 4).bind fun bt650 => (if 0 < (l0.length : Int) then (if 1 < (l0.length : Int) then (if 8 ≤ (l0.length : Int) then (if ([] : List Int).length + (l0.drop 8).length < 140737488355328 then (some (wrap64 (rd l0 0), wrap64 (rd l0 1), (bt650.1) % 4294967296, (([] : List Int) ++ (l0.drop 8)), 0)) else (none)) else (none)) else (none)) else (none))) else (some (0, 0, 0, ([] : List Int), 5))) = some (r1, r2, r3, r4, r5) := H
    have A5 := Aside0.mk A50
    clear A50
    by_cases c6 : t649 = 65535
    · rw [if_pos c6] at H
      have c6b0 : (t649 == 65535) = true := beq_iff_eq.mpr c6
      have c6b1 : (t649 != 65535) = false := bne_eq_false_iff_eq.mpr c6
      clear c6
      replace H := Option.bind_eq_some_iff.mp H
      obtain ⟨⟨t650, t651⟩, A70, H⟩ := H
      replace H : (if 0 < (l0.length : Int) then (if 1 < (l0.length : Int) then (if 8 ≤ (l0.length : Int) then (if ([] : List Int).length + (l0.drop 8).length < 140737488355328 then (some (wrap64 (rd l0 0), wrap64 (rd l0 1), (t650) % 4294967296, (([] : List Int) ++ (l0.drop 8)), 0)) else (none)) else (none)) else (none)) else (none)) = some (r1, r2, r3, r4, r5) := H
      have A7 := Aside0.mk A70
      clear A70
      by_cases c8 : 0 < (l0.length : Int)
      · rw [if_pos c8] at H
        have c8b0 : decide (0 < (l0.length : Int)) = true := decide_eq_true c8
        have c8b1 : decide (0 < l0.length) = true := decide_eq_true (by omega)
        clear c8
        by_cases c9 : 1 < (l0.length : Int)
        · rw [if_pos c9] at H
          have c9b0 : decide (1 < (l0.length : Int)) = true := decide_eq_true c9
          have c9b1 : decide (1 < l0.length) = true := decide_eq_true (by omega)
          clear c9
          by_cases c10 : 8 ≤ (l0.length : Int)
          · rw [if_pos c10] at H
            have c10b0 := eq_true c10
            have c10b1 : decide (8 ≤ (l0.length : Int)) = true := decide_eq_true c10
            clear c10
            by_cases c11 : ([] : List Int).length + (l0.drop 8).length < 140737488355328
            · rw [if_pos c11] at H
              have LMc11 := Aside0.mk c11
              clear c11
              obtain ⟨y655, hy655⟩ : ∃ y_ : List Int, y_ = (([] : List Int) ++ (l0.drop 8)) := ⟨_, rfl⟩
              replace H : (some (wrap64 (rd l0 0), wrap64 (rd l0 1), (t650) % 4294967296, y655, 0)) = some (r1, r2, r3, r4, r5) := by first | (rw [hy655]; with_reducible exact H) | (have H2_ := (Option.bind_some _ _).symm.trans H; rw [hy655]; with_reducible exact H2_) | (have H2_ := (Option.bind_some _ _).symm.trans H; with_reducible exact H2_) | with_reducible exact H | (rw [hy655]; exact H) | exact H
              have Ny655 := Aside0.mk hy655
              clear hy655
              simp only [Option.some.injEq, Prod.mk.injEq] at H
              obtain ⟨rfl, rfl, rfl, rfl, rfl⟩ := H
              go_enter Try.func52, Try.ntmps52
              try go_wp2_with (first | ((with_reducible refine gate_dst (N := 2) rfl ?_); refine box_event ?hg (N := 2) ?hd (cs := #[.int .i64 0, .int .i64 0, .int .u32 0, .slice none 0 0]) (t := 66) ?hr ?_; (case hd => rfl); (case hg => rfl); (case hr => first | (go_simp; done) | (go_simp; rfl)); intro gb644 hg w12 hbox hb; have n0_ := Aside0.mk (below_step (by repeat (first | (with_reducible first | exact HB.out | apply below_alloc | apply pw_below_drewN | apply below_drew1) | exact HB.out)) hb); have n1_ := Aside0.mk (hbox); have n2_ := Aside0.mk ((by rw [hg]; exact (below_size (by repeat (first | (with_reducible first | exact HB.out | apply below_alloc | apply pw_below_drewN | apply below_drew1) | exact HB.out))) : w.heap.size ≤ gb644)); have n3_ := Aside0.mk ((by rw [hg]; exact (below_size (by repeat (first | (with_reducible first | exact HB.out | apply below_alloc | apply pw_below_drewN | apply below_drew1) | exact HB.out))) : w.heap.size ≤ gb644)); clear HB; have HB := n0_; have BK644 := n1_; have GW644 := n2_; have GE644 := n3_; clear n0_ n1_ n2_ n3_; clear hb hbox hg) | ((with_reducible refine gate_dst (N := 11) rfl ?_); refine Kd.N_lit (Kd.slice 5 (Kd.int .u8)) _ 22 ?hg (N' := 11) ?hd (xs := ([l0] : List (List Int))) (inner := [.slice A0 l0.length c0]) (ok := fun _ => True) (okp := fun _ => True) ?hr ?hp (fun _ _ => trivial) trivial (Below.refl _ _) (Nat.le_refl _) (by simp) ?_; (case hd => rfl); (case hg => rfl); (case hr => first | (go_simp; done) | (go_simp; rfl)); (case hp => exact (Reps.one (show Kd.FK (Kd.slice 5 (Kd.int .u8)) _ _ l0 [.slice A0 l0.length c0] from Kd.FK_slice_mk (by exact HC0.out) (Kd.F_mono (Kd.C_F (Kd.heap_int .u8) (by repeat (first | exact (Kd.C_below HR0.out HB.out) | (with_reducible refine Kd.C_alloc ?_ _) | (with_reducible refine Kd.C_drewN ?_ _) | (with_reducible refine Kd.C_drew ?_)))) (fun _ _ => trivial))) (Reps.none _ _))); intro vl648 w13 ho hb hg_ hnew_; clear hg_ hnew_; (first | rw [← Ny645.out] at ho | (simp only [Int.reduceToNat] at ho; rw [← Ny645.out] at ho)); obtain ⟨Al648, cl648, el648⟩ := Kd.N_slice ho; subst el648; have hr := (Kd.N_reads' ho).2.2; have hl := (Kd.N_reads' ho).2.1; clear ho; have n0_ := Aside0.mk (blk_below (g := gb644) (o := .cells #[.int .i64 0, .int .i64 0, .int .u32 0, .slice none 0 0] 66 (0, 0)) (by (with_reducible repeat (first | refine blk_drewN ?_ _ | refine blk_drew ?_ | refine blk_alloc ?_ _)); exact BK644.out) hb); have n1_ := Aside0.mk (below_step (by repeat (first | (with_reducible first | exact HB.out | apply below_alloc | apply pw_below_drewN | apply below_drew1 | refine below_set ?_ GE644.out) | exact HB.out)) hb); have n2_ := Aside0.mk (hr); have n3_ := Aside0.mk (hl); clear BK644; clear HB; have BK644 := n0_; have HB := n1_; have HRl648 := n2_; have HCl648 := n3_; clear n0_ n1_ n2_ n3_; clear hb hr hl) | ((with_reducible refine gate_callee (f := 26) rfl ?_); refine goesL_ (some 12) rfl rfl Try.func26 (by kernel_rfl) rfl #[.slice Al648 y645.length cl648] rfl (by (try simp only [List.map_toArray, List.map_cons, List.map_nil]); first | done | rfl | (simp only [List.length_drop, List.length_take]; rfl)) ?_; (with_reducible refine (octet_Sum.calls _ _ y645 t649 _ ?side1 ?side2 A5.out).mono ?_); (case side1 => repeat (first | exact (by repeat (first | (with_reducible exact HRl648.out) | (with_reducible refine Kd.C_alloc ?_ _) | (with_reducible refine Kd.C_drewN ?_ _) | (with_reducible refine Kd.C_drew ?_) | exact HRl648.out)) | (with_reducible refine Kd.C_alloc ?_ _) | (with_reducible refine Kd.C_drewN ?_ _) | (with_reducible refine Kd.C_drew ?_))); (case side2 => exact HCl648.out); rintro e w14 ⟨rfl, hb⟩; refine ⟨_, rfl, ?_⟩; have n0_ := Aside0.mk (blk_below (g := gb644) (o := .cells #[.int .i64 0, .int .i64 0, .int .u32 0, .slice none 0 0] 66 (0, 0)) (by (with_reducible repeat (first | refine blk_drewN ?_ _ | refine blk_drew ?_ | refine blk_alloc ?_ _)); exact BK644.out) hb); have n1_ := Aside0.mk (Kd.C_below (by repeat (first | (with_reducible exact HRl648.out) | (with_reducible refine Kd.C_alloc ?_ _) | (with_reducible refine Kd.C_drewN ?_ _) | (with_reducible refine Kd.C_drew ?_) | exact HRl648.out)) hb); have n2_ := Aside0.mk (below_step (by repeat (first | (with_reducible first | exact HB.out | apply below_alloc | apply pw_below_drewN | apply below_drew1 | refine below_set ?_ GE644.out) | exact HB.out)) hb); clear BK644; clear HRl648; clear HB; have BK644 := n0_; have HRl648 := n1_; have HB := n2_; clear n0_ n1_ n2_; (try clear hb); (try clear hb2); (try clear hk); (try clear hi)) | ((with_reducible refine gate_callee (f := 23) rfl ?_); refine goesL_ (some 17) rfl rfl Try.func23 (by kernel_rfl) rfl #[.slice A0 l0.length c0, .int .i64 4, .int .i64 4] rfl (by (try simp only [List.map_toArray, List.map_cons, List.map_nil]); first | done | rfl | (simp only [List.length_drop, List.length_take]; rfl)) ?_; (with_reducible refine (octet_Get.calls _ _ l0 4 4 t650 t651 _ ?side1 ?side2 A7.out).mono ?_); (case side1 => repeat (first | exact (Kd.C_below HR0.out HB.out) | (with_reducible refine Kd.C_alloc ?_ _) | (with_reducible refine Kd.C_drewN ?_ _) | (with_reducible refine Kd.C_drew ?_))); (case side2 => exact HC0.out); rintro e w' ⟨rfl, ⟨nd, rfl⟩⟩; refine ⟨_, rfl, ?_⟩; (try (rw [drewN_self w14]; generalize hq_ : World.drewN w14 _ = w14; have n0_ : Aside0 (w14.heap[gb644]? = some (.cells #[.int .i64 0, .int .i64 0, .int .u32 0, .slice none 0 0] 66 (0, 0))) := ⟨by rw [← hq_]; exact (by (with_reducible repeat (first | refine blk_drewN ?_ _ | refine blk_drew ?_ | refine blk_alloc ?_ _)); exact BK644.out)⟩; have n1_ : Aside0 (Below w.heap.size w w14) := ⟨by rw [← hq_]; exact (by repeat (first | (with_reducible first | exact HB.out | apply below_alloc | apply pw_below_drewN | apply below_drew1 | refine below_set ?_ GE644.out) | exact HB.out))⟩; have n2_ : Aside0 (Kd.C (Kd.slice 5 (Kd.int .u8)) w14 Al648 y645.length y645) := ⟨by rw [← hq_]; exact (by repeat (first | (with_reducible exact HRl648.out) | (with_reducible refine Kd.C_alloc ?_ _) | (with_reducible refine Kd.C_drewN ?_ _) | (with_reducible refine Kd.C_drew ?_) | exact HRl648.out))⟩; clear BK644 HB HRl648 hq_; have BK644 := n0_; have HB := n1_; have HRl648 := n2_; clear n0_ n1_ n2_))))
              have n0_ := Aside0.mk (blk_drew BK644.out)
              have n1_ := Aside0.mk (Kd.C_drew HRl648.out)
              have n2_ := Aside0.mk (below_drew1 HB.out)
              clear BK644
              clear HRl648
              clear HB
              have BK644 := n0_
              have HRl648 := n1_
              have HB := n2_
              clear n0_ n1_ n2_
              have p652 : 0 ≤ (0 : Int) := (by omega)
              have q652 : 0 < (l0.length : Int) := of_decide_eq_true (by first | (with_reducible assumption) | assumption)
              obtain ⟨ad652, e652, hx652_0⟩ := Kd.at_int HR0.out 0 p652 q652
              have hw652_0 := hx652_0
              (try rw [show ((0 : Int)).toNat = 0 from rfl] at hw652_0)
              (try rw [show 0 * 1 = 0 from rfl] at hw652_0)
              (try rw [Addr.add_zero'] at hw652_0)
              cases e652
              have qi652 : (0 < l0.length) = True := eq_true (by omega)
              (try rw [show ((0 : Int)).toNat = 0 from rfl] at hx652_0)
              (try rw [Addr.add_zero'] at hx652_0)
              replace hx652_0 := (HB.out.cell (World.block_lt_of_cell? w _ hx652_0)).trans hx652_0
              replace p652 := eq_true p652
              replace q652 := eq_true q652
              have p653 : 0 ≤ (1 : Int) := (by omega)
              have q653 : 1 < (l0.length : Int) := of_decide_eq_true (by first | (with_reducible assumption) | assumption)
              obtain ⟨ad653, e653, hx653_0⟩ := Kd.at_int HR0.out 1 p653 q653
              have hw653_0 := hx653_0
              (try rw [show ((1 : Int)).toNat = 1 from rfl] at hw653_0)
              (try rw [show 1 * 1 = 1 from rfl] at hw653_0)
              (try simp only [Nat.reduceMul, Nat.reduceEqDiff, Go.Addr.add, ↓reduceIte] at hw653_0)
              obtain rfl : ad652 = ad653 := (by injection e653)
              (try simp only [show (1 : Int).toNat = 1 from rfl, Nat.reduceMul, Nat.reduceEqDiff, Go.Addr.add, ↓reduceIte] at hx653_0)
              have qi653 : (1 < l0.length) = True := eq_true (by omega)
              (try rw [show ((1 : Int)).toNat = 1 from rfl] at hx653_0)
              replace hx653_0 := (HB.out.cell (World.block_lt_of_cell? w _ hx653_0)).trans hx653_0
              replace p653 := eq_true p653
              replace q653 := eq_true q653
              obtain ⟨i016, hi016, _, hsz16, _⟩ := info_parts info5
              obtain ⟨A16, hcut16, hA16, hC16⟩ := print_drop_of (P := Try.prog) (Value.int .u8) 0 22 5 .i64 Try.underlying22 hi016 hsz16 (some ad652) c0 l0 8 (by omega) (of_decide_eq_true (by first | (with_reducible assumption) | assumption)) HC0.out
              have HR654 := Aside0.mk (Kd.C_of_reads (h1 := fun _ => rfl) (hA16 _ (Kd.reads_of_C HR0.out)))
              have HC654 := Aside0.mk hC16
              clear hA16 hC16 hi016 hsz16
              refine start_ (n := 16) (S := fun w' => w'.cell? ad652 = some (.int .u8 (rd l0 0)) ∧ w'.cell? ⟨ad652.block, ad652.off + 1, none⟩ = some (.int .u8 (rd l0 1))) (ds := []) #[false, false, false, false, false, false, false, false, false, false, false, false, false, false, false, false] (by kernel_rfl) rfl rfl ⟨((HB.out.cell (World.block_lt_of_cell? w _ hw652_0)).trans hw652_0), ((HB.out.cell (World.block_lt_of_cell? w _ hw653_0)).trans hw653_0)⟩ (fun hHeld => ?_); refine with_tabW icmp_Parse.tab6 icmp_Parse.bits6 (fun HT_ HW_ => ?_)
              generalize w14.drew = w15 at BK644 HRl648 HB HR654 hx652_0 hx653_0 hHeld ⊢
              refine pure_ (i := 0) (N := some 20) (v := ?_) (a' := ?_) #[true, false, false, false, false, false, false, false, false, false, false, false, false, false, false, false] rfl rfl (any_of HT_.out (by kernel_rfl)) (fun _ _ _ h => h) (Or.inl ⟨by rfl, ?_⟩) ?_ ?_
              rotate_left
              · intro w'
                go_simp
                with_reducible rfl
              rotate_left
              · simp only [Act.put, List.setIfInBounds_toArray, List.set_cons_zero, List.set_cons_succ, i64_w, i32_w]
                rfl
              refine pure_ (i := 1) (N := some 21) (v := ?_) (a' := ?_) #[true, true, false, false, false, false, false, false, false, false, false, false, false, false, false, false] rfl rfl (any_of HT_.out (by kernel_rfl)) (fun _ _ _ h => h) (Or.inl ⟨by rfl, ?_⟩) ?_ ?_
              rotate_left
              · intro w'
                go_simp
                with_reducible rfl
              rotate_left
              · simp only [Act.put, List.setIfInBounds_toArray, List.set_cons_zero, List.set_cons_succ, i64_w, i32_w]
                rfl
              refine pure_ (i := 4) (N := some 24) (v := ?_) (a' := ?_) #[true, true, false, false, true, false, false, false, false, false, false, false, false, false, false, false] rfl rfl (any_of HT_.out (by kernel_rfl)) (fun _ _ _ h => h) (Or.inl ⟨by rfl, ?_⟩) ?_ ?_
              rotate_left
              · intro w'
                go_simp
                with_reducible rfl
              rotate_left
              · simp only [Act.put, List.setIfInBounds_toArray, List.set_cons_zero, List.set_cons_succ, i64_w, i32_w]
                rfl
              refine pure_ (i := 5) (N := some 25) (v := ?_) (a' := ?_) #[true, true, false, false, true, true, false, false, false, false, false, false, false, false, false, false] rfl rfl (any_of HT_.out (by kernel_rfl)) (fun _ _ _ h => h) (Or.inl ⟨by rfl, ?_⟩) ?_ ?_
              rotate_left
              · intro w'
                go_simp
                with_reducible rfl
              rotate_left
              · simp only [Act.put, List.setIfInBounds_toArray, List.set_cons_zero, List.set_cons_succ, i64_w, i32_w]
                rfl
              refine pure_ (i := 8) (N := some 28) (v := ?_) (a' := ?_) #[true, true, false, false, true, true, false, false, true, false, false, false, false, false, false, false] rfl rfl (any_of HT_.out (by kernel_rfl)) (fun _ _ _ h => h) (Or.inl ⟨by rfl, ?_⟩) ?_ ?_
              rotate_left
              · intro w'
                go_simp
                with_reducible rfl
              rotate_left
              · simp only [Act.put, List.setIfInBounds_toArray, List.set_cons_zero, List.set_cons_succ, i64_w, i32_w]
                rfl
              refine pure_ (i := 9) (N := some 29) (v := ?_) (a' := ?_) #[true, true, false, false, true, true, false, false, true, true, false, false, false, false, false, false] rfl rfl (any_of HT_.out (by kernel_rfl)) (fun _ _ _ h => h) (Or.inl ⟨by rfl, ?_⟩) ?_ ?_
              rotate_left
              · intro w'
                go_simp
                with_reducible rfl
              rotate_left
              · simp only [Act.put, List.setIfInBounds_toArray, List.set_cons_zero, List.set_cons_succ, i64_w, i32_w]
                rfl
              refine pure_ (i := 10) (N := some 30) (v := ?_) (a' := ?_) #[true, true, false, false, true, true, false, false, true, true, true, false, false, false, false, false] rfl rfl (any_of HT_.out (by kernel_rfl)) (fun _ _ _ h => h) (Or.inl ⟨by rfl, ?_⟩) ?_ ?_
              rotate_left
              · intro w'
                go_simp
                with_reducible rfl
              rotate_left
              · simp only [Act.put, List.setIfInBounds_toArray, List.set_cons_zero, List.set_cons_succ, i64_w, i32_w]
                rfl
              refine pure_ (i := 11) (N := some 31) (v := ?_) (a' := ?_) #[true, true, false, false, true, true, false, false, true, true, true, true, false, false, false, false] rfl rfl (any_of HT_.out (by kernel_rfl)) (fun _ _ _ h => h) (Or.inl ⟨by rfl, ?_⟩) ?_ ?_
              rotate_left
              · intro w'
                go_simp
                with_reducible rfl
              rotate_left
              · simp only [Act.put, List.setIfInBounds_toArray, List.set_cons_zero, List.set_cons_succ, i64_w, i32_w]
                rfl
              refine take_ (i := 2) (N := some 22) (v := ?_) (a' := ?_) #[true, true, true, false, true, true, false, false, true, true, true, true, false, false, false, false] rfl rfl (take_ofW HT_.out HW_.out (by kernel_rfl)) (fun _ _ _ h => h) (Or.inl ⟨by rfl, ?_⟩) hHeld ?_ ?_
              rotate_left
              · rintro w' ⟨s0, s1⟩
                go_simp
                with_reducible rfl
              rotate_left
              · simp only [Act.put, List.setIfInBounds_toArray, List.set_cons_zero, List.set_cons_succ, i64_w, i32_w]
                rfl
              refine pure_ (i := 3) (N := some 23) (v := ?_) (a' := ?_) #[true, true, true, true, true, true, false, false, true, true, true, true, false, false, false, false] rfl rfl (any_of HT_.out (by kernel_rfl)) (fun _ _ _ h => h) (Or.inl ⟨by rfl, ?_⟩) ?_ ?_
              rotate_left
              · intro w'
                go_simp
                with_reducible rfl
              rotate_left
              · simp only [Act.put, List.setIfInBounds_toArray, List.set_cons_zero, List.set_cons_succ, i64_w, i32_w]
                rfl
              refine take_ (i := 6) (N := some 26) (v := ?_) (a' := ?_) #[true, true, true, true, true, true, true, false, true, true, true, true, false, false, false, false] rfl rfl (take_ofW HT_.out HW_.out (by kernel_rfl)) (fun _ _ _ h => h) (Or.inl ⟨by rfl, ?_⟩) hHeld ?_ ?_
              rotate_left
              · rintro w' ⟨s0, s1⟩
                go_simp
                with_reducible rfl
              rotate_left
              · simp only [Act.put, List.setIfInBounds_toArray, List.set_cons_zero, List.set_cons_succ, i64_w, i32_w]
                rfl
              refine pure_ (i := 7) (N := some 27) (v := ?_) (a' := ?_) #[true, true, true, true, true, true, true, true, true, true, true, true, false, false, false, false] rfl rfl (any_of HT_.out (by kernel_rfl)) (fun _ _ _ h => h) (Or.inl ⟨by rfl, ?_⟩) ?_ ?_
              rotate_left
              · intro w'
                go_simp
                with_reducible rfl
              rotate_left
              · simp only [Act.put, List.setIfInBounds_toArray, List.set_cons_zero, List.set_cons_succ, i64_w, i32_w]
                rfl
              refine one_ (i := 12) (N := some 32) #[true, true, true, true, true, true, true, true, true, true, true, true, true, false, false, false] rfl rfl (one_of HT_.out (by kernel_rfl)) (by decide) (fun K hK => ?_)
              refine Kd.R_append_rows_step (Kd.int .u8) (w0 := w) w.heap.size (by rfl) (.const (.slice none 0 0)) (.tmp 31) 22 5 (.int .u8 0) 1 rfl Try.underlying22 info5 rfl (by decide) (by omega) (.slice none 0 0) ([] : List Int) (l0.drop 8) _ _ _ (fun _ => True) (fun _ => False) rfl rfl ?aO ?aR (fun _ _ h => h) (fun _ h => h.elim) ?aF ?aB ?aS ?aL ?_
              (case aR => first | (rw [← show (l0.drop 8).length = (l0.length - 8) from List.length_drop]; repeat (first | exact (Kd.C_below HR654.out HB.out) | (with_reducible refine Kd.C_alloc ?_ _) | (with_reducible refine Kd.C_drewN ?_ _) | (with_reducible refine Kd.C_drew ?_))) | (repeat (first | exact (Kd.C_below HR654.out HB.out) | (with_reducible refine Kd.C_alloc ?_ _) | (with_reducible refine Kd.C_drewN ?_ _) | (with_reducible refine Kd.C_drew ?_))))
              (case aB => exact (by repeat (first | (with_reducible first | exact HB.out | apply below_alloc | apply pw_below_drewN | apply below_drew1 | refine below_set ?_ GE644.out) | exact HB.out)))
              (case aF => exact (fun _ _ => trivial))
              (case aO => exact ((Kd.R_nil _ _ _ _ (fun _ => True))))
              (case aS => exact (below_size (by repeat (first | (with_reducible first | exact HB.out | apply below_alloc | apply pw_below_drewN | apply below_drew1 | refine below_set ?_ GE644.out) | exact HB.out))))
              (case aL => have := LMc11.out; have hlx_ := (show (l0.drop 8).length = (l0.length - 8) from List.length_drop); omega)
              intro v656 w17 ho hb hg hat
              rw [← Ny655.out] at ho
              have n0_ := Aside0.mk (blk_grown (g := gb644) (o := .cells #[.int .i64 0, .int .i64 0, .int .u32 0, .slice none 0 0] 66 (0, 0)) (by (with_reducible repeat (first | refine blk_drewN ?_ _ | refine blk_drew ?_ | refine blk_alloc ?_ _)); exact BK644.out) hg (by simp [Value.ownBlock]))
              have n1_ := Aside0.mk (hb)
              have n2_ := Aside0.mk (ho)
              clear BK644
              clear HB
              have BK644 := n0_
              have HB := n1_
              have HO657 := n2_
              clear n0_ n1_ n2_
              clear ho hb hg hat
              obtain ⟨Ao18, co18, eo18⟩ := Kd.R_slice HO657.out
              (first | subst eo18 | (injection eo18 with f1_ f2_ f3_; have f4_ := f1_.symm; have f5_ := f3_.symm; clear f1_ f2_ f3_; subst f4_; subst f5_))
              refine hK.out _ _ ⟨((HB.out.cell (World.block_lt_of_cell? w _ hw652_0)).trans hw652_0), ((HB.out.cell (World.block_lt_of_cell? w _ hw653_0)).trans hw653_0)⟩ (fun hHeld => ?_)
              clear hK K
              refine norm_ (a' := ?_) ?_ ?_
              rotate_left
              · show Act.put _ (some 32) _ = _
                simp only [Act.put, List.setIfInBounds_toArray, List.set_cons_zero, List.set_cons_succ, i64_w, i32_w]
                rfl
              refine pure_ (i := 13) (N := some 33) (v := ?_) (a' := ?_) #[true, true, true, true, true, true, true, true, true, true, true, true, true, true, false, false] rfl rfl (any_of HT_.out (by kernel_rfl)) (fun _ _ _ h => h) (Or.inl ⟨by rfl, ?_⟩) ?_ ?_
              rotate_left
              · intro w'
                go_simp
                with_reducible rfl
              rotate_left
              · simp only [Act.put, List.setIfInBounds_toArray, List.set_cons_zero, List.set_cons_succ, i64_w, i32_w]
                rfl
              refine one_ (i := 14) (N := none) #[true, true, true, true, true, true, true, true, true, true, true, true, true, true, true, false] rfl rfl (one_of HT_.out (by kernel_rfl)) (by decide) (fun K hK => ?_)
              have hs19 : w17.cell? ⟨gb644, 0, none⟩ = some (.int .i64 0) := (blk_cell BK644.out 0).trans rfl
              have hfs19 := blk_frozen BK644.out 0
              have hs20 : w17.cell? ⟨gb644, 1, none⟩ = some (.int .i64 0) := (blk_cell BK644.out 1).trans rfl
              have hfs20 := blk_frozen BK644.out 1
              have hs21 : w17.cell? ⟨gb644, 2, none⟩ = some (.int .u32 0) := (blk_cell BK644.out 2).trans rfl
              have hfs21 := blk_frozen BK644.out 2
              have hs22 : w17.cell? ⟨gb644, 3, none⟩ = some (.slice none 0 0) := (blk_cell BK644.out 3).trans rfl
              have hfs22 := blk_frozen BK644.out 3
              refine skip_ (w1 := ?_) (by rfl) rfl ?_ ?_
              rotate_left
              · go_simp
                rfl
              refine hK.out _ _ ⟨((cell_far (p := ⟨gb644, _, none⟩) (by first | exact Nat.ne_of_lt (Nat.lt_of_lt_of_le (by have := World.block_lt_of_cell? _ _ hw652_0; first | rwa [add_block] at this | exact this) GW644.out) | (rw [add_block]; exact Nat.ne_of_lt (Nat.lt_of_lt_of_le (by have := World.block_lt_of_cell? _ _ hw652_0; first | rwa [add_block] at this | exact this) GW644.out)) | (show (Addr.add _ _).block ≠ _; rw [add_block]; exact Nat.ne_of_lt (Nat.lt_of_lt_of_le (by have := World.block_lt_of_cell? _ _ hw652_0; first | rwa [add_block] at this | exact this) GW644.out)) | (dsimp only; exact Nat.ne_of_lt (Nat.lt_of_lt_of_le (by have := World.block_lt_of_cell? _ _ hw652_0; first | rwa [add_block] at this | exact this) GW644.out))) _).trans (((cell_far (p := ⟨gb644, _, none⟩) (by first | exact Nat.ne_of_lt (Nat.lt_of_lt_of_le (by have := World.block_lt_of_cell? _ _ hw652_0; first | rwa [add_block] at this | exact this) GW644.out) | (rw [add_block]; exact Nat.ne_of_lt (Nat.lt_of_lt_of_le (by have := World.block_lt_of_cell? _ _ hw652_0; first | rwa [add_block] at this | exact this) GW644.out)) | (show (Addr.add _ _).block ≠ _; rw [add_block]; exact Nat.ne_of_lt (Nat.lt_of_lt_of_le (by have := World.block_lt_of_cell? _ _ hw652_0; first | rwa [add_block] at this | exact this) GW644.out)) | (dsimp only; exact Nat.ne_of_lt (Nat.lt_of_lt_of_le (by have := World.block_lt_of_cell? _ _ hw652_0; first | rwa [add_block] at this | exact this) GW644.out))) _).trans (((cell_far (p := ⟨gb644, _, none⟩) (by first | exact Nat.ne_of_lt (Nat.lt_of_lt_of_le (by have := World.block_lt_of_cell? _ _ hw652_0; first | rwa [add_block] at this | exact this) GW644.out) | (rw [add_block]; exact Nat.ne_of_lt (Nat.lt_of_lt_of_le (by have := World.block_lt_of_cell? _ _ hw652_0; first | rwa [add_block] at this | exact this) GW644.out)) | (show (Addr.add _ _).block ≠ _; rw [add_block]; exact Nat.ne_of_lt (Nat.lt_of_lt_of_le (by have := World.block_lt_of_cell? _ _ hw652_0; first | rwa [add_block] at this | exact this) GW644.out)) | (dsimp only; exact Nat.ne_of_lt (Nat.lt_of_lt_of_le (by have := World.block_lt_of_cell? _ _ hw652_0; first | rwa [add_block] at this | exact this) GW644.out))) _).trans (((cell_far (p := ⟨gb644, _, none⟩) (by first | exact Nat.ne_of_lt (Nat.lt_of_lt_of_le (by have := World.block_lt_of_cell? _ _ hw652_0; first | rwa [add_block] at this | exact this) GW644.out) | (rw [add_block]; exact Nat.ne_of_lt (Nat.lt_of_lt_of_le (by have := World.block_lt_of_cell? _ _ hw652_0; first | rwa [add_block] at this | exact this) GW644.out)) | (show (Addr.add _ _).block ≠ _; rw [add_block]; exact Nat.ne_of_lt (Nat.lt_of_lt_of_le (by have := World.block_lt_of_cell? _ _ hw652_0; first | rwa [add_block] at this | exact this) GW644.out)) | (dsimp only; exact Nat.ne_of_lt (Nat.lt_of_lt_of_le (by have := World.block_lt_of_cell? _ _ hw652_0; first | rwa [add_block] at this | exact this) GW644.out))) _).trans (hHeld.1)))))))), ((cell_far (p := ⟨gb644, _, none⟩) (by first | exact Nat.ne_of_lt (Nat.lt_of_lt_of_le (by have := World.block_lt_of_cell? _ _ hw653_0; first | rwa [add_block] at this | exact this) GW644.out) | (rw [add_block]; exact Nat.ne_of_lt (Nat.lt_of_lt_of_le (by have := World.block_lt_of_cell? _ _ hw653_0; first | rwa [add_block] at this | exact this) GW644.out)) | (show (Addr.add _ _).block ≠ _; rw [add_block]; exact Nat.ne_of_lt (Nat.lt_of_lt_of_le (by have := World.block_lt_of_cell? _ _ hw653_0; first | rwa [add_block] at this | exact this) GW644.out)) | (dsimp only; exact Nat.ne_of_lt (Nat.lt_of_lt_of_le (by have := World.block_lt_of_cell? _ _ hw653_0; first | rwa [add_block] at this | exact this) GW644.out))) _).trans (((cell_far (p := ⟨gb644, _, none⟩) (by first | exact Nat.ne_of_lt (Nat.lt_of_lt_of_le (by have := World.block_lt_of_cell? _ _ hw653_0; first | rwa [add_block] at this | exact this) GW644.out) | (rw [add_block]; exact Nat.ne_of_lt (Nat.lt_of_lt_of_le (by have := World.block_lt_of_cell? _ _ hw653_0; first | rwa [add_block] at this | exact this) GW644.out)) | (show (Addr.add _ _).block ≠ _; rw [add_block]; exact Nat.ne_of_lt (Nat.lt_of_lt_of_le (by have := World.block_lt_of_cell? _ _ hw653_0; first | rwa [add_block] at this | exact this) GW644.out)) | (dsimp only; exact Nat.ne_of_lt (Nat.lt_of_lt_of_le (by have := World.block_lt_of_cell? _ _ hw653_0; first | rwa [add_block] at this | exact this) GW644.out))) _).trans (((cell_far (p := ⟨gb644, _, none⟩) (by first | exact Nat.ne_of_lt (Nat.lt_of_lt_of_le (by have := World.block_lt_of_cell? _ _ hw653_0; first | rwa [add_block] at this | exact this) GW644.out) | (rw [add_block]; exact Nat.ne_of_lt (Nat.lt_of_lt_of_le (by have := World.block_lt_of_cell? _ _ hw653_0; first | rwa [add_block] at this | exact this) GW644.out)) | (show (Addr.add _ _).block ≠ _; rw [add_block]; exact Nat.ne_of_lt (Nat.lt_of_lt_of_le (by have := World.block_lt_of_cell? _ _ hw653_0; first | rwa [add_block] at this | exact this) GW644.out)) | (dsimp only; exact Nat.ne_of_lt (Nat.lt_of_lt_of_le (by have := World.block_lt_of_cell? _ _ hw653_0; first | rwa [add_block] at this | exact this) GW644.out))) _).trans (((cell_far (p := ⟨gb644, _, none⟩) (by first | exact Nat.ne_of_lt (Nat.lt_of_lt_of_le (by have := World.block_lt_of_cell? _ _ hw653_0; first | rwa [add_block] at this | exact this) GW644.out) | (rw [add_block]; exact Nat.ne_of_lt (Nat.lt_of_lt_of_le (by have := World.block_lt_of_cell? _ _ hw653_0; first | rwa [add_block] at this | exact this) GW644.out)) | (show (Addr.add _ _).block ≠ _; rw [add_block]; exact Nat.ne_of_lt (Nat.lt_of_lt_of_le (by have := World.block_lt_of_cell? _ _ hw653_0; first | rwa [add_block] at this | exact this) GW644.out)) | (dsimp only; exact Nat.ne_of_lt (Nat.lt_of_lt_of_le (by have := World.block_lt_of_cell? _ _ hw653_0; first | rwa [add_block] at this | exact this) GW644.out))) _).trans (hHeld.2))))))))⟩ (fun hHeld => ?_)
              clear hK K
              refine pure_ (i := 15) (N := some 3) (v := ?_) (a' := ?_) #[true, true, true, true, true, true, true, true, true, true, true, true, true, true, true, true] rfl rfl (any_of HT_.out (by kernel_rfl)) (fun _ _ _ h => h) (Or.inl ⟨by rfl, ?_⟩) ?_ ?_
              rotate_left
              · intro w'
                go_simp
                with_reducible rfl
              rotate_left
              · simp only [Act.put, List.setIfInBounds_toArray, List.set_cons_zero, List.set_cons_succ, i64_w, i32_w]
                rfl
              refine done_ (done_of HT_.out (by kernel_rfl)) ?_
              try go_wp2
              refine bodyPost_ret (results_ct rfl _ _ gb644 66 #[.int .i64 (wrap64 (rd l0 0)), .int .i64 (wrap64 (rd l0 1)), .int .u32 ((t650) % 4294967296), .slice Ao18 y655.length co18] (0, 0) _ rfl (by (with_reducible repeat (first | refine blk_drewN ?_ _ | refine blk_drew ?_ | refine blk_alloc ?_ _)); refine blk_put (cs := #[.int .i64 (wrap64 (rd l0 0)), .int .i64 (wrap64 (rd l0 1)), .int .u32 ((t650) % 4294967296), .slice none 0 0]) ?_ 3 _ rfl; (with_reducible repeat (first | refine blk_drewN ?_ _ | refine blk_drew ?_ | refine blk_alloc ?_ _)); refine blk_put (cs := #[.int .i64 (wrap64 (rd l0 0)), .int .i64 (wrap64 (rd l0 1)), .int .u32 0, .slice none 0 0]) ?_ 2 _ rfl; (with_reducible repeat (first | refine blk_drewN ?_ _ | refine blk_drew ?_ | refine blk_alloc ?_ _)); refine blk_put (cs := #[.int .i64 (wrap64 (rd l0 0)), .int .i64 0, .int .u32 0, .slice none 0 0]) ?_ 1 _ rfl; (with_reducible repeat (first | refine blk_drewN ?_ _ | refine blk_drew ?_ | refine blk_alloc ?_ _)); refine blk_put (cs := #[.int .i64 0, .int .i64 0, .int .u32 0, .slice none 0 0]) ?_ 0 _ rfl; (with_reducible repeat (first | refine blk_drewN ?_ _ | refine blk_drew ?_ | refine blk_alloc ?_ _)); exact BK644.out) Try.underlying66 rfl (by kernel_rfl)) rfl ?_
              exact ⟨_, by first | rfl | (simp [errW_none, errW_some] <;> rfl) | (simp [*, errW_none, errW_some] <;> rfl), by (with_reducible repeat (first | apply Kd.R_alloc | apply Kd.R_drewN | apply Kd.R_drew)); exact Kd.R_mono (Kd.R_far (p := ⟨gb644, 3, none⟩) (Kd.R_far (p := ⟨gb644, 2, none⟩) (Kd.R_far (p := ⟨gb644, 1, none⟩) (Kd.R_far (p := ⟨gb644, 0, none⟩) (Kd.R_types HO657.out BK644.out (by decide)) (fun _ hk => hk.2) (.int .i64 (wrap64 (rd l0 0)))) (fun _ hk => hk.2) (.int .i64 (wrap64 (rd l0 1)))) (fun _ hk => hk.2) (.int .u32 ((t650) % 4294967296))) (fun _ hk => hk.2) (.slice Ao18 y655.length co18)) (fun _ hk => trivial), by repeat (first | (with_reducible first | exact HB.out | apply below_alloc | apply pw_below_drewN | apply below_drew1 | refine below_set ?_ GE644.out) | exact HB.out)⟩
            · rw [if_neg c11] at H
              exact absurd H (by simp)
          · rw [if_neg c10] at H
            exact absurd H (by simp)
        · rw [if_neg c9] at H
          exact absurd H (by simp)
      · rw [if_neg c8] at H
        exact absurd H (by simp)
    · rw [if_neg c6] at H
      have c6b0 : (t649 == 65535) = false := beq_eq_false_iff_ne.mpr c6
      have c6b1 : (t649 != 65535) = true := bne_iff_ne.mpr c6
      simp only [Option.some.injEq, Prod.mk.injEq] at H
      obtain ⟨rfl, rfl, rfl, rfl, rfl⟩ := H
      go_enter Try.func52, Try.ntmps52
      go_wp2_with (first | ((with_reducible refine gate_dst (N := 2) rfl ?_); refine box_event ?hg (N := 2) ?hd (cs := #[.int .i64 0, .int .i64 0, .int .u32 0, .slice none 0 0]) (t := 66) ?hr ?_; (case hd => rfl); (case hg => rfl); (case hr => first | (go_simp; done) | (go_simp; rfl)); intro gb644 hg w23 hbox hb; have n0_ := Aside0.mk (below_step (by repeat (first | (with_reducible first | exact HB.out | apply below_alloc | apply pw_below_drewN | apply below_drew1) | exact HB.out)) hb); have n1_ := Aside0.mk (hbox); have n2_ := Aside0.mk ((by rw [hg]; exact (below_size (by repeat (first | (with_reducible first | exact HB.out | apply below_alloc | apply pw_below_drewN | apply below_drew1) | exact HB.out))) : w.heap.size ≤ gb644)); have n3_ := Aside0.mk ((by rw [hg]; exact (below_size (by repeat (first | (with_reducible first | exact HB.out | apply below_alloc | apply pw_below_drewN | apply below_drew1) | exact HB.out))) : w.heap.size ≤ gb644)); clear HB; have HB := n0_; have BK644 := n1_; have GW644 := n2_; have GE644 := n3_; clear n0_ n1_ n2_ n3_; clear hb hbox hg) | ((with_reducible refine gate_dst (N := 11) rfl ?_); refine Kd.N_lit (Kd.slice 5 (Kd.int .u8)) _ 22 ?hg (N' := 11) ?hd (xs := ([l0] : List (List Int))) (inner := [.slice A0 l0.length c0]) (ok := fun _ => True) (okp := fun _ => True) ?hr ?hp (fun _ _ => trivial) trivial (Below.refl _ _) (Nat.le_refl _) (by simp) ?_; (case hd => rfl); (case hg => rfl); (case hr => first | (go_simp; done) | (go_simp; rfl)); (case hp => exact (Reps.one (show Kd.FK (Kd.slice 5 (Kd.int .u8)) _ _ l0 [.slice A0 l0.length c0] from Kd.FK_slice_mk (by exact HC0.out) (Kd.F_mono (Kd.C_F (Kd.heap_int .u8) (by repeat (first | exact (Kd.C_below HR0.out HB.out) | (with_reducible refine Kd.C_alloc ?_ _) | (with_reducible refine Kd.C_drewN ?_ _) | (with_reducible refine Kd.C_drew ?_)))) (fun _ _ => trivial))) (Reps.none _ _))); intro vl648 w24 ho hb hg_ hnew_; clear hg_ hnew_; (first | rw [← Ny645.out] at ho | (simp only [Int.reduceToNat] at ho; rw [← Ny645.out] at ho)); obtain ⟨Al648, cl648, el648⟩ := Kd.N_slice ho; subst el648; have hr := (Kd.N_reads' ho).2.2; have hl := (Kd.N_reads' ho).2.1; clear ho; have n0_ := Aside0.mk (blk_below (g := gb644) (o := .cells #[.int .i64 0, .int .i64 0, .int .u32 0, .slice none 0 0] 66 (0, 0)) (by (with_reducible repeat (first | refine blk_drewN ?_ _ | refine blk_drew ?_ | refine blk_alloc ?_ _)); exact BK644.out) hb); have n1_ := Aside0.mk (below_step (by repeat (first | (with_reducible first | exact HB.out | apply below_alloc | apply pw_below_drewN | apply below_drew1 | refine below_set ?_ GE644.out) | exact HB.out)) hb); have n2_ := Aside0.mk (hr); have n3_ := Aside0.mk (hl); clear BK644; clear HB; have BK644 := n0_; have HB := n1_; have HRl648 := n2_; have HCl648 := n3_; clear n0_ n1_ n2_ n3_; clear hb hr hl) | ((with_reducible refine gate_callee (f := 26) rfl ?_); refine goesL_ (some 12) rfl rfl Try.func26 (by kernel_rfl) rfl #[.slice Al648 y645.length cl648] rfl (by (try simp only [List.map_toArray, List.map_cons, List.map_nil]); first | done | rfl | (simp only [List.length_drop, List.length_take]; rfl)) ?_; (with_reducible refine (octet_Sum.calls _ _ y645 t649 _ ?side1 ?side2 A5.out).mono ?_); (case side1 => repeat (first | exact (by repeat (first | (with_reducible exact HRl648.out) | (with_reducible refine Kd.C_alloc ?_ _) | (with_reducible refine Kd.C_drewN ?_ _) | (with_reducible refine Kd.C_drew ?_) | exact HRl648.out)) | (with_reducible refine Kd.C_alloc ?_ _) | (with_reducible refine Kd.C_drewN ?_ _) | (with_reducible refine Kd.C_drew ?_))); (case side2 => exact HCl648.out); rintro e w25 ⟨rfl, hb⟩; refine ⟨_, rfl, ?_⟩; have n0_ := Aside0.mk (blk_below (g := gb644) (o := .cells #[.int .i64 0, .int .i64 0, .int .u32 0, .slice none 0 0] 66 (0, 0)) (by (with_reducible repeat (first | refine blk_drewN ?_ _ | refine blk_drew ?_ | refine blk_alloc ?_ _)); exact BK644.out) hb); have n1_ := Aside0.mk (Kd.C_below (by repeat (first | (with_reducible exact HRl648.out) | (with_reducible refine Kd.C_alloc ?_ _) | (with_reducible refine Kd.C_drewN ?_ _) | (with_reducible refine Kd.C_drew ?_) | exact HRl648.out)) hb); have n2_ := Aside0.mk (below_step (by repeat (first | (with_reducible first | exact HB.out | apply below_alloc | apply pw_below_drewN | apply below_drew1 | refine below_set ?_ GE644.out) | exact HB.out)) hb); clear BK644; clear HRl648; clear HB; have BK644 := n0_; have HRl648 := n1_; have HB := n2_; clear n0_ n1_ n2_; (try clear hb); (try clear hb2); (try clear hk); (try clear hi); have hcz26_0 : w25.cell? ⟨gb644, 0, none⟩ = some (.int .i64 0) := (blk_cell BK644.out 0).trans rfl; have hcz26_1 : w25.cell? ⟨gb644, 1, none⟩ = some (.int .i64 0) := (blk_cell BK644.out 1).trans rfl; have hcz26_2 : w25.cell? ⟨gb644, 2, none⟩ = some (.int .u32 0) := (blk_cell BK644.out 2).trans rfl; have hcz26_3 : w25.cell? ⟨gb644, 3, none⟩ = some (.slice none 0 0) := (blk_cell BK644.out 3).trans rfl; have hfz26_0 := blk_frozen BK644.out 0; have hfz26_1 := blk_frozen BK644.out 1; have hfz26_2 := blk_frozen BK644.out 2; have hfz26_3 := blk_frozen BK644.out 3))
      refine bodyPost_ret (results_ct rfl _ _ gb644 66 #[.int .i64 0, .int .i64 0, .int .u32 0, .slice none 0 0] (0, 0) _ rfl (by (with_reducible repeat (first | refine blk_drewN ?_ _ | refine blk_drew ?_ | refine blk_alloc ?_ _)); refine blk_put (cs := #[.int .i64 0, .int .i64 0, .int .u32 0, .slice none 0 0]) ?_ 3 _ rfl; (with_reducible repeat (first | refine blk_drewN ?_ _ | refine blk_drew ?_ | refine blk_alloc ?_ _)); refine blk_put (cs := #[.int .i64 0, .int .i64 0, .int .u32 0, .slice none 0 0]) ?_ 2 _ rfl; (with_reducible repeat (first | refine blk_drewN ?_ _ | refine blk_drew ?_ | refine blk_alloc ?_ _)); refine blk_put (cs := #[.int .i64 0, .int .i64 0, .int .u32 0, .slice none 0 0]) ?_ 1 _ rfl; (with_reducible repeat (first | refine blk_drewN ?_ _ | refine blk_drew ?_ | refine blk_alloc ?_ _)); refine blk_put (cs := #[.int .i64 0, .int .i64 0, .int .u32 0, .slice none 0 0]) ?_ 0 _ rfl; (with_reducible repeat (first | refine blk_drewN ?_ _ | refine blk_drew ?_ | refine blk_alloc ?_ _)); exact BK644.out) Try.underlying66 rfl (by kernel_rfl)) rfl ?_
      exact ⟨_, by first | rfl | (simp [errW_none, errW_some] <;> rfl) | (simp [*, errW_none, errW_some] <;> rfl), by first | exact Kd.R_nil _ _ _ _ _ | exact Kd.N_nil _ _ _ _ _ | exact Kd.V_nil _ _ _ _ _ | exact Kd.Q_nil _ _ _ _ _ | exact Kd.S_nil _ _ _ _ _, by repeat (first | (with_reducible first | exact HB.out | apply below_alloc | apply pw_below_drewN | apply below_drew1 | refine below_set ?_ GE644.out) | exact HB.out)⟩

end Go.Proofs.Ytdppnkgblklmmaa.P
