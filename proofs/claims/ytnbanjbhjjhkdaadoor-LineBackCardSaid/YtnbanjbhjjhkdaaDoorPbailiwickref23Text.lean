-- Laid by a program (wip/tools/myprint.py) out of the translation. Not trusted: Lean checks it.
import Derived.Test.YtnbanjbhjjhkdaaDoorP0
import Derived.Test.YtnbanjbhjjhkdaaDoorPbailiwickref2
namespace Go.Proofs.YtnbanjbhjjhkdaaDoor.P
open Go.RowKit Go.Proofs.YtnbanjbhjjhkdaaDoorW.PrintWords Go.Proofs.YtnbanjbhjjhkdaaDoorW.PrintLast
set_option linter.unusedVariables false
set_option linter.unusedSimpArgs false

/-! ### bailiwickref23_Text: function 9 -/
mutual
def bailiwickref23_Text.j0 : Nat → Int → Bool → Int → Int → Option (ByteArray × Int)
  | 0, _, _, _, _ => none
  | k + 1, x0, x24, x136000, x136001 => if x24 = true then (some ((⟨#[]⟩ : ByteArray), 1)) else ((bailiwickref2_Dec.f k (IntKind.u64.wrap (x136001))).bind fun t136 => (if x0 = 2 then ((bailiwickref2_Show.f k x136000).bind fun t137 => (if 3 + t137.size ≤ 9223372036854775807 then (if ((⟨#[124, 49, 124]⟩ : ByteArray) ++ t137).size + 1 ≤ 9223372036854775807 then (if (((⟨#[124, 49, 124]⟩ : ByteArray) ++ t137) ++ (⟨#[124]⟩ : ByteArray)).size + t136.size ≤ 9223372036854775807 then (if ((((⟨#[124, 49, 124]⟩ : ByteArray) ++ t137) ++ (⟨#[124]⟩ : ByteArray)) ++ t136).size + 1 ≤ 9223372036854775807 then (some (((((⟨#[124, 49, 124]⟩ : ByteArray) ++ t137) ++ (⟨#[124]⟩ : ByteArray)) ++ t136) ++ (⟨#[124]⟩ : ByteArray), 0)) else (none)) else (none)) else (none)) else (none))) else (if x0 = 4 then (if 3 + t136.size ≤ 9223372036854775807 then (if ((⟨#[124, 124, 124]⟩ : ByteArray) ++ t136).size + 1 ≤ 9223372036854775807 then (some (((⟨#[124, 124, 124]⟩ : ByteArray) ++ t136) ++ (⟨#[124]⟩ : ByteArray), 0)) else (none)) else (none)) else (bailiwickref23_Text.l0 k (⟨#[]⟩ : ByteArray) 0 x136000 x136001))))
def bailiwickref23_Text.l0 : Nat → ByteArray → Int → Int → Int → Option (ByteArray × Int)
  | 0, _, _, _, _ => none
  | k + 1, x7, x8, x136000, x136001 => if x8 < 4 then (if 0 ≤ (IntKind.u64.wrap (wrap64 (24 - (wrap64 (8 * x8))))) then ((bailiwickref2_Dec.f k (IntKind.u64.wrap (Go.bits .and .u32 (shr .u32 x136000 (IntKind.u64.wrap (wrap64 (24 - (wrap64 (8 * x8)))))) 255))).bind fun t138 => (if x7.size + t138.size ≤ 9223372036854775807 then (if (x7 ++ t138).size + 1 ≤ 9223372036854775807 then (bailiwickref23_Text.l0 k ((x7 ++ t138) ++ (⟨#[44]⟩ : ByteArray)) (wrap64 (x8 + 1)) x136000 x136001) else (none)) else (none))) else (none)) else ((bailiwickref2_Dec.f k (IntKind.u64.wrap (x136001 / 256))).bind fun t139 => (if x7.size + t139.size ≤ 9223372036854775807 then (if (x7 ++ t139).size + 1 ≤ 9223372036854775807 then ((bailiwickref2_Dec.f k (IntKind.u64.wrap (Go.bits .and .i64 x136001 255))).bind fun t140 => (if ((x7 ++ t139) ++ (⟨#[44]⟩ : ByteArray)).size + t140.size ≤ 9223372036854775807 then (some (((x7 ++ t139) ++ (⟨#[44]⟩ : ByteArray)) ++ t140, 0)) else (none))) else (none)) else (none)))
end
def bailiwickref23_Text.f (k : Nat) (a0 : Int) (a1_0 : Int) (a1_1 : Int) : Option (ByteArray × Int) := if a0 < 1 then (bailiwickref23_Text.j0 k a0 true a1_0 a1_1) else (if a0 > 4 then (bailiwickref23_Text.j0 k a0 true a1_0 a1_1) else (if a1_1 < 1 then (bailiwickref23_Text.j0 k a0 true a1_0 a1_1) else (bailiwickref23_Text.j0 k a0 (decide (a1_1 > 65535)) a1_0 a1_1)))
theorem bailiwickref23_Text.mono_l : ∀ k, (∀ y0 y1 y2 y3, LeO (bailiwickref23_Text.j0 k y0 y1 y2 y3) (bailiwickref23_Text.j0 (k + 1) y0 y1 y2 y3)) ∧ (∀ y0 y1 y2 y3, LeO (bailiwickref23_Text.l0 k y0 y1 y2 y3) (bailiwickref23_Text.l0 (k + 1) y0 y1 y2 y3))
  | 0 => ⟨fun _ _ _ _ r h => by simp [bailiwickref23_Text.j0] at h, fun _ _ _ _ r h => by simp [bailiwickref23_Text.l0] at h⟩
  | k + 1 => by
    obtain ⟨ih0, ih1⟩ := bailiwickref23_Text.mono_l k
    refine ⟨?_, ?_⟩
    · intro y0 y1 y2 y3
      unfold bailiwickref23_Text.j0
      repeat' first
      | (with_reducible exact ih0 _ _ _ _)
      | (with_reducible exact ih1 _ _ _ _)
      | (with_reducible exact bailiwickref2_Dec.mono _ _)
      | (with_reducible exact bailiwickref2_Show.mono _ _)
      | (with_reducible exact LeO.refl _)
      | (with_reducible exact LeO.none _)
      | (with_reducible refine LeO.ite ?_ ?_)
      | (with_reducible refine LeO.bind ?_ (fun _ => ?_))
      | exact ih0 _ _ _ _
      | exact ih1 _ _ _ _
      | exact bailiwickref2_Dec.mono _ _
      | exact bailiwickref2_Show.mono _ _
      | exact LeO.none _
      | refine LeO.ite ?_ ?_
      | refine LeO.bind ?_ (fun _ => ?_)
    · intro y0 y1 y2 y3
      unfold bailiwickref23_Text.l0
      repeat' first
      | (with_reducible exact ih0 _ _ _ _)
      | (with_reducible exact ih1 _ _ _ _)
      | (with_reducible exact bailiwickref2_Dec.mono _ _)
      | (with_reducible exact bailiwickref2_Show.mono _ _)
      | (with_reducible exact LeO.refl _)
      | (with_reducible exact LeO.none _)
      | (with_reducible refine LeO.ite ?_ ?_)
      | (with_reducible refine LeO.bind ?_ (fun _ => ?_))
      | exact ih0 _ _ _ _
      | exact ih1 _ _ _ _
      | exact bailiwickref2_Dec.mono _ _
      | exact bailiwickref2_Show.mono _ _
      | exact LeO.none _
      | refine LeO.ite ?_ ?_
      | refine LeO.bind ?_ (fun _ => ?_)
theorem bailiwickref23_Text.mono : ∀ a0 a1 a2 k, LeO (bailiwickref23_Text.f k a0 a1 a2) (bailiwickref23_Text.f (k + 1) a0 a1 a2) := by
  intro a0 a1 a2 k
  obtain ⟨ih0, ih1⟩ := bailiwickref23_Text.mono_l k
  unfold bailiwickref23_Text.f
  repeat' first
      | (with_reducible exact ih0 _ _ _ _)
      | (with_reducible exact ih1 _ _ _ _)
      | (with_reducible exact bailiwickref2_Dec.mono _ _)
      | (with_reducible exact bailiwickref2_Show.mono _ _)
      | (with_reducible exact LeO.refl _)
      | (with_reducible exact LeO.none _)
      | (with_reducible refine LeO.ite ?_ ?_)
      | (with_reducible refine LeO.bind ?_ (fun _ => ?_))
      | exact ih0 _ _ _ _
      | exact ih1 _ _ _ _
      | exact bailiwickref2_Dec.mono _ _
      | exact bailiwickref2_Show.mono _ _
      | exact LeO.none _
      | refine LeO.ite ?_ ?_
      | refine LeO.bind ?_ (fun _ => ?_)
def bailiwickref23_Text.T14 : Bool × List (List Nat × List Nat) := (true, [([], []), ([], []), ([1], [1]), ([2], [2]), ([3], [3]), ([4], [4]), ([0, 5], [0, 5]), ([6], [6]), ([], []), ([8], [8]), ([9], [9]), ([10], [10]), ([11, 5], [11]), ([7, 12], [7, 12]), ([13, 12, 0, 1, 2, 3, 4, 5, 6, 7, 8, 9, 10, 11, 12, 13], [13]), ([14, 0, 1, 2, 3, 4, 5, 6, 7, 8, 9, 10, 11, 12, 13, 14], [])])
def bailiwickref23_Text.B14 : List Nat := [0, 0, 2, 6, 14, 30, 63, 127, 0, 256, 768, 1792, 3902, 8191, 16383, 32767]
theorem bailiwickref23_Text.tab14 : rtab .any (opsOf Tryd.f9 14) = bailiwickref23_Text.T14 := by kernel_rfl
theorem bailiwickref23_Text.bits14 : waitsOk bailiwickref23_Text.T14.2 bailiwickref23_Text.B14 = true := by kernel_rfl
set_option maxHeartbeats 8000000 in
set_option maxRecDepth 100000 in
theorem bailiwickref23_Text.calls (k : Nat) (a0 : Int) (a1_0 : Int) (a1_1 : Int) (r1 : ByteArray) (r2 : Int) (w : World) (h : bailiwickref23_Text.f k a0 a1_0 a1_1 = some (r1, r2)) :
    Calls Tryd.prog 9 #[.int .i64 a0, .agg #[.int .u32 a1_0, .int .i64 a1_1]] w fun e w' => e = .returned (.tuple #[.string r1, .int .i64 r2]) ∧ Below w.heap.size w w' := by
  have hu24 := Tryd.underlying24
  have HB := Aside0.mk (Below.refl w.heap.size w)
  have H : (if a0 < 1 then (bailiwickref23_Text.j0 k a0 true a1_0 a1_1) else (if a0 > 4 then (bailiwickref23_Text.j0 k a0 true a1_0 a1_1) else (if a1_1 < 1 then (bailiwickref23_Text.j0 k a0 true a1_0 a1_1) else (bailiwickref23_Text.j0 k a0 (decide (a1_1 > 65535)) a1_0 a1_1)))) = some (r1, r2) := h
  clear h
  have HC3 := Aside0.mk H
  clear H
  go_enter Tryd.func9, Tryd.ntmps9
  go_upto_region 1 with (first | ((with_reducible refine gate_dst (N := 3) rfl ?_); refine box_event ?hg (N := 3) ?hd (cs := #[.int .u32 a1_0, .int .i64 a1_1]) (t := 24) ?hr ?_; (case hd => rfl); (case hg => rfl); (case hr => first | (go_simp; done) | (go_simp; rfl)); intro gb135 hg w4 hbox hb; have n0_ := Aside0.mk (below_step (by repeat (first | (with_reducible first | exact HB.out | apply below_alloc | apply pw_below_drewN | apply below_drew1) | exact HB.out)) hb); have n1_ := Aside0.mk (hbox); have n2_ := Aside0.mk ((by rw [hg]; exact (below_size (by repeat (first | (with_reducible first | exact HB.out | apply below_alloc | apply pw_below_drewN | apply below_drew1) | exact HB.out))) : w.heap.size ≤ gb135)); have n3_ := Aside0.mk ((by rw [hg]; exact (below_size (by repeat (first | (with_reducible first | exact HB.out | apply below_alloc | apply pw_below_drewN | apply below_drew1) | exact HB.out))) : w.heap.size ≤ gb135)); clear HB; have HB := n0_; have BK135 := n1_; have GW135 := n2_; have GE135 := n3_; clear n0_ n1_ n2_ n3_; clear hb hbox hg))
  (try simp only [Act.put, List.setIfInBounds_toArray, List.set_cons_zero, List.set_cons_succ])
  go_cut [24] (fun v24 wc => ∃ (kq : Nat) (x24_2 : Bool), v24 = .bool x24_2 ∧ Aside0 (bailiwickref23_Text.j0 kq a0 x24_2 a1_0 a1_1 = some (r1, r2)) ∧ Aside0 (kq ≤ k) ∧ Aside0 (wc.heap[gb135]? = some (.cells #[.int .u32 a1_0, .int .i64 a1_1] 24 (0, 0))) ∧ Aside0 (Below w.heap.size w wc))
  case first =>
    have H := HC3.out
    clear HC3
    by_cases c5 : a0 < 1
    · rw [if_pos c5] at H
      have c5b0 : decide (a0 < 1) = true := decide_eq_true c5
      clear c5
      (first | rw [c5b0] | (simp only [i64_w, i32_w]; rw [c5b0]) | skip)
      have H' := Aside0.mk H
      clear H
      go_wp2
      go_meet
      case rel => exact ⟨_, (true), (by first | rfl | (simp; done) | (simp [*]; done)), H', ⟨by first | omega | exact Nat.le_refl _⟩, ⟨by (with_reducible repeat (first | refine blk_drewN ?_ _ | refine blk_drew ?_ | refine blk_alloc ?_ _)); exact BK135.out⟩, ⟨by repeat (first | (with_reducible first | exact HB.out | apply below_alloc | apply pw_below_drewN | apply below_drew1 | refine below_set ?_ GE135.out) | exact HB.out)⟩⟩
    · rw [if_neg c5] at H
      have c5b0 : decide (a0 < 1) = false := decide_eq_false c5
      clear c5
      (first | rw [c5b0] | (simp only [i64_w, i32_w]; rw [c5b0]) | skip)
      by_cases c6 : a0 > 4
      · rw [if_pos c6] at H
        have c6b0 : decide (4 < a0) = true := decide_eq_true c6
        clear c6
        have H' := Aside0.mk H
        clear H
        go_wp2
        go_meet
        case rel => exact ⟨_, (true), (by first | rfl | (simp; done) | (simp [*]; done)), H', ⟨by first | omega | exact Nat.le_refl _⟩, ⟨by (with_reducible repeat (first | refine blk_drewN ?_ _ | refine blk_drew ?_ | refine blk_alloc ?_ _)); exact BK135.out⟩, ⟨by repeat (first | (with_reducible first | exact HB.out | apply below_alloc | apply pw_below_drewN | apply below_drew1 | refine below_set ?_ GE135.out) | exact HB.out)⟩⟩
      · rw [if_neg c6] at H
        have c6b0 : decide (4 < a0) = false := decide_eq_false c6
        clear c6
        by_cases c7 : a1_1 < 1
        · rw [if_pos c7] at H
          have c7b0 : decide (a1_1 < 1) = true := decide_eq_true c7
          clear c7
          have H' := Aside0.mk H
          clear H
          have hcz8_0 : w4.cell? ⟨gb135, 0, none⟩ = some (.int .u32 a1_0) := (blk_cell BK135.out 0).trans rfl
          have hcz8_1 : w4.cell? ⟨gb135, 1, none⟩ = some (.int .i64 a1_1) := (blk_cell BK135.out 1).trans rfl
          have hfz8_0 := blk_frozen BK135.out 0
          have hfz8_1 := blk_frozen BK135.out 1
          go_wp2
          go_meet
          case rel => exact ⟨_, (true), (by first | rfl | (simp; done) | (simp [*]; done)), H', ⟨by first | omega | exact Nat.le_refl _⟩, ⟨by (with_reducible repeat (first | refine blk_drewN ?_ _ | refine blk_drew ?_ | refine blk_alloc ?_ _)); exact BK135.out⟩, ⟨by repeat (first | (with_reducible first | exact HB.out | apply below_alloc | apply pw_below_drewN | apply below_drew1 | refine below_set ?_ GE135.out) | exact HB.out)⟩⟩
        · rw [if_neg c7] at H
          have c7b0 : decide (a1_1 < 1) = false := decide_eq_false c7
          clear c7
          have H' := Aside0.mk H
          clear H
          have hcz9_0 : w4.cell? ⟨gb135, 0, none⟩ = some (.int .u32 a1_0) := (blk_cell BK135.out 0).trans rfl
          have hcz9_1 : w4.cell? ⟨gb135, 1, none⟩ = some (.int .i64 a1_1) := (blk_cell BK135.out 1).trans rfl
          have hfz9_0 := blk_frozen BK135.out 0
          have hfz9_1 := blk_frozen BK135.out 1
          go_wp2
          go_meet
          case rel => exact ⟨_, (decide (a1_1 > 65535)), (by first | rfl | (simp; done) | (simp [*]; done)), H', ⟨by first | omega | exact Nat.le_refl _⟩, ⟨by (with_reducible repeat (first | refine blk_drewN ?_ _ | refine blk_drew ?_ | refine blk_alloc ?_ _)); exact BK135.out⟩, ⟨by repeat (first | (with_reducible first | exact HB.out | apply below_alloc | apply pw_below_drewN | apply below_drew1 | refine below_set ?_ GE135.out) | exact HB.out)⟩⟩
  case rest =>
    clear HC3
    try clear p2
    try clear c5
    try clear c5b0
    try clear c6
    try clear c6b0
    try clear c7
    try clear c7b0
    try clear c9
    try clear hcz8_0
    try clear hcz8_1
    try clear hcz9_0
    try clear hcz9_1
    try clear hfz8_0
    try clear hfz8_1
    try clear hfz9_0
    try clear hfz9_1
    obtain ⟨kq, x24_2, rfl, HA, HJ2, BK135, HB⟩ := hcut
    cases kq with
    | zero => exact absurd HA.out (by simp [bailiwickref23_Text.j0])
    | succ kj2 =>
      have H := HA.out
      clear HA
      simp only [bailiwickref23_Text.j0] at H
      by_cases c10 : x24_2 = true
      · subst c10
        have H1 : (some ((⟨#[]⟩ : ByteArray), 1)) = some (r1, r2) := by rw [if_pos rfl] at H; exact H
        clear H
        have H := H1
        clear H1
        simp only [Option.some.injEq, Prod.mk.injEq] at H
        obtain ⟨rfl, rfl⟩ := H
        go_wp2
        go_ret2
        exact ⟨by first | rfl | (simp [errW_none, errW_some] <;> rfl) | (simp [*, errW_none, errW_some] <;> rfl), by repeat (first | (with_reducible first | exact HB.out | apply below_alloc | apply pw_below_drewN | apply below_drew1 | refine below_set ?_ GE135.out) | exact HB.out)⟩
      · replace c10 := Bool.eq_false_iff.mpr c10
        subst c10
        have H1 : ((bailiwickref2_Dec.f kj2 (IntKind.u64.wrap (a1_1))).bind fun t136 => (if a0 = 2 then ((bailiwickref2_Show.f kj2 a1_0).bind fun t137 => (if 3 + t137.size ≤ 9223372036854775807 then (if ((⟨#[124, 49, 124]⟩ : ByteArray) ++ t137).size + 1 ≤ 9223372036854775807 then (if (((⟨#[124, 49, 124]⟩ : ByteArray) ++ t137) ++ (⟨#[124]⟩ : ByteArray)).size + t136.size ≤ 9223372036854775807 then (if ((((⟨#[124, 49, 124]⟩ : ByteArray) ++ t137) ++ (⟨#[124]⟩ : ByteArray)) ++ t136).size + 1 ≤ 9223372036854775807 then (some (((((⟨#[124, 49, 124]⟩ : ByteArray) ++ t137) ++ (⟨#[124]⟩ : ByteArray)) ++ t136) ++ (⟨#[124]⟩ : ByteArray), 0)) else (none)) else (none)) else (none)) else (none))) else (if a0 = 4 then (if 3 + t136.size ≤ 9223372036854775807 then (if ((⟨#[124, 124, 124]⟩ : ByteArray) ++ t136).size + 1 ≤ 9223372036854775807 then (some (((⟨#[124, 124, 124]⟩ : ByteArray) ++ t136) ++ (⟨#[124]⟩ : ByteArray), 0)) else (none)) else (none)) else (bailiwickref23_Text.l0 kj2 (⟨#[]⟩ : ByteArray) 0 a1_0 a1_1)))) = some (r1, r2) := by rw [if_neg (show ¬ (false = true) by decide)] at H; exact H
        clear H
        have H := H1
        clear H1
        replace H := Option.bind_eq_some_iff.mp H
        obtain ⟨t136, A110, H⟩ := H
        replace H : (if a0 = 2 then ((bailiwickref2_Show.f kj2 a1_0).bind fun t137 => (if 3 + t137.size ≤ 9223372036854775807 then (if ((⟨#[124, 49, 124]⟩ : ByteArray) ++ t137).size + 1 ≤ 9223372036854775807 then (if (((⟨#[124, 49, 124]⟩ : ByteArray) ++ t137) ++ (⟨#[124]⟩ : ByteArray)).size + t136.size ≤ 9223372036854775807 then (if ((((⟨#[124, 49, 124]⟩ : ByteArray) ++ t137) ++ (⟨#[124]⟩ : ByteArray)) ++ t136).size + 1 ≤ 9223372036854775807 then (some (((((⟨#[124, 49, 124]⟩ : ByteArray) ++ t137) ++ (⟨#[124]⟩ : ByteArray)) ++ t136) ++ (⟨#[124]⟩ : ByteArray), 0)) else (none)) else (none)) else (none)) else (none))) else (if a0 = 4 then (if 3 + t136.size ≤ 9223372036854775807 then (if ((⟨#[124, 124, 124]⟩ : ByteArray) ++ t136).size + 1 ≤ 9223372036854775807 then (some (((⟨#[124, 124, 124]⟩ : ByteArray) ++ t136) ++ (⟨#[124]⟩ : ByteArray), 0)) else (none)) else (none)) else (bailiwickref23_Text.l0 kj2 (⟨#[]⟩ : ByteArray) 0 a1_0 a1_1))) = some (r1, r2) := H
        have A11 := Aside0.mk A110
        clear A110
        by_cases c12 : a0 = 2
        · rw [if_pos c12] at H
          have c12b0 : (a0 == 2) = true := beq_iff_eq.mpr c12
          have c12b1 : (a0 != 2) = false := bne_eq_false_iff_eq.mpr c12
          clear c12
          replace H := Option.bind_eq_some_iff.mp H
          obtain ⟨t137, A130, H⟩ := H
          replace H : (if 3 + t137.size ≤ 9223372036854775807 then (if ((⟨#[124, 49, 124]⟩ : ByteArray) ++ t137).size + 1 ≤ 9223372036854775807 then (if (((⟨#[124, 49, 124]⟩ : ByteArray) ++ t137) ++ (⟨#[124]⟩ : ByteArray)).size + t136.size ≤ 9223372036854775807 then (if ((((⟨#[124, 49, 124]⟩ : ByteArray) ++ t137) ++ (⟨#[124]⟩ : ByteArray)) ++ t136).size + 1 ≤ 9223372036854775807 then (some (((((⟨#[124, 49, 124]⟩ : ByteArray) ++ t137) ++ (⟨#[124]⟩ : ByteArray)) ++ t136) ++ (⟨#[124]⟩ : ByteArray), 0)) else (none)) else (none)) else (none)) else (none)) = some (r1, r2) := H
          have A13 := Aside0.mk A130
          clear A130
          by_cases c14 : 3 + t137.size ≤ 9223372036854775807
          · rw [if_pos c14] at H
            have c14b0 := eq_true c14
            have c14b1 : decide (3 + t137.size ≤ 9223372036854775807) = true := decide_eq_true c14
            try have c14b2 : (9223372036854775807 < 3 + t137.size) = False := eq_false (Nat.not_lt.2 c14)
            by_cases c15 : ((⟨#[124, 49, 124]⟩ : ByteArray) ++ t137).size + 1 ≤ 9223372036854775807
            · rw [if_pos c15] at H
              have c15b0 := eq_true c15
              have c15b1 : decide (((⟨#[124, 49, 124]⟩ : ByteArray) ++ t137).size + 1 ≤ 9223372036854775807) = true := decide_eq_true c15
              try have c15b2 : (9223372036854775807 < ((⟨#[124, 49, 124]⟩ : ByteArray) ++ t137).size + 1) = False := eq_false (Nat.not_lt.2 c15)
              try (have c15b3 := c15b2; simp only [ByteArray.size_append, show (⟨#[124, 49, 124]⟩ : ByteArray).size = 3 from rfl] at c15b3)
              by_cases c16 : (((⟨#[124, 49, 124]⟩ : ByteArray) ++ t137) ++ (⟨#[124]⟩ : ByteArray)).size + t136.size ≤ 9223372036854775807
              · rw [if_pos c16] at H
                have c16b0 := eq_true c16
                have c16b1 : decide ((((⟨#[124, 49, 124]⟩ : ByteArray) ++ t137) ++ (⟨#[124]⟩ : ByteArray)).size + t136.size ≤ 9223372036854775807) = true := decide_eq_true c16
                try have c16b2 : (9223372036854775807 < (((⟨#[124, 49, 124]⟩ : ByteArray) ++ t137) ++ (⟨#[124]⟩ : ByteArray)).size + t136.size) = False := eq_false (Nat.not_lt.2 c16)
                try (have c16b3 := c16b2; simp only [ByteArray.size_append, show (⟨#[124]⟩ : ByteArray).size = 1 from rfl, show (⟨#[124, 49, 124]⟩ : ByteArray).size = 3 from rfl] at c16b3)
                by_cases c17 : ((((⟨#[124, 49, 124]⟩ : ByteArray) ++ t137) ++ (⟨#[124]⟩ : ByteArray)) ++ t136).size + 1 ≤ 9223372036854775807
                · rw [if_pos c17] at H
                  have c17b0 := eq_true c17
                  have c17b1 : decide (((((⟨#[124, 49, 124]⟩ : ByteArray) ++ t137) ++ (⟨#[124]⟩ : ByteArray)) ++ t136).size + 1 ≤ 9223372036854775807) = true := decide_eq_true c17
                  try have c17b2 : (9223372036854775807 < ((((⟨#[124, 49, 124]⟩ : ByteArray) ++ t137) ++ (⟨#[124]⟩ : ByteArray)) ++ t136).size + 1) = False := eq_false (Nat.not_lt.2 c17)
                  try (have c17b3 := c17b2; simp only [ByteArray.size_append, show (⟨#[124]⟩ : ByteArray).size = 1 from rfl, show (⟨#[124, 49, 124]⟩ : ByteArray).size = 3 from rfl] at c17b3)
                  simp only [Option.some.injEq, Prod.mk.injEq] at H
                  obtain ⟨rfl, rfl⟩ := H
                  have hcz18_0 : wc.cell? ⟨gb135, 0, none⟩ = some (.int .u32 a1_0) := (blk_cell BK135.out 0).trans rfl
                  have hcz18_1 : wc.cell? ⟨gb135, 1, none⟩ = some (.int .i64 a1_1) := (blk_cell BK135.out 1).trans rfl
                  have hfz18_0 := blk_frozen BK135.out 0
                  have hfz18_1 := blk_frozen BK135.out 1
                  go_wp2_with (first | ((with_reducible refine gate_callee (f := 18) rfl ?_); refine goesL_ (some 28) rfl rfl Tryd.func18 (by kernel_rfl) rfl #[.int .u64 (IntKind.u64.wrap (a1_1))] rfl (by (try simp only [List.map_toArray, List.map_cons, List.map_nil]); first | done | rfl | (simp only [List.length_drop, List.length_take]; rfl)) ?_; (with_reducible refine (bailiwickref2_Dec.calls kj2 (IntKind.u64.wrap (a1_1)) t136 _ A11.out).mono ?_); rintro e w19 ⟨rfl, hb⟩; refine ⟨_, rfl, ?_⟩; have n0_ := Aside0.mk (blk_below (g := gb135) (o := .cells #[.int .u32 a1_0, .int .i64 a1_1] 24 (0, 0)) (by (with_reducible repeat (first | refine blk_drewN ?_ _ | refine blk_drew ?_ | refine blk_alloc ?_ _)); exact BK135.out) hb); have n1_ := Aside0.mk (below_step (by repeat (first | (with_reducible first | exact HB.out | apply below_alloc | apply pw_below_drewN | apply below_drew1 | refine below_set ?_ GE135.out) | exact HB.out)) hb); clear BK135; clear HB; have BK135 := n0_; have HB := n1_; clear n0_ n1_; (try clear hb); (try clear hb2); (try clear hk); (try clear hi); have hcz20_0 : w19.cell? ⟨gb135, 0, none⟩ = some (.int .u32 a1_0) := (blk_cell BK135.out 0).trans rfl; have hcz20_1 : w19.cell? ⟨gb135, 1, none⟩ = some (.int .i64 a1_1) := (blk_cell BK135.out 1).trans rfl; have hfz20_0 := blk_frozen BK135.out 0; have hfz20_1 := blk_frozen BK135.out 1) | ((with_reducible refine gate_callee (f := 19) rfl ?_); refine goesL_ (some 34) rfl rfl Tryd.func19 (by kernel_rfl) rfl #[.int .u32 a1_0] rfl (by (try simp only [List.map_toArray, List.map_cons, List.map_nil]); first | done | rfl | (simp only [List.length_drop, List.length_take]; rfl)) ?_; (with_reducible refine (bailiwickref2_Show.calls kj2 a1_0 t137 _ A13.out).mono ?_); rintro e w21 ⟨rfl, hb⟩; refine ⟨_, rfl, ?_⟩; have n0_ := Aside0.mk (blk_below (g := gb135) (o := .cells #[.int .u32 a1_0, .int .i64 a1_1] 24 (0, 0)) (by (with_reducible repeat (first | refine blk_drewN ?_ _ | refine blk_drew ?_ | refine blk_alloc ?_ _)); exact BK135.out) hb); have n1_ := Aside0.mk (below_step (by repeat (first | (with_reducible first | exact HB.out | apply below_alloc | apply pw_below_drewN | apply below_drew1 | refine below_set ?_ GE135.out) | exact HB.out)) hb); clear BK135; clear HB; have BK135 := n0_; have HB := n1_; clear n0_ n1_; (try clear hb); (try clear hb2); (try clear hk); (try clear hi)))
                  go_ret2
                  exact ⟨by first | rfl | (simp [errW_none, errW_some] <;> rfl) | (simp [*, errW_none, errW_some] <;> rfl), by repeat (first | (with_reducible first | exact HB.out | apply below_alloc | apply pw_below_drewN | apply below_drew1 | refine below_set ?_ GE135.out) | exact HB.out)⟩
                · rw [if_neg c17] at H
                  exact absurd H (by simp)
              · rw [if_neg c16] at H
                exact absurd H (by simp)
            · rw [if_neg c15] at H
              exact absurd H (by simp)
          · rw [if_neg c14] at H
            exact absurd H (by simp)
        · rw [if_neg c12] at H
          have c12b0 : (a0 == 2) = false := beq_eq_false_iff_ne.mpr c12
          have c12b1 : (a0 != 2) = true := bne_iff_ne.mpr c12
          by_cases c22 : a0 = 4
          · rw [if_pos c22] at H
            have c22b0 : (a0 == 4) = true := beq_iff_eq.mpr c22
            have c22b1 : (a0 != 4) = false := bne_eq_false_iff_eq.mpr c22
            clear c22
            by_cases c23 : 3 + t136.size ≤ 9223372036854775807
            · rw [if_pos c23] at H
              have c23b0 := eq_true c23
              have c23b1 : decide (3 + t136.size ≤ 9223372036854775807) = true := decide_eq_true c23
              try have c23b2 : (9223372036854775807 < 3 + t136.size) = False := eq_false (Nat.not_lt.2 c23)
              by_cases c24 : ((⟨#[124, 124, 124]⟩ : ByteArray) ++ t136).size + 1 ≤ 9223372036854775807
              · rw [if_pos c24] at H
                have c24b0 := eq_true c24
                have c24b1 : decide (((⟨#[124, 124, 124]⟩ : ByteArray) ++ t136).size + 1 ≤ 9223372036854775807) = true := decide_eq_true c24
                try have c24b2 : (9223372036854775807 < ((⟨#[124, 124, 124]⟩ : ByteArray) ++ t136).size + 1) = False := eq_false (Nat.not_lt.2 c24)
                try (have c24b3 := c24b2; simp only [ByteArray.size_append, show (⟨#[124, 124, 124]⟩ : ByteArray).size = 3 from rfl] at c24b3)
                simp only [Option.some.injEq, Prod.mk.injEq] at H
                obtain ⟨rfl, rfl⟩ := H
                have hcz25_0 : wc.cell? ⟨gb135, 0, none⟩ = some (.int .u32 a1_0) := (blk_cell BK135.out 0).trans rfl
                have hcz25_1 : wc.cell? ⟨gb135, 1, none⟩ = some (.int .i64 a1_1) := (blk_cell BK135.out 1).trans rfl
                have hfz25_0 := blk_frozen BK135.out 0
                have hfz25_1 := blk_frozen BK135.out 1
                go_wp2_with (first | ((with_reducible refine gate_callee (f := 18) rfl ?_); refine goesL_ (some 28) rfl rfl Tryd.func18 (by kernel_rfl) rfl #[.int .u64 (IntKind.u64.wrap (a1_1))] rfl (by (try simp only [List.map_toArray, List.map_cons, List.map_nil]); first | done | rfl | (simp only [List.length_drop, List.length_take]; rfl)) ?_; (with_reducible refine (bailiwickref2_Dec.calls kj2 (IntKind.u64.wrap (a1_1)) t136 _ A11.out).mono ?_); rintro e w26 ⟨rfl, hb⟩; refine ⟨_, rfl, ?_⟩; have n0_ := Aside0.mk (blk_below (g := gb135) (o := .cells #[.int .u32 a1_0, .int .i64 a1_1] 24 (0, 0)) (by (with_reducible repeat (first | refine blk_drewN ?_ _ | refine blk_drew ?_ | refine blk_alloc ?_ _)); exact BK135.out) hb); have n1_ := Aside0.mk (below_step (by repeat (first | (with_reducible first | exact HB.out | apply below_alloc | apply pw_below_drewN | apply below_drew1 | refine below_set ?_ GE135.out) | exact HB.out)) hb); clear BK135; clear HB; have BK135 := n0_; have HB := n1_; clear n0_ n1_; (try clear hb); (try clear hb2); (try clear hk); (try clear hi)))
                go_ret2
                exact ⟨by first | rfl | (simp [errW_none, errW_some] <;> rfl) | (simp [*, errW_none, errW_some] <;> rfl), by repeat (first | (with_reducible first | exact HB.out | apply below_alloc | apply pw_below_drewN | apply below_drew1 | refine below_set ?_ GE135.out) | exact HB.out)⟩
              · rw [if_neg c24] at H
                exact absurd H (by simp)
            · rw [if_neg c23] at H
              exact absurd H (by simp)
          · rw [if_neg c22] at H
            have c22b0 : (a0 == 4) = false := beq_eq_false_iff_ne.mpr c22
            have c22b1 : (a0 != 4) = true := bne_iff_ne.mpr c22
            have H' := Aside0.mk H
            clear H
            have hcz27_0 : wc.cell? ⟨gb135, 0, none⟩ = some (.int .u32 a1_0) := (blk_cell BK135.out 0).trans rfl
            have hcz27_1 : wc.cell? ⟨gb135, 1, none⟩ = some (.int .i64 a1_1) := (blk_cell BK135.out 1).trans rfl
            have hfz27_0 := blk_frozen BK135.out 0
            have hfz27_1 := blk_frozen BK135.out 1
            go_wp2_with (first | ((with_reducible refine gate_callee (f := 18) rfl ?_); refine goesL_ (some 28) rfl rfl Tryd.func18 (by kernel_rfl) rfl #[.int .u64 (IntKind.u64.wrap (a1_1))] rfl (by (try simp only [List.map_toArray, List.map_cons, List.map_nil]); first | done | rfl | (simp only [List.length_drop, List.length_take]; rfl)) ?_; (with_reducible refine (bailiwickref2_Dec.calls kj2 (IntKind.u64.wrap (a1_1)) t136 _ A11.out).mono ?_); rintro e w28 ⟨rfl, hb⟩; refine ⟨_, rfl, ?_⟩; have n0_ := Aside0.mk (blk_below (g := gb135) (o := .cells #[.int .u32 a1_0, .int .i64 a1_1] 24 (0, 0)) (by (with_reducible repeat (first | refine blk_drewN ?_ _ | refine blk_drew ?_ | refine blk_alloc ?_ _)); exact BK135.out) hb); have n1_ := Aside0.mk (below_step (by repeat (first | (with_reducible first | exact HB.out | apply below_alloc | apply pw_below_drewN | apply below_drew1 | refine below_set ?_ GE135.out) | exact HB.out)) hb); clear BK135; clear HB; have BK135 := n0_; have HB := n1_; clear n0_ n1_; (try clear hb); (try clear hb2); (try clear hk); (try clear hi)))
            go_loopg [7, 8] kj2 (fun kq v7 v8 w' => ∃ (x7_2 : ByteArray) (x8_2 : Int), v7 = .string x7_2 ∧ v8 = .int .i64 x8_2 ∧ Aside0 (bailiwickref23_Text.l0 kq x7_2 x8_2 a1_0 a1_1 = some (r1, r2)) ∧ Aside0 (kq ≤ kj2) ∧ Aside0 (w'.heap[gb135]? = some (.cells #[.int .u32 a1_0, .int .i64 a1_1] 24 (0, 0))) ∧ Aside0 (Below w.heap.size w w'))
            case atStart => exact ⟨((⟨#[]⟩ : ByteArray)), (0), (by first | rfl | (simp; done) | (simp [*]; done)), (by first | rfl | (simp; done) | (simp [*]; done)), H', ⟨Nat.le_refl _⟩, ⟨by (with_reducible repeat (first | refine blk_drewN ?_ _ | refine blk_drew ?_ | refine blk_alloc ?_ _)); exact BK135.out⟩, ⟨by repeat (first | (with_reducible first | exact HB.out | apply below_alloc | apply pw_below_drewN | apply below_drew1 | refine below_set ?_ GE135.out) | exact HB.out)⟩⟩
            case round =>
              clear H'
              try clear c1
              try clear c2
              try clear p2
              try clear c5
              try clear c5b0
              try clear c6
              try clear c6b0
              try clear c7
              try clear c7b0
              try clear c9
              try clear c10
              try clear c12
              try clear c12b0
              try clear c12b1
              try clear c14
              try clear c14b0
              try clear c14b1
              try clear c14b2
              try clear c15
              try clear c15b0
              try clear c15b1
              try clear c15b2
              try clear c16
              try clear c16b0
              try clear c16b1
              try clear c16b2
              try clear c17
              try clear c17b0
              try clear c17b1
              try clear c17b2
              try clear c18
              try clear c19
              try clear c22
              try clear c22b0
              try clear c22b1
              try clear c23
              try clear c23b0
              try clear c23b1
              try clear c23b2
              try clear c24
              try clear c24b0
              try clear c24b1
              try clear c24b2
              try clear hcz18_0
              try clear hcz18_1
              try clear hcz20_0
              try clear hcz20_1
              try clear hcz25_0
              try clear hcz25_1
              try clear hcz27_0
              try clear hcz27_1
              try clear hcz8_0
              try clear hcz8_1
              try clear hcz9_0
              try clear hcz9_1
              try clear hfz18_0
              try clear hfz18_1
              try clear hfz20_0
              try clear hfz20_1
              try clear hfz25_0
              try clear hfz25_1
              try clear hfz27_0
              try clear hfz27_1
              try clear hfz8_0
              try clear hfz8_1
              try clear hfz9_0
              try clear hfz9_1
              try clear p2
              obtain ⟨x7_2, x8_2, rfl, rfl, HA, HK2, BK135, HB⟩ := hrel
              cases gk with
              | zero => exact absurd HA.out (by simp [bailiwickref23_Text.l0])
              | succ k2 =>
                have H := HA.out
                clear HA
                simp only [bailiwickref23_Text.l0] at H
                by_cases c29 : x8_2 < 4
                · rw [if_pos c29] at H
                  have c29b0 : decide (x8_2 < 4) = true := decide_eq_true c29
                  clear c29
                  obtain ⟨ji30, hji30⟩ : ∃ j_ : Int, (IntKind.u64.wrap (wrap64 (24 - (wrap64 (8 * x8_2))))) = j_ := ⟨_, rfl⟩
                  replace H : (if 0 ≤ (ji30) then ((bailiwickref2_Dec.f k2 (IntKind.u64.wrap (Go.bits .and .u32 (shr .u32 a1_0 (ji30)) 255))).bind fun t138 => (if x7_2.size + t138.size ≤ 9223372036854775807 then (if (x7_2 ++ t138).size + 1 ≤ 9223372036854775807 then (bailiwickref23_Text.l0 k2 ((x7_2 ++ t138) ++ (⟨#[44]⟩ : ByteArray)) (wrap64 (x8_2 + 1)) a1_0 a1_1) else (none)) else (none))) else (none)) = some (r1, r2) := by first | (rw [hji30] at H; exact H) | (simp only [hji30] at H ⊢; exact H)
                  by_cases c31 : 0 ≤ (ji30)
                  · rw [if_pos c31] at H
                    have c31b0 := eq_true c31
                    have c31b1 : decide (0 ≤ (ji30)) = true := decide_eq_true c31
                    clear c31
                    obtain ⟨ji32, hji32⟩ : ∃ j_ : Int, (shr .u32 a1_0 (ji30)) = j_ := ⟨_, rfl⟩
                    replace H : ((bailiwickref2_Dec.f k2 (IntKind.u64.wrap (Go.bits .and .u32 (ji32) 255))).bind fun t138 => (if x7_2.size + t138.size ≤ 9223372036854775807 then (if (x7_2 ++ t138).size + 1 ≤ 9223372036854775807 then (bailiwickref23_Text.l0 k2 ((x7_2 ++ t138) ++ (⟨#[44]⟩ : ByteArray)) (wrap64 (x8_2 + 1)) a1_0 a1_1) else (none)) else (none))) = some (r1, r2) := by first | (rw [hji32] at H; exact H) | (simp only [hji32] at H ⊢; exact H)
                    have hji32_ : (a1_0 / 2 ^ min (ji30).toNat 32) = ji32 := hji32
                    have hji32z : (ji30) ≤ 32 → (a1_0 / 2 ^ (ji30).toNat) = ji32 := shr_small hji32
                    replace H := Option.bind_eq_some_iff.mp H
                    obtain ⟨t138, A330, H⟩ := H
                    replace H : (if x7_2.size + t138.size ≤ 9223372036854775807 then (if (x7_2 ++ t138).size + 1 ≤ 9223372036854775807 then (bailiwickref23_Text.l0 k2 ((x7_2 ++ t138) ++ (⟨#[44]⟩ : ByteArray)) (wrap64 (x8_2 + 1)) a1_0 a1_1) else (none)) else (none)) = some (r1, r2) := H
                    have A33 := Aside0.mk A330
                    clear A330
                    by_cases c34 : x7_2.size + t138.size ≤ 9223372036854775807
                    · rw [if_pos c34] at H
                      have c34b0 := eq_true c34
                      have c34b1 : decide (x7_2.size + t138.size ≤ 9223372036854775807) = true := decide_eq_true c34
                      try have c34b2 : (9223372036854775807 < x7_2.size + t138.size) = False := eq_false (Nat.not_lt.2 c34)
                      by_cases c35 : (x7_2 ++ t138).size + 1 ≤ 9223372036854775807
                      · rw [if_pos c35] at H
                        have c35b0 := eq_true c35
                        have c35b1 : decide ((x7_2 ++ t138).size + 1 ≤ 9223372036854775807) = true := decide_eq_true c35
                        try have c35b2 : (9223372036854775807 < (x7_2 ++ t138).size + 1) = False := eq_false (Nat.not_lt.2 c35)
                        try (have c35b3 := c35b2; simp only [ByteArray.size_append, ] at c35b3)
                        have H' := Aside0.mk H
                        clear H
                        have hcz36_0 : wr.cell? ⟨gb135, 0, none⟩ = some (.int .u32 a1_0) := (blk_cell BK135.out 0).trans rfl
                        have hcz36_1 : wr.cell? ⟨gb135, 1, none⟩ = some (.int .i64 a1_1) := (blk_cell BK135.out 1).trans rfl
                        have hfz36_0 := blk_frozen BK135.out 0
                        have hfz36_1 := blk_frozen BK135.out 1
                        go_wp2_with (first | ((with_reducible refine gate_callee (f := 18) rfl ?_); refine goesL_ (some 59) rfl rfl Tryd.func18 (by kernel_rfl) rfl #[.int .u64 (IntKind.u64.wrap (Go.bits .and .u32 (ji32) 255))] rfl (by (try simp only [List.map_toArray, List.map_cons, List.map_nil]); first | done | (simp only [hji32]; rfl) | rfl | (simp only [List.length_drop, List.length_take]; rfl)) ?_; (with_reducible refine (bailiwickref2_Dec.calls k2 (IntKind.u64.wrap (Go.bits .and .u32 (ji32) 255)) t138 _ A33.out).mono ?_); rintro e w37 ⟨rfl, hb⟩; refine ⟨_, rfl, ?_⟩; have n0_ := Aside0.mk (blk_below (g := gb135) (o := .cells #[.int .u32 a1_0, .int .i64 a1_1] 24 (0, 0)) (by (with_reducible repeat (first | refine blk_drewN ?_ _ | refine blk_drew ?_ | refine blk_alloc ?_ _)); exact BK135.out) hb); have n1_ := Aside0.mk (below_step (by repeat (first | (with_reducible first | exact HB.out | apply below_alloc | apply pw_below_drewN | apply below_drew1 | refine below_set ?_ GE135.out) | exact HB.out)) hb); clear BK135; clear HB; have BK135 := n0_; have HB := n1_; clear n0_ n1_; (try clear hb); (try clear hb2); (try clear hk); (try clear hi)))
                        go_roundg k2
                        case measure => have := HJ2.out; have := HK2.out; omega
                        case rel => exact ⟨((x7_2 ++ t138) ++ (⟨#[44]⟩ : ByteArray)), (wrap64 (x8_2 + 1)), (by first | rfl | (simp; done) | (simp [*]; done)), (by first | rfl | (simp; done) | (simp [*]; done)), H', ⟨by have := HJ2.out; have := HK2.out; omega⟩, ⟨by (with_reducible repeat (first | refine blk_drewN ?_ _ | refine blk_drew ?_ | refine blk_alloc ?_ _)); exact BK135.out⟩, ⟨by repeat (first | (with_reducible first | exact HB.out | apply below_alloc | apply pw_below_drewN | apply below_drew1 | refine below_set ?_ GE135.out) | exact HB.out)⟩⟩
                      · rw [if_neg c35] at H
                        exact absurd H (by simp)
                    · rw [if_neg c34] at H
                      exact absurd H (by simp)
                  · rw [if_neg c31] at H
                    exact absurd H (by simp)
                · rw [if_neg c29] at H
                  have c29b0 : decide (x8_2 < 4) = false := decide_eq_false c29
                  clear c29
                  replace H := Option.bind_eq_some_iff.mp H
                  obtain ⟨t139, A380, H⟩ := H
                  replace H : (if x7_2.size + t139.size ≤ 9223372036854775807 then (if (x7_2 ++ t139).size + 1 ≤ 9223372036854775807 then ((bailiwickref2_Dec.f k2 (IntKind.u64.wrap (Go.bits .and .i64 a1_1 255))).bind fun t140 => (if ((x7_2 ++ t139) ++ (⟨#[44]⟩ : ByteArray)).size + t140.size ≤ 9223372036854775807 then (some (((x7_2 ++ t139) ++ (⟨#[44]⟩ : ByteArray)) ++ t140, 0)) else (none))) else (none)) else (none)) = some (r1, r2) := H
                  have A38 := Aside0.mk A380
                  clear A380
                  by_cases c39 : x7_2.size + t139.size ≤ 9223372036854775807
                  · rw [if_pos c39] at H
                    have c39b0 := eq_true c39
                    have c39b1 : decide (x7_2.size + t139.size ≤ 9223372036854775807) = true := decide_eq_true c39
                    try have c39b2 : (9223372036854775807 < x7_2.size + t139.size) = False := eq_false (Nat.not_lt.2 c39)
                    by_cases c40 : (x7_2 ++ t139).size + 1 ≤ 9223372036854775807
                    · rw [if_pos c40] at H
                      have c40b0 := eq_true c40
                      have c40b1 : decide ((x7_2 ++ t139).size + 1 ≤ 9223372036854775807) = true := decide_eq_true c40
                      try have c40b2 : (9223372036854775807 < (x7_2 ++ t139).size + 1) = False := eq_false (Nat.not_lt.2 c40)
                      try (have c40b3 := c40b2; simp only [ByteArray.size_append, ] at c40b3)
                      replace H := Option.bind_eq_some_iff.mp H
                      obtain ⟨t140, A410, H⟩ := H
                      replace H : (if ((x7_2 ++ t139) ++ (⟨#[44]⟩ : ByteArray)).size + t140.size ≤ 9223372036854775807 then (some (((x7_2 ++ t139) ++ (⟨#[44]⟩ : ByteArray)) ++ t140, 0)) else (none)) = some (r1, r2) := H
                      have A41 := Aside0.mk A410
                      clear A410
                      by_cases c42 : ((x7_2 ++ t139) ++ (⟨#[44]⟩ : ByteArray)).size + t140.size ≤ 9223372036854775807
                      · rw [if_pos c42] at H
                        have c42b0 := eq_true c42
                        have c42b1 : decide (((x7_2 ++ t139) ++ (⟨#[44]⟩ : ByteArray)).size + t140.size ≤ 9223372036854775807) = true := decide_eq_true c42
                        try have c42b2 : (9223372036854775807 < ((x7_2 ++ t139) ++ (⟨#[44]⟩ : ByteArray)).size + t140.size) = False := eq_false (Nat.not_lt.2 c42)
                        try (have c42b3 := c42b2; simp only [ByteArray.size_append, show (⟨#[44]⟩ : ByteArray).size = 1 from rfl] at c42b3)
                        simp only [Option.some.injEq, Prod.mk.injEq] at H
                        obtain ⟨rfl, rfl⟩ := H
                        try go_wp2
                        have n0_ := Aside0.mk (blk_drew BK135.out)
                        have n1_ := Aside0.mk (below_drew1 HB.out)
                        clear BK135
                        clear HB
                        have BK135 := n0_
                        have HB := n1_
                        clear n0_ n1_
                        refine start_ (n := 16) (S := fun w' => w'.cell? ⟨gb135, 0, none⟩ = some (.int .u32 a1_0) ∧ w'.cell? ⟨gb135, 1, none⟩ = some (.int .i64 a1_1)) (ds := []) #[false, false, false, false, false, false, false, false, false, false, false, false, false, false, false, false] (by kernel_rfl) rfl rfl ⟨(blk_cell BK135.out 0).trans rfl, (blk_cell BK135.out 1).trans rfl⟩ (fun hHeld => ?_); refine with_tabW bailiwickref23_Text.tab14 bailiwickref23_Text.bits14 (fun HT_ HW_ => ?_)
                        generalize wr.drew = w43 at BK135 HB hHeld ⊢
                        refine pure_ (i := 0) (N := some 62) (v := ?_) (a' := ?_) #[true, false, false, false, false, false, false, false, false, false, false, false, false, false, false, false] rfl rfl (any_of HT_.out (by kernel_rfl)) (fun _ _ _ h => h) (Or.inl ⟨by rfl, ?_⟩) ?_ ?_
                        rotate_left
                        · intro w'
                          go_simp
                          with_reducible rfl
                        rotate_left
                        · simp only [Act.put, List.setIfInBounds_toArray, List.set_cons_zero, List.set_cons_succ, i64_w, i32_w]
                          rfl
                        refine pure_ (i := 1) (N := some 63) (v := ?_) (a' := ?_) #[true, true, false, false, false, false, false, false, false, false, false, false, false, false, false, false] rfl rfl (any_of HT_.out (by kernel_rfl)) (fun _ _ _ h => h) (Or.inl ⟨by rfl, ?_⟩) ?_ ?_
                        rotate_left
                        · intro w'
                          go_simp
                          with_reducible rfl
                        rotate_left
                        · simp only [Act.put, List.setIfInBounds_toArray, List.set_cons_zero, List.set_cons_succ, i64_w, i32_w]
                          rfl
                        refine pure_ (i := 8) (N := some 70) (v := ?_) (a' := ?_) #[true, true, false, false, false, false, false, false, true, false, false, false, false, false, false, false] rfl rfl (any_of HT_.out (by kernel_rfl)) (fun _ _ _ h => h) (Or.inl ⟨by rfl, ?_⟩) ?_ ?_
                        rotate_left
                        · intro w'
                          go_simp
                          with_reducible rfl
                        rotate_left
                        · simp only [Act.put, List.setIfInBounds_toArray, List.set_cons_zero, List.set_cons_succ, i64_w, i32_w]
                          rfl
                        refine take_ (i := 2) (N := some 64) (v := ?_) (a' := ?_) #[true, true, true, false, false, false, false, false, true, false, false, false, false, false, false, false] rfl rfl (take_ofW HT_.out HW_.out (by kernel_rfl)) (fun _ _ _ h => h) (Or.inl ⟨by rfl, ?_⟩) hHeld ?_ ?_
                        rotate_left
                        · rintro w' ⟨s0, s1⟩
                          go_simp
                          with_reducible rfl
                        rotate_left
                        · simp only [Act.put, List.setIfInBounds_toArray, List.set_cons_zero, List.set_cons_succ, i64_w, i32_w]
                          rfl
                        refine pure_ (i := 3) (N := some 65) (v := ?_) (a' := ?_) #[true, true, true, true, false, false, false, false, true, false, false, false, false, false, false, false] rfl rfl (any_of HT_.out (by kernel_rfl)) (fun _ _ _ h => h) (Or.inl ⟨by rfl, ?_⟩) ?_ ?_
                        rotate_left
                        · intro w'
                          go_simp
                          with_reducible rfl
                        rotate_left
                        · simp only [Act.put, List.setIfInBounds_toArray, List.set_cons_zero, List.set_cons_succ, i64_w, i32_w]
                          rfl
                        refine pure_ (i := 4) (N := some 66) (v := ?_) (a' := ?_) #[true, true, true, true, true, false, false, false, true, false, false, false, false, false, false, false] rfl rfl (any_of HT_.out (by kernel_rfl)) (fun _ _ _ h => h) (Or.inl ⟨by rfl, ?_⟩) ?_ ?_
                        rotate_left
                        · intro w'
                          go_simp
                          with_reducible rfl
                        rotate_left
                        · simp only [Act.put, List.setIfInBounds_toArray, List.set_cons_zero, List.set_cons_succ, i64_w, i32_w]
                          rfl
                        refine take_ (i := 9) (N := some 71) (v := ?_) (a' := ?_) #[true, true, true, true, true, false, false, false, true, true, false, false, false, false, false, false] rfl rfl (take_ofW HT_.out HW_.out (by kernel_rfl)) (fun _ _ _ h => h) (Or.inl ⟨by rfl, ?_⟩) hHeld ?_ ?_
                        rotate_left
                        · rintro w' ⟨s0, s1⟩
                          go_simp
                          with_reducible rfl
                        rotate_left
                        · simp only [Act.put, List.setIfInBounds_toArray, List.set_cons_zero, List.set_cons_succ, i64_w, i32_w]
                          rfl
                        refine pure_ (i := 10) (N := some 72) (v := ?_) (a' := ?_) #[true, true, true, true, true, false, false, false, true, true, true, false, false, false, false, false] rfl rfl (any_of HT_.out (by kernel_rfl)) (fun _ _ _ h => h) (Or.inl ⟨by rfl, ?_⟩) ?_ ?_
                        rotate_left
                        · intro w'
                          go_simp
                          with_reducible rfl
                        rotate_left
                        · simp only [Act.put, List.setIfInBounds_toArray, List.set_cons_zero, List.set_cons_succ, i64_w, i32_w]
                          rfl
                        refine pure_ (i := 11) (N := some 73) (v := ?_) (a' := ?_) #[true, true, true, true, true, false, false, false, true, true, true, true, false, false, false, false] rfl rfl (any_of HT_.out (by kernel_rfl)) (fun _ _ _ h => h) (Or.inl ⟨by rfl, ?_⟩) ?_ ?_
                        rotate_left
                        · intro w'
                          go_simp
                          with_reducible rfl
                        rotate_left
                        · simp only [Act.put, List.setIfInBounds_toArray, List.set_cons_zero, List.set_cons_succ, i64_w, i32_w]
                          rfl
                        refine one_ (i := 5) (N := some 67) #[true, true, true, true, true, true, false, false, true, true, true, true, false, false, false, false] rfl rfl (one_of HT_.out (by kernel_rfl)) (by decide) (fun K hK => ?_)
                        refine goes_ Tryd.func18 (by kernel_rfl) rfl #[.int .u64 (IntKind.u64.wrap (a1_1 / 256))] (by rfl) rfl rfl (by (try simp only [List.map_toArray, List.map_cons, List.map_nil]); first | done | rfl | (simp only [List.length_drop, List.length_take]; rfl)) ?_
                        with_reducible refine (bailiwickref2_Dec.calls k2 (IntKind.u64.wrap (a1_1 / 256)) t139 _ A38.out).mono ?_
                        rintro e w44 ⟨rfl, hb⟩
                        refine ⟨_, rfl, ?_⟩
                        have n0_ := Aside0.mk (blk_below (g := gb135) (o := .cells #[.int .u32 a1_0, .int .i64 a1_1] 24 (0, 0)) (by (with_reducible repeat (first | refine blk_drewN ?_ _ | refine blk_drew ?_ | refine blk_alloc ?_ _)); exact BK135.out) hb)
                        have n1_ := Aside0.mk (below_step (by repeat (first | (with_reducible first | exact HB.out | apply below_alloc | apply pw_below_drewN | apply below_drew1 | refine below_set ?_ GE135.out) | exact HB.out)) hb)
                        clear BK135
                        clear HB
                        have BK135 := n0_
                        have HB := n1_
                        clear n0_ n1_
                        (try clear hb)
                        (try clear hb2)
                        (try clear hk)
                        (try clear hi)
                        refine hK.out _ _ ⟨(blk_cell BK135.out 0).trans rfl, (blk_cell BK135.out 1).trans rfl⟩ (fun hHeld => ?_)
                        clear hK K
                        refine norm_ (a' := ?_) ?_ ?_
                        rotate_left
                        · show Act.put _ (some 67) _ = _
                          simp only [Act.put, List.setIfInBounds_toArray, List.set_cons_zero, List.set_cons_succ, i64_w, i32_w]
                          rfl
                        refine pure_ (i := 6) (N := some 68) (v := ?_) (a' := ?_) #[true, true, true, true, true, true, true, false, true, true, true, true, false, false, false, false] rfl rfl (any_of HT_.out (by kernel_rfl)) (fun _ _ _ h => h) (Or.inl ⟨by rfl, ?_⟩) ?_ ?_
                        rotate_left
                        · intro w'
                          go_simp
                          with_reducible rfl
                        rotate_left
                        · simp only [Act.put, List.setIfInBounds_toArray, List.set_cons_zero, List.set_cons_succ, i64_w, i32_w]
                          rfl
                        refine pure_ (i := 7) (N := some 69) (v := ?_) (a' := ?_) #[true, true, true, true, true, true, true, true, true, true, true, true, false, false, false, false] rfl rfl (any_of HT_.out (by kernel_rfl)) (fun _ _ _ h => h) (Or.inl ⟨by rfl, ?_⟩) ?_ ?_
                        rotate_left
                        · intro w'
                          go_simp
                          with_reducible rfl
                        rotate_left
                        · simp only [Act.put, List.setIfInBounds_toArray, List.set_cons_zero, List.set_cons_succ, i64_w, i32_w]
                          rfl
                        refine one_ (i := 12) (N := some 74) #[true, true, true, true, true, true, true, true, true, true, true, true, true, false, false, false] rfl rfl (one_of HT_.out (by kernel_rfl)) (by decide) (fun K hK => ?_)
                        refine goes_ Tryd.func18 (by kernel_rfl) rfl #[.int .u64 (IntKind.u64.wrap (Go.bits .and .i64 a1_1 255))] (by rfl) rfl rfl (by (try simp only [List.map_toArray, List.map_cons, List.map_nil]); first | done | rfl | (simp only [List.length_drop, List.length_take]; rfl)) ?_
                        with_reducible refine (bailiwickref2_Dec.calls k2 (IntKind.u64.wrap (Go.bits .and .i64 a1_1 255)) t140 _ A41.out).mono ?_
                        rintro e w45 ⟨rfl, hb⟩
                        refine ⟨_, rfl, ?_⟩
                        have n0_ := Aside0.mk (blk_below (g := gb135) (o := .cells #[.int .u32 a1_0, .int .i64 a1_1] 24 (0, 0)) (by (with_reducible repeat (first | refine blk_drewN ?_ _ | refine blk_drew ?_ | refine blk_alloc ?_ _)); exact BK135.out) hb)
                        have n1_ := Aside0.mk (below_step (by repeat (first | (with_reducible first | exact HB.out | apply below_alloc | apply pw_below_drewN | apply below_drew1 | refine below_set ?_ GE135.out) | exact HB.out)) hb)
                        clear BK135
                        clear HB
                        have BK135 := n0_
                        have HB := n1_
                        clear n0_ n1_
                        (try clear hb)
                        (try clear hb2)
                        (try clear hk)
                        (try clear hi)
                        refine hK.out _ _ ⟨(blk_cell BK135.out 0).trans rfl, (blk_cell BK135.out 1).trans rfl⟩ (fun hHeld => ?_)
                        clear hK K
                        refine norm_ (a' := ?_) ?_ ?_
                        rotate_left
                        · show Act.put _ (some 74) _ = _
                          simp only [Act.put, List.setIfInBounds_toArray, List.set_cons_zero, List.set_cons_succ, i64_w, i32_w]
                          rfl
                        refine pure_ (i := 13) (N := some 75) (v := ?_) (a' := ?_) #[true, true, true, true, true, true, true, true, true, true, true, true, true, true, false, false] rfl rfl (any_of HT_.out (by kernel_rfl)) (fun _ _ _ h => h) (Or.inl ⟨by rfl, ?_⟩) ?_ ?_
                        rotate_left
                        · intro w'
                          go_simp
                          with_reducible rfl
                        rotate_left
                        · simp only [Act.put, List.setIfInBounds_toArray, List.set_cons_zero, List.set_cons_succ, i64_w, i32_w]
                          rfl
                        refine pure_ (i := 14) (N := some 4) (v := ?_) (a' := ?_) #[true, true, true, true, true, true, true, true, true, true, true, true, true, true, true, false] rfl rfl (any_of HT_.out (by kernel_rfl)) (fun _ _ _ h => h) (Or.inl ⟨by rfl, ?_⟩) ?_ ?_
                        rotate_left
                        · intro w'
                          go_simp
                          with_reducible rfl
                        rotate_left
                        · simp only [Act.put, List.setIfInBounds_toArray, List.set_cons_zero, List.set_cons_succ, i64_w, i32_w]
                          rfl
                        refine pure_ (i := 15) (N := some 5) (v := ?_) (a' := ?_) #[true, true, true, true, true, true, true, true, true, true, true, true, true, true, true, true] rfl rfl (any_of HT_.out (by kernel_rfl)) (fun _ _ _ h => h) (Or.inl ⟨by rfl, ?_⟩) ?_ ?_
                        rotate_left
                        · intro w'
                          go_simp
                          with_reducible rfl
                        rotate_left
                        · simp only [Act.put, List.setIfInBounds_toArray, List.set_cons_zero, List.set_cons_succ, i64_w, i32_w]
                          rfl
                        refine done_ (done_of HT_.out (by kernel_rfl)) ?_
                        try go_wp2
                        go_ret2
                        exact ⟨by first | rfl | (simp [errW_none, errW_some] <;> rfl) | (simp [*, errW_none, errW_some] <;> rfl), by repeat (first | (with_reducible first | exact HB.out | apply below_alloc | apply pw_below_drewN | apply below_drew1 | refine below_set ?_ GE135.out) | exact HB.out)⟩
                      · rw [if_neg c42] at H
                        exact absurd H (by simp)
                    · rw [if_neg c40] at H
                      exact absurd H (by simp)
                  · rw [if_neg c39] at H
                    exact absurd H (by simp)

end Go.Proofs.YtnbanjbhjjhkdaaDoor.P
