-- Laid by a program (wip/tools/myprint.py) out of the translation. Not trusted: Lean checks it.
import Derived.Test.YthnhpbplglmmmaaP0
import Derived.Test.YthnhpbplglmmmaaPbailiwickref1
import Derived.Test.YthnhpbplglmmmaaPbailiwickref3
namespace Go.Proofs.Ythnhpbplglmmmaa.P
open Go.RowKit Go.Proofs.YthnhpbplglmmmaaW.PrintWords Go.Proofs.YthnhpbplglmmmaaW.PrintLast Go.Proofs.YthnhpbplglmmmaaW.PrintMore
attribute [local go_sem] max2_int min2_int max_two min_two max_three min_three max_four min_four   -- for this text's walks alone
set_option linter.unusedVariables false
set_option linter.unusedSimpArgs false

/-! ### bailiwickref3_Piece: function 28 -/
def bailiwickref3_Piece.j0 : Nat → Int → Int → List Int → Int → Bool → Option (Int × Int × Int × Int × Int × Int × Int × List Int × List Int × Int)
  | 0, _, _, _, _, _ => none
  | k + 1, x0, x1, x2, x8, x27 => if x27 = true then (some (0, 0, 0, 0, 0, 0, 0, ([] : List Int), ([] : List Int), 4)) else (if x8 > (x2.length : Int) then (some (0, 0, 0, 0, 0, 0, 0, ([] : List Int), ([] : List Int), 2)) else ((bailiwickref3_Pseudo.f k x0 x1 6 (x2.length : Int)).bind fun t389 => ((bailiwickref1_Sum.f k (([t389, x2] : List (List Int)))).bind fun t396 => (if t396 = 65535 then ((bailiwickref3_word.f x2 0).bind fun t397 => ((bailiwickref3_word.f x2 2).bind fun t398 => ((bailiwickref3_long.f x2 4).bind fun t399 => ((bailiwickref3_long.f x2 8).bind fun t400 => (if 13 < (x2.length : Int) then ((bailiwickref3_word.f x2 14).bind fun t402 => ((bailiwickref3_word.f x2 18).bind fun t403 => ((bailiwickref1_Part.f k x2 20 x8).bind fun t404 => ((bailiwickref1_Part.f k x2 x8 (x2.length : Int)).bind fun t407 => (some (t397, t398, t399, t400, wrap64 (rd x2 13), t402, t403, t404, t407, 0)))))) else (none)))))) else (some (0, 0, 0, 0, 0, 0, 0, ([] : List Int), ([] : List Int), 5))))))
def bailiwickref3_Piece.f (k : Nat) (a0 : Int) (a1 : Int) (l2 : List Int) : Option (Int × Int × Int × Int × Int × Int × Int × List Int × List Int × Int) := if (l2.length : Int) < 20 then (some (0, 0, 0, 0, 0, 0, 0, ([] : List Int), ([] : List Int), 2)) else (if 12 < (l2.length : Int) then (if (wrap64 ((wrap64 ((rd l2 12) / 16)) * 4)) < 20 then (bailiwickref3_Piece.j0 k a0 a1 l2 (wrap64 ((wrap64 ((rd l2 12) / 16)) * 4)) true) else (bailiwickref3_Piece.j0 k a0 a1 l2 (wrap64 ((wrap64 ((rd l2 12) / 16)) * 4)) ((Go.bits .and .u8 (rd l2 12) 15) != 0))) else (none))
theorem bailiwickref3_Piece.mono_l : ∀ k, (∀ y0 y1 y2 y3 y4, LeO (bailiwickref3_Piece.j0 k y0 y1 y2 y3 y4) (bailiwickref3_Piece.j0 (k + 1) y0 y1 y2 y3 y4))
  | 0 => fun _ _ _ _ _ r h => by simp [bailiwickref3_Piece.j0] at h
  | k + 1 => by
    have ih0 := bailiwickref3_Piece.mono_l k
    · intro y0 y1 y2 y3 y4
      unfold bailiwickref3_Piece.j0
      repeat' first
      | (with_reducible exact ih0 _ _ _ _ _)
      | (with_reducible exact bailiwickref1_Part.mono _ _ _ _)
      | (with_reducible exact bailiwickref1_Sum.mono _ _)
      | (with_reducible exact bailiwickref3_Pseudo.mono _ _ _ _ _)
      | (with_reducible exact LeO.refl _)
      | (with_reducible exact LeO.none _)
      | (with_reducible refine LeO.ite ?_ ?_)
      | (with_reducible refine LeO.bind ?_ (fun _ => ?_))
      | exact ih0 _ _ _ _ _
      | exact bailiwickref1_Part.mono _ _ _ _
      | exact bailiwickref1_Sum.mono _ _
      | exact bailiwickref3_Pseudo.mono _ _ _ _ _
      | exact LeO.none _
      | refine LeO.ite ?_ ?_
      | refine LeO.bind ?_ (fun _ => ?_)
theorem bailiwickref3_Piece.mono : ∀ a0 a1 a2 k, LeO (bailiwickref3_Piece.f k a0 a1 a2) (bailiwickref3_Piece.f (k + 1) a0 a1 a2) := by
  intro a0 a1 a2 k
  have ih0 := bailiwickref3_Piece.mono_l k
  unfold bailiwickref3_Piece.f
  repeat' first
      | (with_reducible exact ih0 _ _ _ _ _)
      | (with_reducible exact bailiwickref1_Part.mono _ _ _ _)
      | (with_reducible exact bailiwickref1_Sum.mono _ _)
      | (with_reducible exact bailiwickref3_Pseudo.mono _ _ _ _ _)
      | (with_reducible exact LeO.refl _)
      | (with_reducible exact LeO.none _)
      | (with_reducible refine LeO.ite ?_ ?_)
      | (with_reducible refine LeO.bind ?_ (fun _ => ?_))
      | exact ih0 _ _ _ _ _
      | exact bailiwickref1_Part.mono _ _ _ _
      | exact bailiwickref1_Sum.mono _ _
      | exact bailiwickref3_Pseudo.mono _ _ _ _ _
      | exact LeO.none _
      | refine LeO.ite ?_ ?_
      | refine LeO.bind ?_ (fun _ => ?_)
def bailiwickref3_Piece.T10 : Bool × List (List Nat × List Nat) := (true, [([], []), ([0], [0]), ([], []), ([2, 1], [2]), ([], []), ([4, 3], [4]), ([], []), ([6, 5], [6]), ([], []), ([8], [8]), ([9], [9]), ([10], [10]), ([], []), ([12, 7], [12]), ([], []), ([14, 13], [14]), ([], []), ([], []), ([16, 17, 15], [16, 17]), ([], []), ([], []), ([], []), ([21], [21]), ([19, 20, 22, 18], [19, 20, 22]), ([1, 3, 5, 7, 11, 13, 15, 18, 23], [1, 3, 5, 7, 11, 13, 15, 18, 23]), ([24, 23, 0, 1, 2, 3, 4, 5, 6, 7, 8, 9, 10, 11, 12, 13, 14, 15, 16, 17, 18, 19, 20, 21, 22, 23, 24], [24]), ([25, 0, 1, 2, 3, 4, 5, 6, 7, 8, 9, 10, 11, 12, 13, 14, 15, 16, 17, 18, 19, 20, 21, 22, 23, 24, 25], [])])
def bailiwickref3_Piece.B10 : List Nat := [0, 1, 0, 7, 0, 31, 0, 127, 0, 256, 768, 1792, 0, 4351, 0, 28927, 0, 0, 258303, 0, 0, 0, 2097152, 8384767, 16777215, 33554431, 67108863]
theorem bailiwickref3_Piece.tab10 : rtab .any (opsOf Try.f28 10) = bailiwickref3_Piece.T10 := by kernel_rfl
theorem bailiwickref3_Piece.bits10 : waitsOk bailiwickref3_Piece.T10.2 bailiwickref3_Piece.B10 = true := by kernel_rfl
set_option maxHeartbeats 8000000 in
set_option maxRecDepth 100000 in
theorem bailiwickref3_Piece.calls (k : Nat) (a0 : Int) (a1 : Int) (A2 : Option Addr) (c2 : Nat) (l2 : List Int) (r1 : Int) (r2 : Int) (r3 : Int) (r4 : Int) (r5 : Int) (r6 : Int) (r7 : Int) (r8 : List Int) (r9 : List Int) (r10 : Int) (w : World) (hr2 : Kd.C (Kd.int .u8) w A2 l2.length l2) (hc2 : l2.length ≤ c2) (h : bailiwickref3_Piece.f k a0 a1 l2 = some (r1, r2, r3, r4, r5, r6, r7, r8, r9, r10)) :
    Calls Try.prog 28 #[.int .u32 a0, .int .u32 a1, .slice A2 l2.length c2] w fun e w' => ∃ v7_ v8_ : Value, e = .returned (.tuple #[.agg #[.int .i64 r1, .int .i64 r2, .int .u32 r3, .int .u32 r4, .int .i64 r5, .int .i64 r6, .int .i64 r7, v7_, v8_], .int .i64 r10]) ∧ Kd.R (Kd.int .u8) 5 w' w.heap.size (fun k_ => some k_ ≠ (v8_ : Value).ownBlock) v7_ r8 ∧ Kd.R (Kd.int .u8) 5 w' w.heap.size (fun k_ => some k_ ≠ (v7_ : Value).ownBlock) v8_ r9 ∧ Below w.heap.size w w' := by
  have hu46 := Try.underlying46
  have HR2 := Aside0.mk hr2
  have HC2 := Aside0.mk hc2
  clear hr2 hc2
  have HB := Aside0.mk (Below.refl w.heap.size w)
  have H : (if (l2.length : Int) < 20 then (some (0, 0, 0, 0, 0, 0, 0, ([] : List Int), ([] : List Int), 2)) else (if 12 < (l2.length : Int) then (if (wrap64 ((wrap64 ((rd l2 12) / 16)) * 4)) < 20 then (bailiwickref3_Piece.j0 k a0 a1 l2 (wrap64 ((wrap64 ((rd l2 12) / 16)) * 4)) true) else (bailiwickref3_Piece.j0 k a0 a1 l2 (wrap64 ((wrap64 ((rd l2 12) / 16)) * 4)) ((Go.bits .and .u8 (rd l2 12) 15) != 0))) else (none))) = some (r1, r2, r3, r4, r5, r6, r7, r8, r9, r10) := h
  clear h
  by_cases c4 : (l2.length : Int) < 20
  · rw [if_pos c4] at H
    have c4b0 : decide ((l2.length : Int) < 20) = true := decide_eq_true c4
    have c4b1 : decide (l2.length < 20) = true := decide_eq_true (by omega)
    clear c4
    simp only [Option.some.injEq, Prod.mk.injEq] at H
    obtain ⟨rfl, rfl, rfl, rfl, rfl, rfl, rfl, rfl, rfl, rfl⟩ := H
    go_enter Try.func28, Try.ntmps28
    go_wp2_with (first | ((with_reducible refine gate_dst (N := 6) rfl ?_); refine box_event ?hg (N := 6) ?hd (cs := #[.int .i64 0, .int .i64 0, .int .u32 0, .int .u32 0, .int .i64 0, .int .i64 0, .int .i64 0, .slice none 0 0, .slice none 0 0]) (t := 46) ?hr ?_; (case hd => rfl); (case hg => rfl); (case hr => first | (go_simp; done) | (go_simp; rfl)); intro gb386 hg w5 hbox hb; have n0_ := Aside0.mk (below_step (by repeat (first | (with_reducible first | exact HB.out | apply below_alloc | apply pw_below_drewN | apply below_drew1) | exact HB.out)) hb); have n1_ := Aside0.mk (hbox); have n2_ := Aside0.mk ((by rw [hg]; exact (below_size (by repeat (first | (with_reducible first | exact HB.out | apply below_alloc | apply pw_below_drewN | apply below_drew1) | exact HB.out))) : w.heap.size ≤ gb386)); have n3_ := Aside0.mk ((by rw [hg]; exact (below_size (by repeat (first | (with_reducible first | exact HB.out | apply below_alloc | apply pw_below_drewN | apply below_drew1) | exact HB.out))) : w.heap.size ≤ gb386)); clear HB; have HB := n0_; have BK386 := n1_; have GW386 := n2_; have GE386 := n3_; clear n0_ n1_ n2_ n3_; clear hb hbox hg; have hcz6_0 : w5.cell? ⟨gb386, 0, none⟩ = some (.int .i64 0) := (blk_cell BK386.out 0).trans rfl; have hcz6_1 : w5.cell? ⟨gb386, 1, none⟩ = some (.int .i64 0) := (blk_cell BK386.out 1).trans rfl; have hcz6_2 : w5.cell? ⟨gb386, 2, none⟩ = some (.int .u32 0) := (blk_cell BK386.out 2).trans rfl; have hcz6_3 : w5.cell? ⟨gb386, 3, none⟩ = some (.int .u32 0) := (blk_cell BK386.out 3).trans rfl; have hcz6_4 : w5.cell? ⟨gb386, 4, none⟩ = some (.int .i64 0) := (blk_cell BK386.out 4).trans rfl; have hcz6_5 : w5.cell? ⟨gb386, 5, none⟩ = some (.int .i64 0) := (blk_cell BK386.out 5).trans rfl; have hcz6_6 : w5.cell? ⟨gb386, 6, none⟩ = some (.int .i64 0) := (blk_cell BK386.out 6).trans rfl; have hcz6_7 : w5.cell? ⟨gb386, 7, none⟩ = some (.slice none 0 0) := (blk_cell BK386.out 7).trans rfl; have hcz6_8 : w5.cell? ⟨gb386, 8, none⟩ = some (.slice none 0 0) := (blk_cell BK386.out 8).trans rfl; have hfz6_0 := blk_frozen BK386.out 0; have hfz6_1 := blk_frozen BK386.out 1; have hfz6_2 := blk_frozen BK386.out 2; have hfz6_3 := blk_frozen BK386.out 3; have hfz6_4 := blk_frozen BK386.out 4; have hfz6_5 := blk_frozen BK386.out 5; have hfz6_6 := blk_frozen BK386.out 6; have hfz6_7 := blk_frozen BK386.out 7; have hfz6_8 := blk_frozen BK386.out 8))
    refine bodyPost_ret (results_ct rfl _ _ gb386 46 #[.int .i64 0, .int .i64 0, .int .u32 0, .int .u32 0, .int .i64 0, .int .i64 0, .int .i64 0, .slice none 0 0, .slice none 0 0] (0, 0) _ rfl (by (with_reducible repeat (first | refine blk_drewN ?_ _ | refine blk_drew ?_ | refine blk_alloc ?_ _)); refine blk_put (cs := #[.int .i64 0, .int .i64 0, .int .u32 0, .int .u32 0, .int .i64 0, .int .i64 0, .int .i64 0, .slice none 0 0, .slice none 0 0]) ?_ 8 _ rfl; (with_reducible repeat (first | refine blk_drewN ?_ _ | refine blk_drew ?_ | refine blk_alloc ?_ _)); refine blk_put (cs := #[.int .i64 0, .int .i64 0, .int .u32 0, .int .u32 0, .int .i64 0, .int .i64 0, .int .i64 0, .slice none 0 0, .slice none 0 0]) ?_ 7 _ rfl; (with_reducible repeat (first | refine blk_drewN ?_ _ | refine blk_drew ?_ | refine blk_alloc ?_ _)); refine blk_put (cs := #[.int .i64 0, .int .i64 0, .int .u32 0, .int .u32 0, .int .i64 0, .int .i64 0, .int .i64 0, .slice none 0 0, .slice none 0 0]) ?_ 6 _ rfl; (with_reducible repeat (first | refine blk_drewN ?_ _ | refine blk_drew ?_ | refine blk_alloc ?_ _)); refine blk_put (cs := #[.int .i64 0, .int .i64 0, .int .u32 0, .int .u32 0, .int .i64 0, .int .i64 0, .int .i64 0, .slice none 0 0, .slice none 0 0]) ?_ 5 _ rfl; (with_reducible repeat (first | refine blk_drewN ?_ _ | refine blk_drew ?_ | refine blk_alloc ?_ _)); refine blk_put (cs := #[.int .i64 0, .int .i64 0, .int .u32 0, .int .u32 0, .int .i64 0, .int .i64 0, .int .i64 0, .slice none 0 0, .slice none 0 0]) ?_ 4 _ rfl; (with_reducible repeat (first | refine blk_drewN ?_ _ | refine blk_drew ?_ | refine blk_alloc ?_ _)); refine blk_put (cs := #[.int .i64 0, .int .i64 0, .int .u32 0, .int .u32 0, .int .i64 0, .int .i64 0, .int .i64 0, .slice none 0 0, .slice none 0 0]) ?_ 3 _ rfl; (with_reducible repeat (first | refine blk_drewN ?_ _ | refine blk_drew ?_ | refine blk_alloc ?_ _)); refine blk_put (cs := #[.int .i64 0, .int .i64 0, .int .u32 0, .int .u32 0, .int .i64 0, .int .i64 0, .int .i64 0, .slice none 0 0, .slice none 0 0]) ?_ 2 _ rfl; (with_reducible repeat (first | refine blk_drewN ?_ _ | refine blk_drew ?_ | refine blk_alloc ?_ _)); refine blk_put (cs := #[.int .i64 0, .int .i64 0, .int .u32 0, .int .u32 0, .int .i64 0, .int .i64 0, .int .i64 0, .slice none 0 0, .slice none 0 0]) ?_ 1 _ rfl; (with_reducible repeat (first | refine blk_drewN ?_ _ | refine blk_drew ?_ | refine blk_alloc ?_ _)); refine blk_put (cs := #[.int .i64 0, .int .i64 0, .int .u32 0, .int .u32 0, .int .i64 0, .int .i64 0, .int .i64 0, .slice none 0 0, .slice none 0 0]) ?_ 0 _ rfl; (with_reducible repeat (first | refine blk_drewN ?_ _ | refine blk_drew ?_ | refine blk_alloc ?_ _)); exact BK386.out) Try.underlying46 rfl (by kernel_rfl)) rfl ?_
    exact ⟨_, _, by first | rfl | (simp [errW_none, errW_some] <;> rfl) | (simp [*, errW_none, errW_some] <;> rfl), by first | exact Kd.R_nil _ _ _ _ _ | exact Kd.N_nil _ _ _ _ _ | exact Kd.V_nil _ _ _ _ _ | exact Kd.Q_nil _ _ _ _ _ | exact Kd.S_nil _ _ _ _ _, by first | exact Kd.R_nil _ _ _ _ _ | exact Kd.N_nil _ _ _ _ _ | exact Kd.V_nil _ _ _ _ _ | exact Kd.Q_nil _ _ _ _ _ | exact Kd.S_nil _ _ _ _ _, by repeat (first | (with_reducible first | exact HB.out | apply below_alloc | apply pw_below_drewN | apply below_drew1 | refine below_set ?_ GE386.out) | exact HB.out)⟩
  · rw [if_neg c4] at H
    have c4b0 : decide ((l2.length : Int) < 20) = false := decide_eq_false c4
    have c4b1 : decide (l2.length < 20) = false := decide_eq_false (by omega)
    clear c4
    by_cases c7 : 12 < (l2.length : Int)
    · rw [if_pos c7] at H
      have c7b0 : decide (12 < (l2.length : Int)) = true := decide_eq_true c7
      have c7b1 : decide (12 < l2.length) = true := decide_eq_true (by omega)
      clear c7
      have HC8 := Aside0.mk H
      clear H
      go_enter Try.func28, Try.ntmps28
      go_upto_region 4 with (first | ((with_reducible refine gate_dst (N := 6) rfl ?_); refine box_event ?hg (N := 6) ?hd (cs := #[.int .i64 0, .int .i64 0, .int .u32 0, .int .u32 0, .int .i64 0, .int .i64 0, .int .i64 0, .slice none 0 0, .slice none 0 0]) (t := 46) ?hr ?_; (case hd => rfl); (case hg => rfl); (case hr => first | (go_simp; done) | (go_simp; rfl)); intro gb386 hg w9 hbox hb; have n0_ := Aside0.mk (below_step (by repeat (first | (with_reducible first | exact HB.out | apply below_alloc | apply pw_below_drewN | apply below_drew1) | exact HB.out)) hb); have n1_ := Aside0.mk (hbox); have n2_ := Aside0.mk ((by rw [hg]; exact (below_size (by repeat (first | (with_reducible first | exact HB.out | apply below_alloc | apply pw_below_drewN | apply below_drew1) | exact HB.out))) : w.heap.size ≤ gb386)); have n3_ := Aside0.mk ((by rw [hg]; exact (below_size (by repeat (first | (with_reducible first | exact HB.out | apply below_alloc | apply pw_below_drewN | apply below_drew1) | exact HB.out))) : w.heap.size ≤ gb386)); clear HB; have HB := n0_; have BK386 := n1_; have GW386 := n2_; have GE386 := n3_; clear n0_ n1_ n2_ n3_; clear hb hbox hg; have p387 : 0 ≤ (12 : Int) := (by omega); have q387 : 12 < (l2.length : Int) := of_decide_eq_true (by first | (with_reducible assumption) | assumption); obtain ⟨ad387, e387, hx387_0⟩ := Kd.at_int HR2.out 12 p387 q387; cases e387; (try simp only [show (12 : Int).toNat = 12 from rfl, Nat.reduceMul, Nat.reduceEqDiff, Go.Addr.add, ↓reduceIte] at hx387_0); have qi387 : (12 < l2.length) = True := eq_true (by omega); (try rw [show ((12 : Int)).toNat = 12 from rfl] at hx387_0); replace hx387_0 := (HB.out.cell (World.block_lt_of_cell? w _ hx387_0)).trans hx387_0; replace p387 := eq_true p387; replace q387 := eq_true q387))
      (try simp only [Act.put, List.setIfInBounds_toArray, List.set_cons_zero, List.set_cons_succ])
      go_cut [27] (fun v27 wc => ∃ (kq : Nat) (x27_7 : Bool), v27 = .bool x27_7 ∧ Aside0 (bailiwickref3_Piece.j0 kq a0 a1 l2 (wrap64 ((wrap64 ((rd l2 12) / 16)) * 4)) x27_7 = some (r1, r2, r3, r4, r5, r6, r7, r8, r9, r10)) ∧ Aside0 (kq ≤ k) ∧ Aside0 (wc.heap[gb386]? = some (.cells #[.int .i64 0, .int .i64 0, .int .u32 0, .int .u32 0, .int .i64 0, .int .i64 0, .int .i64 0, (.slice none 0 0), (.slice none 0 0)] 46 (0, 0))) ∧ Aside0 (Below w.heap.size w wc))
      case first =>
        have H := HC8.out
        clear HC8
        by_cases c10 : (wrap64 ((wrap64 ((rd l2 12) / 16)) * 4)) < 20
        · rw [if_pos c10] at H
          have c10b0 : decide ((wrap64 ((wrap64 ((rd l2 12) / 16)) * 4)) < 20) = true := decide_eq_true c10
          clear c10
          (first | rw [c10b0] | (simp only [i64_w, i32_w]; rw [c10b0]) | skip)
          have H' := Aside0.mk H
          clear H
          go_wp2
          go_meet
          case rel => exact ⟨_, (true), (by first | rfl | (simp; done) | (simp [*]; done)), H', ⟨by first | omega | exact Nat.le_refl _⟩, ⟨by (with_reducible repeat (first | refine blk_drewN ?_ _ | refine blk_drew ?_ | refine blk_alloc ?_ _)); exact BK386.out⟩, ⟨by repeat (first | (with_reducible first | exact HB.out | apply below_alloc | apply pw_below_drewN | apply below_drew1 | refine below_set ?_ GE386.out) | exact HB.out)⟩⟩
        · rw [if_neg c10] at H
          have c10b0 : decide ((wrap64 ((wrap64 ((rd l2 12) / 16)) * 4)) < 20) = false := decide_eq_false c10
          clear c10
          (first | rw [c10b0] | (simp only [i64_w, i32_w]; rw [c10b0]) | skip)
          have H' := Aside0.mk H
          clear H
          have p388 : 0 ≤ (12 : Int) := (by omega)
          have q388 : 12 < (l2.length : Int) := of_decide_eq_true (by first | (with_reducible assumption) | assumption)
          obtain ⟨ad388, e388, hx388_0⟩ := Kd.at_int HR2.out 12 p388 q388
          obtain rfl : ad387 = ad388 := (by injection e388)
          (try simp only [show (12 : Int).toNat = 12 from rfl, Nat.reduceMul, Nat.reduceEqDiff, Go.Addr.add, ↓reduceIte] at hx388_0)
          have qi388 : (12 < l2.length) = True := eq_true (by omega)
          (try rw [show ((12 : Int)).toNat = 12 from rfl] at hx388_0)
          replace hx388_0 := (HB.out.cell (World.block_lt_of_cell? w _ hx388_0)).trans hx388_0
          replace p388 := eq_true p388
          replace q388 := eq_true q388
          go_wp2
          go_meet
          case rel => exact ⟨_, (((Go.bits .and .u8 (rd l2 12) 15) != 0)), (by first | rfl | (simp; done) | (simp [*]; done)), H', ⟨by first | omega | exact Nat.le_refl _⟩, ⟨by (with_reducible repeat (first | refine blk_drewN ?_ _ | refine blk_drew ?_ | refine blk_alloc ?_ _)); exact BK386.out⟩, ⟨by repeat (first | (with_reducible first | exact HB.out | apply below_alloc | apply pw_below_drewN | apply below_drew1 | refine below_set ?_ GE386.out) | exact HB.out)⟩⟩
      case rest =>
        clear HC8
        try clear c1
        try clear c2
        try clear p2
        try clear p3
        try clear q3
        try clear hx3
        try clear qi3
        try clear c4
        try clear c4b0
        try clear c4b1
        try clear p6
        try clear c7
        try clear c7b0
        try clear c7b1
        try clear c10
        try clear c10b0
        try clear hcz6_0
        try clear hcz6_1
        try clear hcz6_2
        try clear hcz6_3
        try clear hcz6_4
        try clear hcz6_5
        try clear hcz6_6
        try clear hcz6_7
        try clear hcz6_8
        try clear hfz6_0
        try clear hfz6_1
        try clear hfz6_2
        try clear hfz6_3
        try clear hfz6_4
        try clear hfz6_5
        try clear hfz6_6
        try clear hfz6_7
        try clear hfz6_8
        try clear hx387_0
        try clear hx388_0
        try clear p387
        try clear p388
        try clear q387
        try clear q388
        obtain ⟨kq, x27_7, rfl, HA, HJ7, BK386, HB⟩ := hcut
        cases kq with
        | zero => exact absurd HA.out (by simp [bailiwickref3_Piece.j0])
        | succ kj7 =>
          have H := HA.out
          clear HA
          simp only [bailiwickref3_Piece.j0] at H
          by_cases c11 : x27_7 = true
          · subst c11
            have H1 : (some (0, 0, 0, 0, 0, 0, 0, ([] : List Int), ([] : List Int), 4)) = some (r1, r2, r3, r4, r5, r6, r7, r8, r9, r10) := by rw [if_pos rfl] at H; exact H
            clear H
            have H := H1
            clear H1
            simp only [Option.some.injEq, Prod.mk.injEq] at H
            obtain ⟨rfl, rfl, rfl, rfl, rfl, rfl, rfl, rfl, rfl, rfl⟩ := H
            have hcz12_0 : wc.cell? ⟨gb386, 0, none⟩ = some (.int .i64 0) := (blk_cell BK386.out 0).trans rfl
            have hcz12_1 : wc.cell? ⟨gb386, 1, none⟩ = some (.int .i64 0) := (blk_cell BK386.out 1).trans rfl
            have hcz12_2 : wc.cell? ⟨gb386, 2, none⟩ = some (.int .u32 0) := (blk_cell BK386.out 2).trans rfl
            have hcz12_3 : wc.cell? ⟨gb386, 3, none⟩ = some (.int .u32 0) := (blk_cell BK386.out 3).trans rfl
            have hcz12_4 : wc.cell? ⟨gb386, 4, none⟩ = some (.int .i64 0) := (blk_cell BK386.out 4).trans rfl
            have hcz12_5 : wc.cell? ⟨gb386, 5, none⟩ = some (.int .i64 0) := (blk_cell BK386.out 5).trans rfl
            have hcz12_6 : wc.cell? ⟨gb386, 6, none⟩ = some (.int .i64 0) := (blk_cell BK386.out 6).trans rfl
            have hcz12_7 : wc.cell? ⟨gb386, 7, none⟩ = some (.slice none 0 0) := (blk_cell BK386.out 7).trans rfl
            have hcz12_8 : wc.cell? ⟨gb386, 8, none⟩ = some (.slice none 0 0) := (blk_cell BK386.out 8).trans rfl
            have hfz12_0 := blk_frozen BK386.out 0
            have hfz12_1 := blk_frozen BK386.out 1
            have hfz12_2 := blk_frozen BK386.out 2
            have hfz12_3 := blk_frozen BK386.out 3
            have hfz12_4 := blk_frozen BK386.out 4
            have hfz12_5 := blk_frozen BK386.out 5
            have hfz12_6 := blk_frozen BK386.out 6
            have hfz12_7 := blk_frozen BK386.out 7
            have hfz12_8 := blk_frozen BK386.out 8
            go_wp2
            refine bodyPost_ret (results_ct rfl _ _ gb386 46 #[.int .i64 0, .int .i64 0, .int .u32 0, .int .u32 0, .int .i64 0, .int .i64 0, .int .i64 0, .slice none 0 0, .slice none 0 0] (0, 0) _ rfl (by (with_reducible repeat (first | refine blk_drewN ?_ _ | refine blk_drew ?_ | refine blk_alloc ?_ _)); refine blk_put (cs := #[.int .i64 0, .int .i64 0, .int .u32 0, .int .u32 0, .int .i64 0, .int .i64 0, .int .i64 0, .slice none 0 0, .slice none 0 0]) ?_ 8 _ rfl; (with_reducible repeat (first | refine blk_drewN ?_ _ | refine blk_drew ?_ | refine blk_alloc ?_ _)); refine blk_put (cs := #[.int .i64 0, .int .i64 0, .int .u32 0, .int .u32 0, .int .i64 0, .int .i64 0, .int .i64 0, .slice none 0 0, .slice none 0 0]) ?_ 7 _ rfl; (with_reducible repeat (first | refine blk_drewN ?_ _ | refine blk_drew ?_ | refine blk_alloc ?_ _)); refine blk_put (cs := #[.int .i64 0, .int .i64 0, .int .u32 0, .int .u32 0, .int .i64 0, .int .i64 0, .int .i64 0, .slice none 0 0, .slice none 0 0]) ?_ 6 _ rfl; (with_reducible repeat (first | refine blk_drewN ?_ _ | refine blk_drew ?_ | refine blk_alloc ?_ _)); refine blk_put (cs := #[.int .i64 0, .int .i64 0, .int .u32 0, .int .u32 0, .int .i64 0, .int .i64 0, .int .i64 0, .slice none 0 0, .slice none 0 0]) ?_ 5 _ rfl; (with_reducible repeat (first | refine blk_drewN ?_ _ | refine blk_drew ?_ | refine blk_alloc ?_ _)); refine blk_put (cs := #[.int .i64 0, .int .i64 0, .int .u32 0, .int .u32 0, .int .i64 0, .int .i64 0, .int .i64 0, .slice none 0 0, .slice none 0 0]) ?_ 4 _ rfl; (with_reducible repeat (first | refine blk_drewN ?_ _ | refine blk_drew ?_ | refine blk_alloc ?_ _)); refine blk_put (cs := #[.int .i64 0, .int .i64 0, .int .u32 0, .int .u32 0, .int .i64 0, .int .i64 0, .int .i64 0, .slice none 0 0, .slice none 0 0]) ?_ 3 _ rfl; (with_reducible repeat (first | refine blk_drewN ?_ _ | refine blk_drew ?_ | refine blk_alloc ?_ _)); refine blk_put (cs := #[.int .i64 0, .int .i64 0, .int .u32 0, .int .u32 0, .int .i64 0, .int .i64 0, .int .i64 0, .slice none 0 0, .slice none 0 0]) ?_ 2 _ rfl; (with_reducible repeat (first | refine blk_drewN ?_ _ | refine blk_drew ?_ | refine blk_alloc ?_ _)); refine blk_put (cs := #[.int .i64 0, .int .i64 0, .int .u32 0, .int .u32 0, .int .i64 0, .int .i64 0, .int .i64 0, .slice none 0 0, .slice none 0 0]) ?_ 1 _ rfl; (with_reducible repeat (first | refine blk_drewN ?_ _ | refine blk_drew ?_ | refine blk_alloc ?_ _)); refine blk_put (cs := #[.int .i64 0, .int .i64 0, .int .u32 0, .int .u32 0, .int .i64 0, .int .i64 0, .int .i64 0, .slice none 0 0, .slice none 0 0]) ?_ 0 _ rfl; (with_reducible repeat (first | refine blk_drewN ?_ _ | refine blk_drew ?_ | refine blk_alloc ?_ _)); exact BK386.out) Try.underlying46 rfl (by kernel_rfl)) rfl ?_
            exact ⟨_, _, by first | rfl | (simp [errW_none, errW_some] <;> rfl) | (simp [*, errW_none, errW_some] <;> rfl), by first | exact Kd.R_nil _ _ _ _ _ | exact Kd.N_nil _ _ _ _ _ | exact Kd.V_nil _ _ _ _ _ | exact Kd.Q_nil _ _ _ _ _ | exact Kd.S_nil _ _ _ _ _, by first | exact Kd.R_nil _ _ _ _ _ | exact Kd.N_nil _ _ _ _ _ | exact Kd.V_nil _ _ _ _ _ | exact Kd.Q_nil _ _ _ _ _ | exact Kd.S_nil _ _ _ _ _, by repeat (first | (with_reducible first | exact HB.out | apply below_alloc | apply pw_below_drewN | apply below_drew1 | refine below_set ?_ GE386.out) | exact HB.out)⟩
          · replace c11 := Bool.eq_false_iff.mpr c11
            subst c11
            have H1 : (if (wrap64 ((wrap64 ((rd l2 12) / 16)) * 4)) > (l2.length : Int) then (some (0, 0, 0, 0, 0, 0, 0, ([] : List Int), ([] : List Int), 2)) else ((bailiwickref3_Pseudo.f kj7 a0 a1 6 (l2.length : Int)).bind fun t389 => ((bailiwickref1_Sum.f kj7 (([t389, l2] : List (List Int)))).bind fun t396 => (if t396 = 65535 then ((bailiwickref3_word.f l2 0).bind fun t397 => ((bailiwickref3_word.f l2 2).bind fun t398 => ((bailiwickref3_long.f l2 4).bind fun t399 => ((bailiwickref3_long.f l2 8).bind fun t400 => (if 13 < (l2.length : Int) then ((bailiwickref3_word.f l2 14).bind fun t402 => ((bailiwickref3_word.f l2 18).bind fun t403 => ((bailiwickref1_Part.f kj7 l2 20 (wrap64 ((wrap64 ((rd l2 12) / 16)) * 4))).bind fun t404 => ((bailiwickref1_Part.f kj7 l2 (wrap64 ((wrap64 ((rd l2 12) / 16)) * 4)) (l2.length : Int)).bind fun t407 => (some (t397, t398, t399, t400, wrap64 (rd l2 13), t402, t403, t404, t407, 0)))))) else (none)))))) else (some (0, 0, 0, 0, 0, 0, 0, ([] : List Int), ([] : List Int), 5)))))) = some (r1, r2, r3, r4, r5, r6, r7, r8, r9, r10) := by rw [if_neg (show ¬ (false = true) by decide)] at H; exact H
            clear H
            have H := H1
            clear H1
            by_cases c13 : (wrap64 ((wrap64 ((rd l2 12) / 16)) * 4)) > (l2.length : Int)
            · rw [if_pos c13] at H
              have c13b0 : decide ((l2.length : Int) < (wrap64 ((wrap64 ((rd l2 12) / 16)) * 4))) = true := decide_eq_true c13
              clear c13
              simp only [Option.some.injEq, Prod.mk.injEq] at H
              obtain ⟨rfl, rfl, rfl, rfl, rfl, rfl, rfl, rfl, rfl, rfl⟩ := H
              have hcz14_0 : wc.cell? ⟨gb386, 0, none⟩ = some (.int .i64 0) := (blk_cell BK386.out 0).trans rfl
              have hcz14_1 : wc.cell? ⟨gb386, 1, none⟩ = some (.int .i64 0) := (blk_cell BK386.out 1).trans rfl
              have hcz14_2 : wc.cell? ⟨gb386, 2, none⟩ = some (.int .u32 0) := (blk_cell BK386.out 2).trans rfl
              have hcz14_3 : wc.cell? ⟨gb386, 3, none⟩ = some (.int .u32 0) := (blk_cell BK386.out 3).trans rfl
              have hcz14_4 : wc.cell? ⟨gb386, 4, none⟩ = some (.int .i64 0) := (blk_cell BK386.out 4).trans rfl
              have hcz14_5 : wc.cell? ⟨gb386, 5, none⟩ = some (.int .i64 0) := (blk_cell BK386.out 5).trans rfl
              have hcz14_6 : wc.cell? ⟨gb386, 6, none⟩ = some (.int .i64 0) := (blk_cell BK386.out 6).trans rfl
              have hcz14_7 : wc.cell? ⟨gb386, 7, none⟩ = some (.slice none 0 0) := (blk_cell BK386.out 7).trans rfl
              have hcz14_8 : wc.cell? ⟨gb386, 8, none⟩ = some (.slice none 0 0) := (blk_cell BK386.out 8).trans rfl
              have hfz14_0 := blk_frozen BK386.out 0
              have hfz14_1 := blk_frozen BK386.out 1
              have hfz14_2 := blk_frozen BK386.out 2
              have hfz14_3 := blk_frozen BK386.out 3
              have hfz14_4 := blk_frozen BK386.out 4
              have hfz14_5 := blk_frozen BK386.out 5
              have hfz14_6 := blk_frozen BK386.out 6
              have hfz14_7 := blk_frozen BK386.out 7
              have hfz14_8 := blk_frozen BK386.out 8
              go_wp2
              refine bodyPost_ret (results_ct rfl _ _ gb386 46 #[.int .i64 0, .int .i64 0, .int .u32 0, .int .u32 0, .int .i64 0, .int .i64 0, .int .i64 0, .slice none 0 0, .slice none 0 0] (0, 0) _ rfl (by (with_reducible repeat (first | refine blk_drewN ?_ _ | refine blk_drew ?_ | refine blk_alloc ?_ _)); refine blk_put (cs := #[.int .i64 0, .int .i64 0, .int .u32 0, .int .u32 0, .int .i64 0, .int .i64 0, .int .i64 0, .slice none 0 0, .slice none 0 0]) ?_ 8 _ rfl; (with_reducible repeat (first | refine blk_drewN ?_ _ | refine blk_drew ?_ | refine blk_alloc ?_ _)); refine blk_put (cs := #[.int .i64 0, .int .i64 0, .int .u32 0, .int .u32 0, .int .i64 0, .int .i64 0, .int .i64 0, .slice none 0 0, .slice none 0 0]) ?_ 7 _ rfl; (with_reducible repeat (first | refine blk_drewN ?_ _ | refine blk_drew ?_ | refine blk_alloc ?_ _)); refine blk_put (cs := #[.int .i64 0, .int .i64 0, .int .u32 0, .int .u32 0, .int .i64 0, .int .i64 0, .int .i64 0, .slice none 0 0, .slice none 0 0]) ?_ 6 _ rfl; (with_reducible repeat (first | refine blk_drewN ?_ _ | refine blk_drew ?_ | refine blk_alloc ?_ _)); refine blk_put (cs := #[.int .i64 0, .int .i64 0, .int .u32 0, .int .u32 0, .int .i64 0, .int .i64 0, .int .i64 0, .slice none 0 0, .slice none 0 0]) ?_ 5 _ rfl; (with_reducible repeat (first | refine blk_drewN ?_ _ | refine blk_drew ?_ | refine blk_alloc ?_ _)); refine blk_put (cs := #[.int .i64 0, .int .i64 0, .int .u32 0, .int .u32 0, .int .i64 0, .int .i64 0, .int .i64 0, .slice none 0 0, .slice none 0 0]) ?_ 4 _ rfl; (with_reducible repeat (first | refine blk_drewN ?_ _ | refine blk_drew ?_ | refine blk_alloc ?_ _)); refine blk_put (cs := #[.int .i64 0, .int .i64 0, .int .u32 0, .int .u32 0, .int .i64 0, .int .i64 0, .int .i64 0, .slice none 0 0, .slice none 0 0]) ?_ 3 _ rfl; (with_reducible repeat (first | refine blk_drewN ?_ _ | refine blk_drew ?_ | refine blk_alloc ?_ _)); refine blk_put (cs := #[.int .i64 0, .int .i64 0, .int .u32 0, .int .u32 0, .int .i64 0, .int .i64 0, .int .i64 0, .slice none 0 0, .slice none 0 0]) ?_ 2 _ rfl; (with_reducible repeat (first | refine blk_drewN ?_ _ | refine blk_drew ?_ | refine blk_alloc ?_ _)); refine blk_put (cs := #[.int .i64 0, .int .i64 0, .int .u32 0, .int .u32 0, .int .i64 0, .int .i64 0, .int .i64 0, .slice none 0 0, .slice none 0 0]) ?_ 1 _ rfl; (with_reducible repeat (first | refine blk_drewN ?_ _ | refine blk_drew ?_ | refine blk_alloc ?_ _)); refine blk_put (cs := #[.int .i64 0, .int .i64 0, .int .u32 0, .int .u32 0, .int .i64 0, .int .i64 0, .int .i64 0, .slice none 0 0, .slice none 0 0]) ?_ 0 _ rfl; (with_reducible repeat (first | refine blk_drewN ?_ _ | refine blk_drew ?_ | refine blk_alloc ?_ _)); exact BK386.out) Try.underlying46 rfl (by kernel_rfl)) rfl ?_
              exact ⟨_, _, by first | rfl | (simp [errW_none, errW_some] <;> rfl) | (simp [*, errW_none, errW_some] <;> rfl), by first | exact Kd.R_nil _ _ _ _ _ | exact Kd.N_nil _ _ _ _ _ | exact Kd.V_nil _ _ _ _ _ | exact Kd.Q_nil _ _ _ _ _ | exact Kd.S_nil _ _ _ _ _, by first | exact Kd.R_nil _ _ _ _ _ | exact Kd.N_nil _ _ _ _ _ | exact Kd.V_nil _ _ _ _ _ | exact Kd.Q_nil _ _ _ _ _ | exact Kd.S_nil _ _ _ _ _, by repeat (first | (with_reducible first | exact HB.out | apply below_alloc | apply pw_below_drewN | apply below_drew1 | refine below_set ?_ GE386.out) | exact HB.out)⟩
            · rw [if_neg c13] at H
              have c13b0 : decide ((l2.length : Int) < (wrap64 ((wrap64 ((rd l2 12) / 16)) * 4))) = false := decide_eq_false c13
              clear c13
              replace H := Option.bind_eq_some_iff.mp H
              obtain ⟨t389, A150, H⟩ := H
              replace H : ((bailiwickref1_Sum.f kj7 (([t389, l2] : List (List Int)))).bind fun t396 => (if t396 = 65535 then ((bailiwickref3_word.f l2 0).bind fun t397 => ((bailiwickref3_word.f l2 2).bind fun t398 => ((bailiwickref3_long.f l2 4).bind fun t399 => ((bailiwickref3_long.f l2 8).bind fun t400 => (if 13 < (l2.length : Int) then ((bailiwickref3_word.f l2 14).bind fun t402 => ((bailiwickref3_word.f l2 18).bind fun t403 => ((bailiwickref1_Part.f kj7 l2 20 (wrap64 ((wrap64 ((rd l2 12) / 16)) * 4))).bind fun t404 => ((bailiwickref1_Part.f kj7 l2 (wrap64 ((wrap64 ((rd l2 12) / 16)) * 4)) (l2.length : Int)).bind fun t407 => (some (t397, t398, t399, t400, wrap64 (rd l2 13), t402, t403, t404, t407, 0)))))) else (none)))))) else (some (0, 0, 0, 0, 0, 0, 0, ([] : List Int), ([] : List Int), 5)))) = some (r1, r2, r3, r4, r5, r6, r7, r8, r9, r10) := H
              have A15 := Aside0.mk A150
              clear A150
              obtain ⟨y392, hy392⟩ : ∃ y_ : List (List Int), y_ = (([t389, l2] : List (List Int))) := ⟨_, rfl⟩
              replace H : ((bailiwickref1_Sum.f kj7 y392).bind fun t396 => (if t396 = 65535 then ((bailiwickref3_word.f l2 0).bind fun t397 => ((bailiwickref3_word.f l2 2).bind fun t398 => ((bailiwickref3_long.f l2 4).bind fun t399 => ((bailiwickref3_long.f l2 8).bind fun t400 => (if 13 < (l2.length : Int) then ((bailiwickref3_word.f l2 14).bind fun t402 => ((bailiwickref3_word.f l2 18).bind fun t403 => ((bailiwickref1_Part.f kj7 l2 20 (wrap64 ((wrap64 ((rd l2 12) / 16)) * 4))).bind fun t404 => ((bailiwickref1_Part.f kj7 l2 (wrap64 ((wrap64 ((rd l2 12) / 16)) * 4)) (l2.length : Int)).bind fun t407 => (some (t397, t398, t399, t400, wrap64 (rd l2 13), t402, t403, t404, t407, 0)))))) else (none)))))) else (some (0, 0, 0, 0, 0, 0, 0, ([] : List Int), ([] : List Int), 5)))) = some (r1, r2, r3, r4, r5, r6, r7, r8, r9, r10) := by first | (rw [hy392]; with_reducible exact H) | (have H2_ := (Option.bind_some _ _).symm.trans H; rw [hy392]; with_reducible exact H2_) | (have H2_ := (Option.bind_some _ _).symm.trans H; with_reducible exact H2_) | with_reducible exact H | (rw [hy392]; exact H) | exact H
              have Ny392 := Aside0.mk hy392
              clear hy392
              replace H := Option.bind_eq_some_iff.mp H
              obtain ⟨t396, A160, H⟩ := H
              replace H : (if t396 = 65535 then ((bailiwickref3_word.f l2 0).bind fun t397 => ((bailiwickref3_word.f l2 2).bind fun t398 => ((bailiwickref3_long.f l2 4).bind fun t399 => ((bailiwickref3_long.f l2 8).bind fun t400 => (if 13 < (l2.length : Int) then ((bailiwickref3_word.f l2 14).bind fun t402 => ((bailiwickref3_word.f l2 18).bind fun t403 => ((bailiwickref1_Part.f kj7 l2 20 (wrap64 ((wrap64 ((rd l2 12) / 16)) * 4))).bind fun t404 => ((bailiwickref1_Part.f kj7 l2 (wrap64 ((wrap64 ((rd l2 12) / 16)) * 4)) (l2.length : Int)).bind fun t407 => (some (t397, t398, t399, t400, wrap64 (rd l2 13), t402, t403, t404, t407, 0)))))) else (none)))))) else (some (0, 0, 0, 0, 0, 0, 0, ([] : List Int), ([] : List Int), 5))) = some (r1, r2, r3, r4, r5, r6, r7, r8, r9, r10) := H
              have A16 := Aside0.mk A160
              clear A160
              by_cases c17 : t396 = 65535
              · rw [if_pos c17] at H
                have c17b0 : (t396 == 65535) = true := beq_iff_eq.mpr c17
                have c17b1 : (t396 != 65535) = false := bne_eq_false_iff_eq.mpr c17
                clear c17
                replace H := Option.bind_eq_some_iff.mp H
                obtain ⟨t397, A180, H⟩ := H
                replace H : ((bailiwickref3_word.f l2 2).bind fun t398 => ((bailiwickref3_long.f l2 4).bind fun t399 => ((bailiwickref3_long.f l2 8).bind fun t400 => (if 13 < (l2.length : Int) then ((bailiwickref3_word.f l2 14).bind fun t402 => ((bailiwickref3_word.f l2 18).bind fun t403 => ((bailiwickref1_Part.f kj7 l2 20 (wrap64 ((wrap64 ((rd l2 12) / 16)) * 4))).bind fun t404 => ((bailiwickref1_Part.f kj7 l2 (wrap64 ((wrap64 ((rd l2 12) / 16)) * 4)) (l2.length : Int)).bind fun t407 => (some (t397, t398, t399, t400, wrap64 (rd l2 13), t402, t403, t404, t407, 0)))))) else (none))))) = some (r1, r2, r3, r4, r5, r6, r7, r8, r9, r10) := H
                have A18 := Aside0.mk A180
                clear A180
                replace H := Option.bind_eq_some_iff.mp H
                obtain ⟨t398, A190, H⟩ := H
                replace H : ((bailiwickref3_long.f l2 4).bind fun t399 => ((bailiwickref3_long.f l2 8).bind fun t400 => (if 13 < (l2.length : Int) then ((bailiwickref3_word.f l2 14).bind fun t402 => ((bailiwickref3_word.f l2 18).bind fun t403 => ((bailiwickref1_Part.f kj7 l2 20 (wrap64 ((wrap64 ((rd l2 12) / 16)) * 4))).bind fun t404 => ((bailiwickref1_Part.f kj7 l2 (wrap64 ((wrap64 ((rd l2 12) / 16)) * 4)) (l2.length : Int)).bind fun t407 => (some (t397, t398, t399, t400, wrap64 (rd l2 13), t402, t403, t404, t407, 0)))))) else (none)))) = some (r1, r2, r3, r4, r5, r6, r7, r8, r9, r10) := H
                have A19 := Aside0.mk A190
                clear A190
                replace H := Option.bind_eq_some_iff.mp H
                obtain ⟨t399, A200, H⟩ := H
                replace H : ((bailiwickref3_long.f l2 8).bind fun t400 => (if 13 < (l2.length : Int) then ((bailiwickref3_word.f l2 14).bind fun t402 => ((bailiwickref3_word.f l2 18).bind fun t403 => ((bailiwickref1_Part.f kj7 l2 20 (wrap64 ((wrap64 ((rd l2 12) / 16)) * 4))).bind fun t404 => ((bailiwickref1_Part.f kj7 l2 (wrap64 ((wrap64 ((rd l2 12) / 16)) * 4)) (l2.length : Int)).bind fun t407 => (some (t397, t398, t399, t400, wrap64 (rd l2 13), t402, t403, t404, t407, 0)))))) else (none))) = some (r1, r2, r3, r4, r5, r6, r7, r8, r9, r10) := H
                have A20 := Aside0.mk A200
                clear A200
                replace H := Option.bind_eq_some_iff.mp H
                obtain ⟨t400, A210, H⟩ := H
                replace H : (if 13 < (l2.length : Int) then ((bailiwickref3_word.f l2 14).bind fun t402 => ((bailiwickref3_word.f l2 18).bind fun t403 => ((bailiwickref1_Part.f kj7 l2 20 (wrap64 ((wrap64 ((rd l2 12) / 16)) * 4))).bind fun t404 => ((bailiwickref1_Part.f kj7 l2 (wrap64 ((wrap64 ((rd l2 12) / 16)) * 4)) (l2.length : Int)).bind fun t407 => (some (t397, t398, t399, t400, wrap64 (rd l2 13), t402, t403, t404, t407, 0)))))) else (none)) = some (r1, r2, r3, r4, r5, r6, r7, r8, r9, r10) := H
                have A21 := Aside0.mk A210
                clear A210
                by_cases c22 : 13 < (l2.length : Int)
                · rw [if_pos c22] at H
                  have c22b0 : decide (13 < (l2.length : Int)) = true := decide_eq_true c22
                  have c22b1 : decide (13 < l2.length) = true := decide_eq_true (by omega)
                  clear c22
                  replace H := Option.bind_eq_some_iff.mp H
                  obtain ⟨t402, A230, H⟩ := H
                  replace H : ((bailiwickref3_word.f l2 18).bind fun t403 => ((bailiwickref1_Part.f kj7 l2 20 (wrap64 ((wrap64 ((rd l2 12) / 16)) * 4))).bind fun t404 => ((bailiwickref1_Part.f kj7 l2 (wrap64 ((wrap64 ((rd l2 12) / 16)) * 4)) (l2.length : Int)).bind fun t407 => (some (t397, t398, t399, t400, wrap64 (rd l2 13), t402, t403, t404, t407, 0))))) = some (r1, r2, r3, r4, r5, r6, r7, r8, r9, r10) := H
                  have A23 := Aside0.mk A230
                  clear A230
                  replace H := Option.bind_eq_some_iff.mp H
                  obtain ⟨t403, A240, H⟩ := H
                  replace H : ((bailiwickref1_Part.f kj7 l2 20 (wrap64 ((wrap64 ((rd l2 12) / 16)) * 4))).bind fun t404 => ((bailiwickref1_Part.f kj7 l2 (wrap64 ((wrap64 ((rd l2 12) / 16)) * 4)) (l2.length : Int)).bind fun t407 => (some (t397, t398, t399, t400, wrap64 (rd l2 13), t402, t403, t404, t407, 0)))) = some (r1, r2, r3, r4, r5, r6, r7, r8, r9, r10) := H
                  have A24 := Aside0.mk A240
                  clear A240
                  replace H := Option.bind_eq_some_iff.mp H
                  obtain ⟨t404, A250, H⟩ := H
                  replace H : ((bailiwickref1_Part.f kj7 l2 (wrap64 ((wrap64 ((rd l2 12) / 16)) * 4)) (l2.length : Int)).bind fun t407 => (some (t397, t398, t399, t400, wrap64 (rd l2 13), t402, t403, t404, t407, 0))) = some (r1, r2, r3, r4, r5, r6, r7, r8, r9, r10) := H
                  have A25 := Aside0.mk A250
                  clear A250
                  replace H := Option.bind_eq_some_iff.mp H
                  obtain ⟨t407, A260, H⟩ := H
                  replace H : (some (t397, t398, t399, t400, wrap64 (rd l2 13), t402, t403, t404, t407, 0)) = some (r1, r2, r3, r4, r5, r6, r7, r8, r9, r10) := H
                  have A26 := Aside0.mk A260
                  clear A260
                  simp only [Option.some.injEq, Prod.mk.injEq] at H
                  obtain ⟨rfl, rfl, rfl, rfl, rfl, rfl, rfl, rfl, rfl, rfl⟩ := H
                  try go_wp2_with (first | ((with_reducible refine gate_callee (f := 50) rfl ?_); refine goesL_ (some 38) rfl rfl Try.func50 (by kernel_rfl) rfl #[.int .u32 a0, .int .u32 a1, .int .i64 6, .int .i64 (l2.length : Int)] rfl (by (try simp only [List.map_toArray, List.map_cons, List.map_nil]); first | done | rfl | (simp only [List.length_drop, List.length_take]; rfl)) ?_; (with_reducible refine (bailiwickref3_Pseudo.calls kj7 a0 a1 6 (l2.length : Int) t389 _ A15.out).mono ?_); rintro e w27 ⟨v390, rfl, ho0, hb⟩; refine ⟨_, rfl, ?_⟩; have n0_ := Aside0.mk (Kd.R_lower ho0 (below_size (by repeat (first | (with_reducible first | exact HB.out | apply below_alloc | apply pw_below_drewN | apply below_drew1 | refine below_set ?_ GE386.out) | exact HB.out)))); have n1_ := Aside0.mk (blk_below (g := gb386) (o := .cells #[.int .i64 0, .int .i64 0, .int .u32 0, .int .u32 0, .int .i64 0, .int .i64 0, .int .i64 0, .slice none 0 0, .slice none 0 0] 46 (0, 0)) (by (with_reducible repeat (first | refine blk_drewN ?_ _ | refine blk_drew ?_ | refine blk_alloc ?_ _)); exact BK386.out) hb); have n2_ := Aside0.mk (below_step (by repeat (first | (with_reducible first | exact HB.out | apply below_alloc | apply pw_below_drewN | apply below_drew1 | refine below_set ?_ GE386.out) | exact HB.out)) hb); clear BK386; clear HB; have HO391 := n0_; have BK386 := n1_; have HB := n2_; clear n0_ n1_ n2_; (try clear hb); (try clear hb2); (try clear hk); (try clear hi); (try clear ho0); obtain ⟨Ao28, co28, eo28⟩ := Kd.R_slice HO391.out; subst eo28) | ((with_reducible refine gate_dst (N := 40) rfl ?_); refine Kd.N_lit (Kd.slice 5 (Kd.int .u8)) _ 23 ?hg (N' := 40) ?hd (xs := ([t389, l2] : List (List Int))) (inner := [.slice Ao28 t389.length co28, .slice (some ad387) l2.length c2]) (ok := fun _ => True) (okp := fun _ => True) ?hr ?hp (fun _ _ => trivial) trivial (Below.refl _ _) (Nat.le_refl _) (by simp) ?_; (case hd => rfl); (case hg => rfl); (case hr => first | (go_simp; done) | (go_simp; rfl)); (case hp => exact (Reps.one (show Kd.FK (Kd.slice 5 (Kd.int .u8)) _ _ t389 [.slice Ao28 t389.length co28] from Kd.FK_slice_mk (by exact (Kd.R_reads' HO391.out).2.1) (Kd.F_mono (Kd.C_F (Kd.heap_int .u8) (by repeat (first | exact (Kd.R_reads' HO391.out).2.2 | (with_reducible refine Kd.C_alloc ?_ _) | (with_reducible refine Kd.C_drewN ?_ _) | (with_reducible refine Kd.C_drew ?_)))) (fun _ _ => trivial))) (Reps.one (show Kd.FK (Kd.slice 5 (Kd.int .u8)) _ _ l2 [.slice (some ad387) l2.length c2] from Kd.FK_slice_mk (by exact HC2.out) (Kd.F_mono (Kd.C_F (Kd.heap_int .u8) (by repeat (first | exact (Kd.C_below HR2.out HB.out) | (with_reducible refine Kd.C_alloc ?_ _) | (with_reducible refine Kd.C_drewN ?_ _) | (with_reducible refine Kd.C_drew ?_)))) (fun _ _ => trivial))) (Reps.none _ _)))); intro vl395 w29 ho hb hg_ hnew_; clear hg_ hnew_; (first | rw [← Ny392.out] at ho | (simp only [Int.reduceToNat] at ho; rw [← Ny392.out] at ho)); obtain ⟨Al395, cl395, el395⟩ := Kd.N_slice ho; subst el395; have hr := (Kd.N_reads' ho).2.2; have hl := (Kd.N_reads' ho).2.1; clear ho; have n0_ := Aside0.mk (Kd.R_below (by (with_reducible repeat (first | apply Kd.R_alloc | apply Kd.R_drewN | apply Kd.R_drew)); exact HO391.out) hb); have n1_ := Aside0.mk (blk_below (g := gb386) (o := .cells #[.int .i64 0, .int .i64 0, .int .u32 0, .int .u32 0, .int .i64 0, .int .i64 0, .int .i64 0, .slice none 0 0, .slice none 0 0] 46 (0, 0)) (by (with_reducible repeat (first | refine blk_drewN ?_ _ | refine blk_drew ?_ | refine blk_alloc ?_ _)); exact BK386.out) hb); have n2_ := Aside0.mk (below_step (by repeat (first | (with_reducible first | exact HB.out | apply below_alloc | apply pw_below_drewN | apply below_drew1 | refine below_set ?_ GE386.out) | exact HB.out)) hb); have n3_ := Aside0.mk (hr); have n4_ := Aside0.mk (hl); clear HO391; clear BK386; clear HB; have HO391 := n0_; have BK386 := n1_; have HB := n2_; have HRl395 := n3_; have HCl395 := n4_; clear n0_ n1_ n2_ n3_ n4_; clear hb hr hl) | ((with_reducible refine gate_callee (f := 49) rfl ?_); refine goesL_ (some 41) rfl rfl Try.func49 (by kernel_rfl) rfl #[.slice Al395 y392.length cl395] rfl (by (try simp only [List.map_toArray, List.map_cons, List.map_nil]); first | done | rfl | (simp only [List.length_drop, List.length_take]; rfl)) ?_; (with_reducible refine (bailiwickref1_Sum.calls kj7 _ _ y392 t396 _ ?side1 ?side2 A16.out).mono ?_); (case side1 => repeat (first | exact (by repeat (first | (with_reducible exact HRl395.out) | (with_reducible refine Kd.C_alloc ?_ _) | (with_reducible refine Kd.C_drewN ?_ _) | (with_reducible refine Kd.C_drew ?_) | exact HRl395.out)) | (with_reducible refine Kd.C_alloc ?_ _) | (with_reducible refine Kd.C_drewN ?_ _) | (with_reducible refine Kd.C_drew ?_))); (case side2 => exact HCl395.out); rintro e w' ⟨rfl, ⟨nd, rfl⟩⟩; refine ⟨_, rfl, ?_⟩; (try (rw [drewN_self w29]; generalize hq_ : World.drewN w29 _ = w29; have n0_ : Aside0 (Kd.R (Kd.int .u8) 5 w29 w.heap.size (fun _ => True) (.slice Ao28 t389.length co28) t389) := ⟨by rw [← hq_]; exact (by (with_reducible repeat (first | apply Kd.R_alloc | apply Kd.R_drewN | apply Kd.R_drew)); exact HO391.out)⟩; have n1_ : Aside0 (w29.heap[gb386]? = some (.cells #[.int .i64 0, .int .i64 0, .int .u32 0, .int .u32 0, .int .i64 0, .int .i64 0, .int .i64 0, .slice none 0 0, .slice none 0 0] 46 (0, 0))) := ⟨by rw [← hq_]; exact (by (with_reducible repeat (first | refine blk_drewN ?_ _ | refine blk_drew ?_ | refine blk_alloc ?_ _)); exact BK386.out)⟩; have n2_ : Aside0 (Below w.heap.size w w29) := ⟨by rw [← hq_]; exact (by repeat (first | (with_reducible first | exact HB.out | apply below_alloc | apply pw_below_drewN | apply below_drew1 | refine below_set ?_ GE386.out) | exact HB.out))⟩; have n3_ : Aside0 (Kd.C (Kd.slice 5 (Kd.int .u8)) w29 Al395 y392.length y392) := ⟨by rw [← hq_]; exact (by repeat (first | (with_reducible exact HRl395.out) | (with_reducible refine Kd.C_alloc ?_ _) | (with_reducible refine Kd.C_drewN ?_ _) | (with_reducible refine Kd.C_drew ?_) | exact HRl395.out))⟩; clear HO391 BK386 HB HRl395 hq_; have HO391 := n0_; have BK386 := n1_; have HB := n2_; have HRl395 := n3_; clear n0_ n1_ n2_ n3_))))
                  have n0_ := Aside0.mk (Kd.R_drew HO391.out)
                  have n1_ := Aside0.mk (blk_drew BK386.out)
                  have n2_ := Aside0.mk (Kd.C_drew HRl395.out)
                  have n3_ := Aside0.mk (below_drew1 HB.out)
                  clear HO391
                  clear BK386
                  clear HRl395
                  clear HB
                  have HO391 := n0_
                  have BK386 := n1_
                  have HRl395 := n2_
                  have HB := n3_
                  clear n0_ n1_ n2_ n3_
                  have p401 : 0 ≤ (13 : Int) := (by omega)
                  have q401 : 13 < (l2.length : Int) := of_decide_eq_true (by first | (with_reducible assumption) | assumption)
                  obtain ⟨ad401, e401, hx401_0⟩ := Kd.at_int HR2.out 13 p401 q401
                  have hw401_0 := hx401_0
                  (try rw [show ((13 : Int)).toNat = 13 from rfl] at hw401_0)
                  (try rw [show 13 * 1 = 13 from rfl] at hw401_0)
                  (try simp only [Nat.reduceMul, Nat.reduceEqDiff, Go.Addr.add, ↓reduceIte] at hw401_0)
                  obtain rfl : ad387 = ad401 := (by injection e401)
                  (try simp only [show (13 : Int).toNat = 13 from rfl, Nat.reduceMul, Nat.reduceEqDiff, Go.Addr.add, ↓reduceIte] at hx401_0)
                  have qi401 : (13 < l2.length) = True := eq_true (by omega)
                  (try rw [show ((13 : Int)).toNat = 13 from rfl] at hx401_0)
                  replace hx401_0 := (HB.out.cell (World.block_lt_of_cell? w _ hx401_0)).trans hx401_0
                  replace p401 := eq_true p401
                  replace q401 := eq_true q401
                  refine start_ (n := 27) (S := fun w' => w'.cell? ⟨ad387.block, ad387.off + 13, none⟩ = some (.int .u8 (rd l2 13))) (ds := []) #[false, false, false, false, false, false, false, false, false, false, false, false, false, false, false, false, false, false, false, false, false, false, false, false, false, false, false] (by kernel_rfl) rfl rfl (((HB.out.cell (World.block_lt_of_cell? w _ hw401_0)).trans hw401_0)) (fun hHeld => ?_); refine with_tabW bailiwickref3_Piece.tab10 bailiwickref3_Piece.bits10 (fun HT_ HW_ => ?_)
                  generalize w29.drew = w30 at HO391 BK386 HRl395 HB hx401_0 hHeld ⊢
                  refine pure_ (i := 0) (N := some 44) (v := ?_) (a' := ?_) #[true, false, false, false, false, false, false, false, false, false, false, false, false, false, false, false, false, false, false, false, false, false, false, false, false, false, false] rfl rfl (any_of HT_.out (by kernel_rfl)) (fun _ _ _ h => h) (Or.inl ⟨by rfl, ?_⟩) ?_ ?_
                  rotate_left
                  · intro w'
                    go_simp
                    with_reducible rfl
                  rotate_left
                  · simp only [Act.put, List.setIfInBounds_toArray, List.set_cons_zero, List.set_cons_succ, i64_w, i32_w]
                    rfl
                  refine pure_ (i := 2) (N := some 46) (v := ?_) (a' := ?_) #[true, false, true, false, false, false, false, false, false, false, false, false, false, false, false, false, false, false, false, false, false, false, false, false, false, false, false] rfl rfl (any_of HT_.out (by kernel_rfl)) (fun _ _ _ h => h) (Or.inl ⟨by rfl, ?_⟩) ?_ ?_
                  rotate_left
                  · intro w'
                    go_simp
                    with_reducible rfl
                  rotate_left
                  · simp only [Act.put, List.setIfInBounds_toArray, List.set_cons_zero, List.set_cons_succ, i64_w, i32_w]
                    rfl
                  refine pure_ (i := 4) (N := some 48) (v := ?_) (a' := ?_) #[true, false, true, false, true, false, false, false, false, false, false, false, false, false, false, false, false, false, false, false, false, false, false, false, false, false, false] rfl rfl (any_of HT_.out (by kernel_rfl)) (fun _ _ _ h => h) (Or.inl ⟨by rfl, ?_⟩) ?_ ?_
                  rotate_left
                  · intro w'
                    go_simp
                    with_reducible rfl
                  rotate_left
                  · simp only [Act.put, List.setIfInBounds_toArray, List.set_cons_zero, List.set_cons_succ, i64_w, i32_w]
                    rfl
                  refine pure_ (i := 6) (N := some 50) (v := ?_) (a' := ?_) #[true, false, true, false, true, false, true, false, false, false, false, false, false, false, false, false, false, false, false, false, false, false, false, false, false, false, false] rfl rfl (any_of HT_.out (by kernel_rfl)) (fun _ _ _ h => h) (Or.inl ⟨by rfl, ?_⟩) ?_ ?_
                  rotate_left
                  · intro w'
                    go_simp
                    with_reducible rfl
                  rotate_left
                  · simp only [Act.put, List.setIfInBounds_toArray, List.set_cons_zero, List.set_cons_succ, i64_w, i32_w]
                    rfl
                  refine pure_ (i := 8) (N := some 52) (v := ?_) (a' := ?_) #[true, false, true, false, true, false, true, false, true, false, false, false, false, false, false, false, false, false, false, false, false, false, false, false, false, false, false] rfl rfl (any_of HT_.out (by kernel_rfl)) (fun _ _ _ h => h) (Or.inl ⟨by rfl, ?_⟩) ?_ ?_
                  rotate_left
                  · intro w'
                    go_simp
                    with_reducible rfl
                  rotate_left
                  · simp only [Act.put, List.setIfInBounds_toArray, List.set_cons_zero, List.set_cons_succ, i64_w, i32_w]
                    rfl
                  refine pure_ (i := 9) (N := some 53) (v := ?_) (a' := ?_) #[true, false, true, false, true, false, true, false, true, true, false, false, false, false, false, false, false, false, false, false, false, false, false, false, false, false, false] rfl rfl (any_of HT_.out (by kernel_rfl)) (fun _ _ _ h => h) (Or.inl ⟨by rfl, ?_⟩) ?_ ?_
                  rotate_left
                  · intro w'
                    go_simp
                    with_reducible rfl
                  rotate_left
                  · simp only [Act.put, List.setIfInBounds_toArray, List.set_cons_zero, List.set_cons_succ, i64_w, i32_w]
                    rfl
                  refine pure_ (i := 12) (N := some 56) (v := ?_) (a' := ?_) #[true, false, true, false, true, false, true, false, true, true, false, false, true, false, false, false, false, false, false, false, false, false, false, false, false, false, false] rfl rfl (any_of HT_.out (by kernel_rfl)) (fun _ _ _ h => h) (Or.inl ⟨by rfl, ?_⟩) ?_ ?_
                  rotate_left
                  · intro w'
                    go_simp
                    with_reducible rfl
                  rotate_left
                  · simp only [Act.put, List.setIfInBounds_toArray, List.set_cons_zero, List.set_cons_succ, i64_w, i32_w]
                    rfl
                  refine pure_ (i := 14) (N := some 58) (v := ?_) (a' := ?_) #[true, false, true, false, true, false, true, false, true, true, false, false, true, false, true, false, false, false, false, false, false, false, false, false, false, false, false] rfl rfl (any_of HT_.out (by kernel_rfl)) (fun _ _ _ h => h) (Or.inl ⟨by rfl, ?_⟩) ?_ ?_
                  rotate_left
                  · intro w'
                    go_simp
                    with_reducible rfl
                  rotate_left
                  · simp only [Act.put, List.setIfInBounds_toArray, List.set_cons_zero, List.set_cons_succ, i64_w, i32_w]
                    rfl
                  refine pure_ (i := 16) (N := some 60) (v := ?_) (a' := ?_) #[true, false, true, false, true, false, true, false, true, true, false, false, true, false, true, false, true, false, false, false, false, false, false, false, false, false, false] rfl rfl (any_of HT_.out (by kernel_rfl)) (fun _ _ _ h => h) (Or.inl ⟨by rfl, ?_⟩) ?_ ?_
                  rotate_left
                  · intro w'
                    go_simp
                    with_reducible rfl
                  rotate_left
                  · simp only [Act.put, List.setIfInBounds_toArray, List.set_cons_zero, List.set_cons_succ, i64_w, i32_w]
                    rfl
                  refine pure_ (i := 17) (N := some 61) (v := ?_) (a' := ?_) #[true, false, true, false, true, false, true, false, true, true, false, false, true, false, true, false, true, true, false, false, false, false, false, false, false, false, false] rfl rfl (any_of HT_.out (by kernel_rfl)) (fun _ _ _ h => h) (Or.inl ⟨by rfl, ?_⟩) ?_ ?_
                  rotate_left
                  · intro w'
                    go_simp
                    with_reducible rfl
                  rotate_left
                  · simp only [Act.put, List.setIfInBounds_toArray, List.set_cons_zero, List.set_cons_succ, i64_w, i32_w]
                    rfl
                  refine pure_ (i := 19) (N := some 63) (v := ?_) (a' := ?_) #[true, false, true, false, true, false, true, false, true, true, false, false, true, false, true, false, true, true, false, true, false, false, false, false, false, false, false] rfl rfl (any_of HT_.out (by kernel_rfl)) (fun _ _ _ h => h) (Or.inl ⟨by rfl, ?_⟩) ?_ ?_
                  rotate_left
                  · intro w'
                    go_simp
                    with_reducible rfl
                  rotate_left
                  · simp only [Act.put, List.setIfInBounds_toArray, List.set_cons_zero, List.set_cons_succ, i64_w, i32_w]
                    rfl
                  refine pure_ (i := 20) (N := some 64) (v := ?_) (a' := ?_) #[true, false, true, false, true, false, true, false, true, true, false, false, true, false, true, false, true, true, false, true, true, false, false, false, false, false, false] rfl rfl (any_of HT_.out (by kernel_rfl)) (fun _ _ _ h => h) (Or.inl ⟨by rfl, ?_⟩) ?_ ?_
                  rotate_left
                  · intro w'
                    go_simp
                    with_reducible rfl
                  rotate_left
                  · simp only [Act.put, List.setIfInBounds_toArray, List.set_cons_zero, List.set_cons_succ, i64_w, i32_w]
                    rfl
                  refine pure_ (i := 21) (N := some 65) (v := ?_) (a' := ?_) #[true, false, true, false, true, false, true, false, true, true, false, false, true, false, true, false, true, true, false, true, true, true, false, false, false, false, false] rfl rfl (any_of HT_.out (by kernel_rfl)) (fun _ _ _ h => h) (Or.inl ⟨by rfl, ?_⟩) ?_ ?_
                  rotate_left
                  · intro w'
                    go_simp
                    with_reducible rfl
                  rotate_left
                  · simp only [Act.put, List.setIfInBounds_toArray, List.set_cons_zero, List.set_cons_succ, i64_w, i32_w]
                    rfl
                  refine pure_ (i := 22) (N := some 66) (v := ?_) (a' := ?_) #[true, false, true, false, true, false, true, false, true, true, false, false, true, false, true, false, true, true, false, true, true, true, true, false, false, false, false] rfl rfl (any_of HT_.out (by kernel_rfl)) (fun _ _ _ h => h) (Or.inl ⟨by rfl, ?_⟩) ?_ ?_
                  rotate_left
                  · intro w'
                    go_simp
                    with_reducible rfl
                  rotate_left
                  · simp only [Act.put, List.setIfInBounds_toArray, List.set_cons_zero, List.set_cons_succ, i64_w, i32_w]
                    rfl
                  refine take_ (i := 10) (N := some 54) (v := ?_) (a' := ?_) #[true, false, true, false, true, false, true, false, true, true, true, false, true, false, true, false, true, true, false, true, true, true, true, false, false, false, false] rfl rfl (take_ofW HT_.out HW_.out (by kernel_rfl)) (fun _ _ _ h => h) (Or.inl ⟨by rfl, ?_⟩) hHeld ?_ ?_
                  rotate_left
                  · intro w' s0
                    go_simp
                    with_reducible rfl
                  rotate_left
                  · simp only [Act.put, List.setIfInBounds_toArray, List.set_cons_zero, List.set_cons_succ, i64_w, i32_w]
                    rfl
                  refine pure_ (i := 11) (N := some 55) (v := ?_) (a' := ?_) #[true, false, true, false, true, false, true, false, true, true, true, true, true, false, true, false, true, true, false, true, true, true, true, false, false, false, false] rfl rfl (any_of HT_.out (by kernel_rfl)) (fun _ _ _ h => h) (Or.inl ⟨by rfl, ?_⟩) ?_ ?_
                  rotate_left
                  · intro w'
                    go_simp
                    with_reducible rfl
                  rotate_left
                  · simp only [Act.put, List.setIfInBounds_toArray, List.set_cons_zero, List.set_cons_succ, i64_w, i32_w]
                    rfl
                  refine one_ (i := 1) (N := some 45) #[true, true, true, false, true, false, true, false, true, true, true, true, true, false, true, false, true, true, false, true, true, true, true, false, false, false, false] rfl rfl (one_of HT_.out (by kernel_rfl)) (by decide) (fun K hK => ?_)
                  refine goes_ Try.func53 (by kernel_rfl) rfl #[.slice (some ad387) l2.length c2, .int .i64 0] (by rfl) rfl rfl (by (try simp only [List.map_toArray, List.map_cons, List.map_nil]); first | done | rfl | (simp only [List.length_drop, List.length_take]; rfl)) ?_
                  with_reducible refine (bailiwickref3_word.calls _ _ l2 0 t397 _ ?side1 ?side2 A18.out).mono ?_
                  (case side1 => repeat (first | exact (Kd.C_below HR2.out HB.out) | (with_reducible refine Kd.C_alloc ?_ _) | (with_reducible refine Kd.C_drewN ?_ _) | (with_reducible refine Kd.C_drew ?_)))
                  (case side2 => exact HC2.out)
                  rintro e w' ⟨rfl, ⟨nd, rfl⟩⟩
                  refine ⟨_, rfl, ?_⟩
                  refine hK.out _ _ (((HB.out.cell (World.block_lt_of_cell? w _ hw401_0)).trans hw401_0)) (fun hHeld => ?_)
                  clear hK K
                  refine norm_ (a' := ?_) ?_ ?_
                  rotate_left
                  · show Act.put _ (some 45) _ = _
                    simp only [Act.put, List.setIfInBounds_toArray, List.set_cons_zero, List.set_cons_succ, i64_w, i32_w]
                    rfl
                  refine one_ (i := 3) (N := some 47) #[true, true, true, true, true, false, true, false, true, true, true, true, true, false, true, false, true, true, false, true, true, true, true, false, false, false, false] rfl rfl (one_of HT_.out (by kernel_rfl)) (by decide) (fun K hK => ?_)
                  refine goes_ Try.func53 (by kernel_rfl) rfl #[.slice (some ad387) l2.length c2, .int .i64 2] (by rfl) rfl rfl (by (try simp only [List.map_toArray, List.map_cons, List.map_nil]); first | done | rfl | (simp only [List.length_drop, List.length_take]; rfl)) ?_
                  with_reducible refine (bailiwickref3_word.calls _ _ l2 2 t398 _ ?side1 ?side2 A19.out).mono ?_
                  (case side1 => repeat (first | exact (Kd.C_below HR2.out (by repeat (first | (with_reducible first | exact HB.out | apply below_alloc | apply pw_below_drewN | apply below_drew1 | refine below_set ?_ GE386.out) | exact HB.out))) | (with_reducible refine Kd.C_alloc ?_ _) | (with_reducible refine Kd.C_drewN ?_ _) | (with_reducible refine Kd.C_drew ?_)))
                  (case side2 => exact HC2.out)
                  rintro e w' ⟨rfl, ⟨nd, rfl⟩⟩
                  refine ⟨_, rfl, ?_⟩
                  refine hK.out _ _ (((HB.out.cell (World.block_lt_of_cell? w _ hw401_0)).trans hw401_0)) (fun hHeld => ?_)
                  clear hK K
                  refine norm_ (a' := ?_) ?_ ?_
                  rotate_left
                  · show Act.put _ (some 47) _ = _
                    simp only [Act.put, List.setIfInBounds_toArray, List.set_cons_zero, List.set_cons_succ, i64_w, i32_w]
                    rfl
                  refine one_ (i := 5) (N := some 49) #[true, true, true, true, true, true, true, false, true, true, true, true, true, false, true, false, true, true, false, true, true, true, true, false, false, false, false] rfl rfl (one_of HT_.out (by kernel_rfl)) (by decide) (fun K hK => ?_)
                  refine goes_ Try.func54 (by kernel_rfl) rfl #[.slice (some ad387) l2.length c2, .int .i64 4] (by rfl) rfl rfl (by (try simp only [List.map_toArray, List.map_cons, List.map_nil]); first | done | rfl | (simp only [List.length_drop, List.length_take]; rfl)) ?_
                  with_reducible refine (bailiwickref3_long.calls _ _ l2 4 t399 _ ?side1 ?side2 A20.out).mono ?_
                  (case side1 => repeat (first | exact (Kd.C_below HR2.out (by repeat (first | (with_reducible first | exact HB.out | apply below_alloc | apply pw_below_drewN | apply below_drew1 | refine below_set ?_ GE386.out) | exact HB.out))) | (with_reducible refine Kd.C_alloc ?_ _) | (with_reducible refine Kd.C_drewN ?_ _) | (with_reducible refine Kd.C_drew ?_)))
                  (case side2 => exact HC2.out)
                  rintro e w' ⟨rfl, ⟨nd, rfl⟩⟩
                  refine ⟨_, rfl, ?_⟩
                  refine hK.out _ _ (((HB.out.cell (World.block_lt_of_cell? w _ hw401_0)).trans hw401_0)) (fun hHeld => ?_)
                  clear hK K
                  refine norm_ (a' := ?_) ?_ ?_
                  rotate_left
                  · show Act.put _ (some 49) _ = _
                    simp only [Act.put, List.setIfInBounds_toArray, List.set_cons_zero, List.set_cons_succ, i64_w, i32_w]
                    rfl
                  refine one_ (i := 7) (N := some 51) #[true, true, true, true, true, true, true, true, true, true, true, true, true, false, true, false, true, true, false, true, true, true, true, false, false, false, false] rfl rfl (one_of HT_.out (by kernel_rfl)) (by decide) (fun K hK => ?_)
                  refine goes_ Try.func54 (by kernel_rfl) rfl #[.slice (some ad387) l2.length c2, .int .i64 8] (by rfl) rfl rfl (by (try simp only [List.map_toArray, List.map_cons, List.map_nil]); first | done | rfl | (simp only [List.length_drop, List.length_take]; rfl)) ?_
                  with_reducible refine (bailiwickref3_long.calls _ _ l2 8 t400 _ ?side1 ?side2 A21.out).mono ?_
                  (case side1 => repeat (first | exact (Kd.C_below HR2.out (by repeat (first | (with_reducible first | exact HB.out | apply below_alloc | apply pw_below_drewN | apply below_drew1 | refine below_set ?_ GE386.out) | exact HB.out))) | (with_reducible refine Kd.C_alloc ?_ _) | (with_reducible refine Kd.C_drewN ?_ _) | (with_reducible refine Kd.C_drew ?_)))
                  (case side2 => exact HC2.out)
                  rintro e w' ⟨rfl, ⟨nd, rfl⟩⟩
                  refine ⟨_, rfl, ?_⟩
                  refine hK.out _ _ (((HB.out.cell (World.block_lt_of_cell? w _ hw401_0)).trans hw401_0)) (fun hHeld => ?_)
                  clear hK K
                  refine norm_ (a' := ?_) ?_ ?_
                  rotate_left
                  · show Act.put _ (some 51) _ = _
                    simp only [Act.put, List.setIfInBounds_toArray, List.set_cons_zero, List.set_cons_succ, i64_w, i32_w]
                    rfl
                  refine one_ (i := 13) (N := some 57) #[true, true, true, true, true, true, true, true, true, true, true, true, true, true, true, false, true, true, false, true, true, true, true, false, false, false, false] rfl rfl (one_of HT_.out (by kernel_rfl)) (by decide) (fun K hK => ?_)
                  refine goes_ Try.func53 (by kernel_rfl) rfl #[.slice (some ad387) l2.length c2, .int .i64 14] (by rfl) rfl rfl (by (try simp only [List.map_toArray, List.map_cons, List.map_nil]); first | done | rfl | (simp only [List.length_drop, List.length_take]; rfl)) ?_
                  with_reducible refine (bailiwickref3_word.calls _ _ l2 14 t402 _ ?side1 ?side2 A23.out).mono ?_
                  (case side1 => repeat (first | exact (Kd.C_below HR2.out (by repeat (first | (with_reducible first | exact HB.out | apply below_alloc | apply pw_below_drewN | apply below_drew1 | refine below_set ?_ GE386.out) | exact HB.out))) | (with_reducible refine Kd.C_alloc ?_ _) | (with_reducible refine Kd.C_drewN ?_ _) | (with_reducible refine Kd.C_drew ?_)))
                  (case side2 => exact HC2.out)
                  rintro e w' ⟨rfl, ⟨nd, rfl⟩⟩
                  refine ⟨_, rfl, ?_⟩
                  refine hK.out _ _ (((HB.out.cell (World.block_lt_of_cell? w _ hw401_0)).trans hw401_0)) (fun hHeld => ?_)
                  clear hK K
                  refine norm_ (a' := ?_) ?_ ?_
                  rotate_left
                  · show Act.put _ (some 57) _ = _
                    simp only [Act.put, List.setIfInBounds_toArray, List.set_cons_zero, List.set_cons_succ, i64_w, i32_w]
                    rfl
                  refine one_ (i := 15) (N := some 59) #[true, true, true, true, true, true, true, true, true, true, true, true, true, true, true, true, true, true, false, true, true, true, true, false, false, false, false] rfl rfl (one_of HT_.out (by kernel_rfl)) (by decide) (fun K hK => ?_)
                  refine goes_ Try.func53 (by kernel_rfl) rfl #[.slice (some ad387) l2.length c2, .int .i64 18] (by rfl) rfl rfl (by (try simp only [List.map_toArray, List.map_cons, List.map_nil]); first | done | rfl | (simp only [List.length_drop, List.length_take]; rfl)) ?_
                  with_reducible refine (bailiwickref3_word.calls _ _ l2 18 t403 _ ?side1 ?side2 A24.out).mono ?_
                  (case side1 => repeat (first | exact (Kd.C_below HR2.out (by repeat (first | (with_reducible first | exact HB.out | apply below_alloc | apply pw_below_drewN | apply below_drew1 | refine below_set ?_ GE386.out) | exact HB.out))) | (with_reducible refine Kd.C_alloc ?_ _) | (with_reducible refine Kd.C_drewN ?_ _) | (with_reducible refine Kd.C_drew ?_)))
                  (case side2 => exact HC2.out)
                  rintro e w' ⟨rfl, ⟨nd, rfl⟩⟩
                  refine ⟨_, rfl, ?_⟩
                  refine hK.out _ _ (((HB.out.cell (World.block_lt_of_cell? w _ hw401_0)).trans hw401_0)) (fun hHeld => ?_)
                  clear hK K
                  refine norm_ (a' := ?_) ?_ ?_
                  rotate_left
                  · show Act.put _ (some 59) _ = _
                    simp only [Act.put, List.setIfInBounds_toArray, List.set_cons_zero, List.set_cons_succ, i64_w, i32_w]
                    rfl
                  refine one_ (i := 18) (N := some 62) #[true, true, true, true, true, true, true, true, true, true, true, true, true, true, true, true, true, true, true, true, true, true, true, false, false, false, false] rfl rfl (one_of HT_.out (by kernel_rfl)) (by decide) (fun K hK => ?_)
                  refine goes_ Try.func22 (by kernel_rfl) rfl #[.slice (some ad387) l2.length c2, .int .i64 20, .int .i64 (wrap64 ((wrap64 ((rd l2 12) / 16)) * 4))] (by rfl) rfl rfl (by (try simp only [List.map_toArray, List.map_cons, List.map_nil]); first | done | rfl | (simp only [List.length_drop, List.length_take]; rfl)) ?_
                  with_reducible refine (bailiwickref1_Part.calls kj7 _ _ l2 20 (wrap64 ((wrap64 ((rd l2 12) / 16)) * 4)) t404 _ ?side1 ?side2 A25.out).mono ?_
                  (case side1 => repeat (first | exact (Kd.C_below HR2.out (by repeat (first | (with_reducible first | exact HB.out | apply below_alloc | apply pw_below_drewN | apply below_drew1 | refine below_set ?_ GE386.out) | exact HB.out))) | (with_reducible refine Kd.C_alloc ?_ _) | (with_reducible refine Kd.C_drewN ?_ _) | (with_reducible refine Kd.C_drew ?_)))
                  (case side2 => exact HC2.out)
                  rintro e w31 ⟨v405, rfl, ho0, hb⟩
                  refine ⟨_, rfl, ?_⟩
                  have n0_ := Aside0.mk (Kd.R_elder' (by (with_reducible repeat (first | apply Kd.R_alloc | apply Kd.R_drewN | apply Kd.R_drew)); exact HO391.out) (Kd.R_base ho0) hb)
                  have n1_ := Aside0.mk (Kd.R_lower (Kd.R_new' ho0 (Kd.R_lt (by (with_reducible repeat (first | apply Kd.R_alloc | apply Kd.R_drewN | apply Kd.R_drew)); exact HO391.out))) (below_size (by repeat (first | (with_reducible first | exact HB.out | apply below_alloc | apply pw_below_drewN | apply below_drew1 | refine below_set ?_ GE386.out) | exact HB.out))))
                  have n2_ := Aside0.mk (blk_below (g := gb386) (o := .cells #[.int .i64 0, .int .i64 0, .int .u32 0, .int .u32 0, .int .i64 0, .int .i64 0, .int .i64 0, .slice none 0 0, .slice none 0 0] 46 (0, 0)) (by (with_reducible repeat (first | refine blk_drewN ?_ _ | refine blk_drew ?_ | refine blk_alloc ?_ _)); exact BK386.out) hb)
                  have n3_ := Aside0.mk (Kd.C_below (by repeat (first | (with_reducible exact HRl395.out) | (with_reducible refine Kd.C_alloc ?_ _) | (with_reducible refine Kd.C_drewN ?_ _) | (with_reducible refine Kd.C_drew ?_) | exact HRl395.out)) hb)
                  have n4_ := Aside0.mk (below_step (by repeat (first | (with_reducible first | exact HB.out | apply below_alloc | apply pw_below_drewN | apply below_drew1 | refine below_set ?_ GE386.out) | exact HB.out)) hb)
                  clear HO391
                  clear BK386
                  clear HRl395
                  clear HB
                  have HO391 := n0_
                  have HO406 := n1_
                  have BK386 := n2_
                  have HRl395 := n3_
                  have HB := n4_
                  clear n0_ n1_ n2_ n3_ n4_
                  (try clear hb)
                  (try clear hb2)
                  (try clear hk)
                  (try clear hi)
                  (try clear ho0)
                  refine hK.out _ _ (((HB.out.cell (World.block_lt_of_cell? w _ hw401_0)).trans hw401_0)) (fun hHeld => ?_)
                  clear hK K
                  refine norm_ (a' := ?_) ?_ ?_
                  rotate_left
                  · show Act.put _ (some 62) _ = _
                    simp only [Act.put, List.setIfInBounds_toArray, List.set_cons_zero, List.set_cons_succ, i64_w, i32_w]
                    rfl
                  refine one_ (i := 23) (N := some 67) #[true, true, true, true, true, true, true, true, true, true, true, true, true, true, true, true, true, true, true, true, true, true, true, true, false, false, false] rfl rfl (one_of HT_.out (by kernel_rfl)) (by decide) (fun K hK => ?_)
                  refine goes_ Try.func22 (by kernel_rfl) rfl #[.slice (some ad387) l2.length c2, .int .i64 (wrap64 ((wrap64 ((rd l2 12) / 16)) * 4)), .int .i64 (l2.length : Int)] (by rfl) rfl rfl (by (try simp only [List.map_toArray, List.map_cons, List.map_nil]); first | done | rfl | (simp only [List.length_drop, List.length_take]; rfl)) ?_
                  with_reducible refine (bailiwickref1_Part.calls kj7 _ _ l2 (wrap64 ((wrap64 ((rd l2 12) / 16)) * 4)) (l2.length : Int) t407 _ ?side1 ?side2 A26.out).mono ?_
                  (case side1 => repeat (first | exact (Kd.C_below HR2.out HB.out) | (with_reducible refine Kd.C_alloc ?_ _) | (with_reducible refine Kd.C_drewN ?_ _) | (with_reducible refine Kd.C_drew ?_)))
                  (case side2 => exact HC2.out)
                  rintro e w32 ⟨v408, rfl, ho0, hb⟩
                  refine ⟨_, rfl, ?_⟩
                  have n0_ := Aside0.mk (Kd.R_elder' (by (with_reducible repeat (first | apply Kd.R_alloc | apply Kd.R_drewN | apply Kd.R_drew)); exact HO391.out) (Kd.R_base ho0) hb)
                  have n1_ := Aside0.mk (Kd.R_elder' (by (with_reducible repeat (first | apply Kd.R_alloc | apply Kd.R_drewN | apply Kd.R_drew)); exact HO406.out) (Kd.R_base ho0) hb)
                  have n2_ := Aside0.mk (Kd.R_lower (Kd.R_new' (Kd.R_new' ho0 (Kd.R_lt (by (with_reducible repeat (first | apply Kd.R_alloc | apply Kd.R_drewN | apply Kd.R_drew)); exact HO391.out))) (Kd.R_lt (by (with_reducible repeat (first | apply Kd.R_alloc | apply Kd.R_drewN | apply Kd.R_drew)); exact HO406.out))) (below_size (by repeat (first | (with_reducible first | exact HB.out | apply below_alloc | apply pw_below_drewN | apply below_drew1 | refine below_set ?_ GE386.out) | exact HB.out))))
                  have n3_ := Aside0.mk (blk_below (g := gb386) (o := .cells #[.int .i64 0, .int .i64 0, .int .u32 0, .int .u32 0, .int .i64 0, .int .i64 0, .int .i64 0, .slice none 0 0, .slice none 0 0] 46 (0, 0)) (by (with_reducible repeat (first | refine blk_drewN ?_ _ | refine blk_drew ?_ | refine blk_alloc ?_ _)); exact BK386.out) hb)
                  have n4_ := Aside0.mk (Kd.C_below (by repeat (first | (with_reducible exact HRl395.out) | (with_reducible refine Kd.C_alloc ?_ _) | (with_reducible refine Kd.C_drewN ?_ _) | (with_reducible refine Kd.C_drew ?_) | exact HRl395.out)) hb)
                  have n5_ := Aside0.mk (below_step (by repeat (first | (with_reducible first | exact HB.out | apply below_alloc | apply pw_below_drewN | apply below_drew1 | refine below_set ?_ GE386.out) | exact HB.out)) hb)
                  clear HO391
                  clear HO406
                  clear BK386
                  clear HRl395
                  clear HB
                  have HO391 := n0_
                  have HO406 := n1_
                  have HO409 := n2_
                  have BK386 := n3_
                  have HRl395 := n4_
                  have HB := n5_
                  clear n0_ n1_ n2_ n3_ n4_ n5_
                  (try clear hb)
                  (try clear hb2)
                  (try clear hk)
                  (try clear hi)
                  (try clear ho0)
                  obtain ⟨Ao33, co33, eo33⟩ := Kd.R_slice HO409.out
                  (first | subst eo33 | (injection eo33 with f1_ f2_ f3_; have f4_ := f1_.symm; have f5_ := f3_.symm; clear f1_ f2_ f3_; subst f4_; subst f5_))
                  obtain ⟨Ao34, co34, eo34⟩ := Kd.R_slice HO406.out
                  (first | subst eo34 | (injection eo34 with f1_ f2_ f3_; have f4_ := f1_.symm; have f5_ := f3_.symm; clear f1_ f2_ f3_; subst f4_; subst f5_))
                  refine hK.out _ _ (((HB.out.cell (World.block_lt_of_cell? w _ hw401_0)).trans hw401_0)) (fun hHeld => ?_)
                  clear hK K
                  refine norm_ (a' := ?_) ?_ ?_
                  rotate_left
                  · show Act.put _ (some 67) _ = _
                    simp only [Act.put, List.setIfInBounds_toArray, List.set_cons_zero, List.set_cons_succ, i64_w, i32_w]
                    rfl
                  refine pure_ (i := 24) (N := some 68) (v := ?_) (a' := ?_) #[true, true, true, true, true, true, true, true, true, true, true, true, true, true, true, true, true, true, true, true, true, true, true, true, true, false, false] rfl rfl (any_of HT_.out (by kernel_rfl)) (fun _ _ _ h => h) (Or.inl ⟨by rfl, ?_⟩) ?_ ?_
                  rotate_left
                  · intro w'
                    go_simp
                    with_reducible rfl
                  rotate_left
                  · simp only [Act.put, List.setIfInBounds_toArray, List.set_cons_zero, List.set_cons_succ, i64_w, i32_w]
                    rfl
                  refine one_ (i := 25) (N := none) #[true, true, true, true, true, true, true, true, true, true, true, true, true, true, true, true, true, true, true, true, true, true, true, true, true, true, false] rfl rfl (one_of HT_.out (by kernel_rfl)) (by decide) (fun K hK => ?_)
                  have hs35 : w32.cell? ⟨gb386, 0, none⟩ = some (.int .i64 0) := (blk_cell BK386.out 0).trans rfl
                  have hfs35 := blk_frozen BK386.out 0
                  have hs36 : w32.cell? ⟨gb386, 1, none⟩ = some (.int .i64 0) := (blk_cell BK386.out 1).trans rfl
                  have hfs36 := blk_frozen BK386.out 1
                  have hs37 : w32.cell? ⟨gb386, 2, none⟩ = some (.int .u32 0) := (blk_cell BK386.out 2).trans rfl
                  have hfs37 := blk_frozen BK386.out 2
                  have hs38 : w32.cell? ⟨gb386, 3, none⟩ = some (.int .u32 0) := (blk_cell BK386.out 3).trans rfl
                  have hfs38 := blk_frozen BK386.out 3
                  have hs39 : w32.cell? ⟨gb386, 4, none⟩ = some (.int .i64 0) := (blk_cell BK386.out 4).trans rfl
                  have hfs39 := blk_frozen BK386.out 4
                  have hs40 : w32.cell? ⟨gb386, 5, none⟩ = some (.int .i64 0) := (blk_cell BK386.out 5).trans rfl
                  have hfs40 := blk_frozen BK386.out 5
                  have hs41 : w32.cell? ⟨gb386, 6, none⟩ = some (.int .i64 0) := (blk_cell BK386.out 6).trans rfl
                  have hfs41 := blk_frozen BK386.out 6
                  have hs42 : w32.cell? ⟨gb386, 7, none⟩ = some (.slice none 0 0) := (blk_cell BK386.out 7).trans rfl
                  have hfs42 := blk_frozen BK386.out 7
                  have hs43 : w32.cell? ⟨gb386, 8, none⟩ = some (.slice none 0 0) := (blk_cell BK386.out 8).trans rfl
                  have hfs43 := blk_frozen BK386.out 8
                  refine skip_ (w1 := ?_) (by rfl) rfl ?_ ?_
                  rotate_left
                  · go_simp
                    rfl
                  refine hK.out _ _ (((cell_far (p := ⟨gb386, _, none⟩) (by first | exact Nat.ne_of_lt (Nat.lt_of_lt_of_le (by have := World.block_lt_of_cell? _ _ hw401_0; first | rwa [add_block] at this | exact this) GW386.out) | (rw [add_block]; exact Nat.ne_of_lt (Nat.lt_of_lt_of_le (by have := World.block_lt_of_cell? _ _ hw401_0; first | rwa [add_block] at this | exact this) GW386.out)) | (show (Addr.add _ _).block ≠ _; rw [add_block]; exact Nat.ne_of_lt (Nat.lt_of_lt_of_le (by have := World.block_lt_of_cell? _ _ hw401_0; first | rwa [add_block] at this | exact this) GW386.out)) | (dsimp only; exact Nat.ne_of_lt (Nat.lt_of_lt_of_le (by have := World.block_lt_of_cell? _ _ hw401_0; first | rwa [add_block] at this | exact this) GW386.out))) _).trans (((cell_far (p := ⟨gb386, _, none⟩) (by first | exact Nat.ne_of_lt (Nat.lt_of_lt_of_le (by have := World.block_lt_of_cell? _ _ hw401_0; first | rwa [add_block] at this | exact this) GW386.out) | (rw [add_block]; exact Nat.ne_of_lt (Nat.lt_of_lt_of_le (by have := World.block_lt_of_cell? _ _ hw401_0; first | rwa [add_block] at this | exact this) GW386.out)) | (show (Addr.add _ _).block ≠ _; rw [add_block]; exact Nat.ne_of_lt (Nat.lt_of_lt_of_le (by have := World.block_lt_of_cell? _ _ hw401_0; first | rwa [add_block] at this | exact this) GW386.out)) | (dsimp only; exact Nat.ne_of_lt (Nat.lt_of_lt_of_le (by have := World.block_lt_of_cell? _ _ hw401_0; first | rwa [add_block] at this | exact this) GW386.out))) _).trans (((cell_far (p := ⟨gb386, _, none⟩) (by first | exact Nat.ne_of_lt (Nat.lt_of_lt_of_le (by have := World.block_lt_of_cell? _ _ hw401_0; first | rwa [add_block] at this | exact this) GW386.out) | (rw [add_block]; exact Nat.ne_of_lt (Nat.lt_of_lt_of_le (by have := World.block_lt_of_cell? _ _ hw401_0; first | rwa [add_block] at this | exact this) GW386.out)) | (show (Addr.add _ _).block ≠ _; rw [add_block]; exact Nat.ne_of_lt (Nat.lt_of_lt_of_le (by have := World.block_lt_of_cell? _ _ hw401_0; first | rwa [add_block] at this | exact this) GW386.out)) | (dsimp only; exact Nat.ne_of_lt (Nat.lt_of_lt_of_le (by have := World.block_lt_of_cell? _ _ hw401_0; first | rwa [add_block] at this | exact this) GW386.out))) _).trans (((cell_far (p := ⟨gb386, _, none⟩) (by first | exact Nat.ne_of_lt (Nat.lt_of_lt_of_le (by have := World.block_lt_of_cell? _ _ hw401_0; first | rwa [add_block] at this | exact this) GW386.out) | (rw [add_block]; exact Nat.ne_of_lt (Nat.lt_of_lt_of_le (by have := World.block_lt_of_cell? _ _ hw401_0; first | rwa [add_block] at this | exact this) GW386.out)) | (show (Addr.add _ _).block ≠ _; rw [add_block]; exact Nat.ne_of_lt (Nat.lt_of_lt_of_le (by have := World.block_lt_of_cell? _ _ hw401_0; first | rwa [add_block] at this | exact this) GW386.out)) | (dsimp only; exact Nat.ne_of_lt (Nat.lt_of_lt_of_le (by have := World.block_lt_of_cell? _ _ hw401_0; first | rwa [add_block] at this | exact this) GW386.out))) _).trans (((cell_far (p := ⟨gb386, _, none⟩) (by first | exact Nat.ne_of_lt (Nat.lt_of_lt_of_le (by have := World.block_lt_of_cell? _ _ hw401_0; first | rwa [add_block] at this | exact this) GW386.out) | (rw [add_block]; exact Nat.ne_of_lt (Nat.lt_of_lt_of_le (by have := World.block_lt_of_cell? _ _ hw401_0; first | rwa [add_block] at this | exact this) GW386.out)) | (show (Addr.add _ _).block ≠ _; rw [add_block]; exact Nat.ne_of_lt (Nat.lt_of_lt_of_le (by have := World.block_lt_of_cell? _ _ hw401_0; first | rwa [add_block] at this | exact this) GW386.out)) | (dsimp only; exact Nat.ne_of_lt (Nat.lt_of_lt_of_le (by have := World.block_lt_of_cell? _ _ hw401_0; first | rwa [add_block] at this | exact this) GW386.out))) _).trans (((cell_far (p := ⟨gb386, _, none⟩) (by first | exact Nat.ne_of_lt (Nat.lt_of_lt_of_le (by have := World.block_lt_of_cell? _ _ hw401_0; first | rwa [add_block] at this | exact this) GW386.out) | (rw [add_block]; exact Nat.ne_of_lt (Nat.lt_of_lt_of_le (by have := World.block_lt_of_cell? _ _ hw401_0; first | rwa [add_block] at this | exact this) GW386.out)) | (show (Addr.add _ _).block ≠ _; rw [add_block]; exact Nat.ne_of_lt (Nat.lt_of_lt_of_le (by have := World.block_lt_of_cell? _ _ hw401_0; first | rwa [add_block] at this | exact this) GW386.out)) | (dsimp only; exact Nat.ne_of_lt (Nat.lt_of_lt_of_le (by have := World.block_lt_of_cell? _ _ hw401_0; first | rwa [add_block] at this | exact this) GW386.out))) _).trans (((cell_far (p := ⟨gb386, _, none⟩) (by first | exact Nat.ne_of_lt (Nat.lt_of_lt_of_le (by have := World.block_lt_of_cell? _ _ hw401_0; first | rwa [add_block] at this | exact this) GW386.out) | (rw [add_block]; exact Nat.ne_of_lt (Nat.lt_of_lt_of_le (by have := World.block_lt_of_cell? _ _ hw401_0; first | rwa [add_block] at this | exact this) GW386.out)) | (show (Addr.add _ _).block ≠ _; rw [add_block]; exact Nat.ne_of_lt (Nat.lt_of_lt_of_le (by have := World.block_lt_of_cell? _ _ hw401_0; first | rwa [add_block] at this | exact this) GW386.out)) | (dsimp only; exact Nat.ne_of_lt (Nat.lt_of_lt_of_le (by have := World.block_lt_of_cell? _ _ hw401_0; first | rwa [add_block] at this | exact this) GW386.out))) _).trans (((cell_far (p := ⟨gb386, _, none⟩) (by first | exact Nat.ne_of_lt (Nat.lt_of_lt_of_le (by have := World.block_lt_of_cell? _ _ hw401_0; first | rwa [add_block] at this | exact this) GW386.out) | (rw [add_block]; exact Nat.ne_of_lt (Nat.lt_of_lt_of_le (by have := World.block_lt_of_cell? _ _ hw401_0; first | rwa [add_block] at this | exact this) GW386.out)) | (show (Addr.add _ _).block ≠ _; rw [add_block]; exact Nat.ne_of_lt (Nat.lt_of_lt_of_le (by have := World.block_lt_of_cell? _ _ hw401_0; first | rwa [add_block] at this | exact this) GW386.out)) | (dsimp only; exact Nat.ne_of_lt (Nat.lt_of_lt_of_le (by have := World.block_lt_of_cell? _ _ hw401_0; first | rwa [add_block] at this | exact this) GW386.out))) _).trans (((cell_far (p := ⟨gb386, _, none⟩) (by first | exact Nat.ne_of_lt (Nat.lt_of_lt_of_le (by have := World.block_lt_of_cell? _ _ hw401_0; first | rwa [add_block] at this | exact this) GW386.out) | (rw [add_block]; exact Nat.ne_of_lt (Nat.lt_of_lt_of_le (by have := World.block_lt_of_cell? _ _ hw401_0; first | rwa [add_block] at this | exact this) GW386.out)) | (show (Addr.add _ _).block ≠ _; rw [add_block]; exact Nat.ne_of_lt (Nat.lt_of_lt_of_le (by have := World.block_lt_of_cell? _ _ hw401_0; first | rwa [add_block] at this | exact this) GW386.out)) | (dsimp only; exact Nat.ne_of_lt (Nat.lt_of_lt_of_le (by have := World.block_lt_of_cell? _ _ hw401_0; first | rwa [add_block] at this | exact this) GW386.out))) _).trans (hHeld))))))))))))))))))) (fun hHeld => ?_)
                  clear hK K
                  refine pure_ (i := 26) (N := some 7) (v := ?_) (a' := ?_) #[true, true, true, true, true, true, true, true, true, true, true, true, true, true, true, true, true, true, true, true, true, true, true, true, true, true, true] rfl rfl (any_of HT_.out (by kernel_rfl)) (fun _ _ _ h => h) (Or.inl ⟨by rfl, ?_⟩) ?_ ?_
                  rotate_left
                  · intro w'
                    go_simp
                    with_reducible rfl
                  rotate_left
                  · simp only [Act.put, List.setIfInBounds_toArray, List.set_cons_zero, List.set_cons_succ, i64_w, i32_w]
                    rfl
                  refine done_ (done_of HT_.out (by kernel_rfl)) ?_
                  try go_wp2
                  refine bodyPost_ret (results_ct rfl _ _ gb386 46 #[.int .i64 t397, .int .i64 t398, .int .u32 t399, .int .u32 t400, .int .i64 (wrap64 (rd l2 13)), .int .i64 t402, .int .i64 t403, .slice Ao34 t404.length co34, .slice Ao33 t407.length co33] (0, 0) _ rfl (by (with_reducible repeat (first | refine blk_drewN ?_ _ | refine blk_drew ?_ | refine blk_alloc ?_ _)); refine blk_put (cs := #[.int .i64 t397, .int .i64 t398, .int .u32 t399, .int .u32 t400, .int .i64 (wrap64 (rd l2 13)), .int .i64 t402, .int .i64 t403, .slice Ao34 t404.length co34, .slice none 0 0]) ?_ 8 _ rfl; (with_reducible repeat (first | refine blk_drewN ?_ _ | refine blk_drew ?_ | refine blk_alloc ?_ _)); refine blk_put (cs := #[.int .i64 t397, .int .i64 t398, .int .u32 t399, .int .u32 t400, .int .i64 (wrap64 (rd l2 13)), .int .i64 t402, .int .i64 t403, .slice none 0 0, .slice none 0 0]) ?_ 7 _ rfl; (with_reducible repeat (first | refine blk_drewN ?_ _ | refine blk_drew ?_ | refine blk_alloc ?_ _)); refine blk_put (cs := #[.int .i64 t397, .int .i64 t398, .int .u32 t399, .int .u32 t400, .int .i64 (wrap64 (rd l2 13)), .int .i64 t402, .int .i64 0, .slice none 0 0, .slice none 0 0]) ?_ 6 _ rfl; (with_reducible repeat (first | refine blk_drewN ?_ _ | refine blk_drew ?_ | refine blk_alloc ?_ _)); refine blk_put (cs := #[.int .i64 t397, .int .i64 t398, .int .u32 t399, .int .u32 t400, .int .i64 (wrap64 (rd l2 13)), .int .i64 0, .int .i64 0, .slice none 0 0, .slice none 0 0]) ?_ 5 _ rfl; (with_reducible repeat (first | refine blk_drewN ?_ _ | refine blk_drew ?_ | refine blk_alloc ?_ _)); refine blk_put (cs := #[.int .i64 t397, .int .i64 t398, .int .u32 t399, .int .u32 t400, .int .i64 0, .int .i64 0, .int .i64 0, .slice none 0 0, .slice none 0 0]) ?_ 4 _ rfl; (with_reducible repeat (first | refine blk_drewN ?_ _ | refine blk_drew ?_ | refine blk_alloc ?_ _)); refine blk_put (cs := #[.int .i64 t397, .int .i64 t398, .int .u32 t399, .int .u32 0, .int .i64 0, .int .i64 0, .int .i64 0, .slice none 0 0, .slice none 0 0]) ?_ 3 _ rfl; (with_reducible repeat (first | refine blk_drewN ?_ _ | refine blk_drew ?_ | refine blk_alloc ?_ _)); refine blk_put (cs := #[.int .i64 t397, .int .i64 t398, .int .u32 0, .int .u32 0, .int .i64 0, .int .i64 0, .int .i64 0, .slice none 0 0, .slice none 0 0]) ?_ 2 _ rfl; (with_reducible repeat (first | refine blk_drewN ?_ _ | refine blk_drew ?_ | refine blk_alloc ?_ _)); refine blk_put (cs := #[.int .i64 t397, .int .i64 0, .int .u32 0, .int .u32 0, .int .i64 0, .int .i64 0, .int .i64 0, .slice none 0 0, .slice none 0 0]) ?_ 1 _ rfl; (with_reducible repeat (first | refine blk_drewN ?_ _ | refine blk_drew ?_ | refine blk_alloc ?_ _)); refine blk_put (cs := #[.int .i64 0, .int .i64 0, .int .u32 0, .int .u32 0, .int .i64 0, .int .i64 0, .int .i64 0, .slice none 0 0, .slice none 0 0]) ?_ 0 _ rfl; (with_reducible repeat (first | refine blk_drewN ?_ _ | refine blk_drew ?_ | refine blk_alloc ?_ _)); exact BK386.out) Try.underlying46 rfl (by kernel_rfl)) rfl ?_
                  exact ⟨_, _, by first | rfl | (simp [errW_none, errW_some] <;> rfl) | (simp [*, errW_none, errW_some] <;> rfl), by (with_reducible repeat (first | apply Kd.R_alloc | apply Kd.R_drewN | apply Kd.R_drew)); exact Kd.R_mono (Kd.R_far (p := ⟨gb386, 8, none⟩) (Kd.R_far (p := ⟨gb386, 7, none⟩) (Kd.R_far (p := ⟨gb386, 6, none⟩) (Kd.R_far (p := ⟨gb386, 5, none⟩) (Kd.R_far (p := ⟨gb386, 4, none⟩) (Kd.R_far (p := ⟨gb386, 3, none⟩) (Kd.R_far (p := ⟨gb386, 2, none⟩) (Kd.R_far (p := ⟨gb386, 1, none⟩) (Kd.R_far (p := ⟨gb386, 0, none⟩) (Kd.R_types HO406.out BK386.out (by decide)) (fun _ hk => hk.2) (.int .i64 t397)) (fun _ hk => hk.2) (.int .i64 t398)) (fun _ hk => hk.2) (.int .u32 t399)) (fun _ hk => hk.2) (.int .u32 t400)) (fun _ hk => hk.2) (.int .i64 (wrap64 (rd l2 13)))) (fun _ hk => hk.2) (.int .i64 t402)) (fun _ hk => hk.2) (.int .i64 t403)) (fun _ hk => hk.2) (.slice Ao34 t404.length co34)) (fun _ hk => hk.2) (.slice Ao33 t407.length co33)) (fun _ hk => hk.1.2), by (with_reducible repeat (first | apply Kd.R_alloc | apply Kd.R_drewN | apply Kd.R_drew)); exact Kd.R_mono (Kd.R_far (p := ⟨gb386, 8, none⟩) (Kd.R_far (p := ⟨gb386, 7, none⟩) (Kd.R_far (p := ⟨gb386, 6, none⟩) (Kd.R_far (p := ⟨gb386, 5, none⟩) (Kd.R_far (p := ⟨gb386, 4, none⟩) (Kd.R_far (p := ⟨gb386, 3, none⟩) (Kd.R_far (p := ⟨gb386, 2, none⟩) (Kd.R_far (p := ⟨gb386, 1, none⟩) (Kd.R_far (p := ⟨gb386, 0, none⟩) (Kd.R_types HO409.out BK386.out (by decide)) (fun _ hk => hk.2) (.int .i64 t397)) (fun _ hk => hk.2) (.int .i64 t398)) (fun _ hk => hk.2) (.int .u32 t399)) (fun _ hk => hk.2) (.int .u32 t400)) (fun _ hk => hk.2) (.int .i64 (wrap64 (rd l2 13)))) (fun _ hk => hk.2) (.int .i64 t402)) (fun _ hk => hk.2) (.int .i64 t403)) (fun _ hk => hk.2) (.slice Ao34 t404.length co34)) (fun _ hk => hk.2) (.slice Ao33 t407.length co33)) (fun _ hk => hk.1.2), by repeat (first | (with_reducible first | exact HB.out | apply below_alloc | apply pw_below_drewN | apply below_drew1 | refine below_set ?_ GE386.out) | exact HB.out)⟩
                · rw [if_neg c22] at H
                  exact absurd H (by simp)
              · rw [if_neg c17] at H
                have c17b0 : (t396 == 65535) = false := beq_eq_false_iff_ne.mpr c17
                have c17b1 : (t396 != 65535) = true := bne_iff_ne.mpr c17
                simp only [Option.some.injEq, Prod.mk.injEq] at H
                obtain ⟨rfl, rfl, rfl, rfl, rfl, rfl, rfl, rfl, rfl, rfl⟩ := H
                go_wp2_with (first | ((with_reducible refine gate_callee (f := 50) rfl ?_); refine goesL_ (some 38) rfl rfl Try.func50 (by kernel_rfl) rfl #[.int .u32 a0, .int .u32 a1, .int .i64 6, .int .i64 (l2.length : Int)] rfl (by (try simp only [List.map_toArray, List.map_cons, List.map_nil]); first | done | rfl | (simp only [List.length_drop, List.length_take]; rfl)) ?_; (with_reducible refine (bailiwickref3_Pseudo.calls kj7 a0 a1 6 (l2.length : Int) t389 _ A15.out).mono ?_); rintro e w44 ⟨v390, rfl, ho0, hb⟩; refine ⟨_, rfl, ?_⟩; have n0_ := Aside0.mk (Kd.R_lower ho0 (below_size (by repeat (first | (with_reducible first | exact HB.out | apply below_alloc | apply pw_below_drewN | apply below_drew1 | refine below_set ?_ GE386.out) | exact HB.out)))); have n1_ := Aside0.mk (blk_below (g := gb386) (o := .cells #[.int .i64 0, .int .i64 0, .int .u32 0, .int .u32 0, .int .i64 0, .int .i64 0, .int .i64 0, .slice none 0 0, .slice none 0 0] 46 (0, 0)) (by (with_reducible repeat (first | refine blk_drewN ?_ _ | refine blk_drew ?_ | refine blk_alloc ?_ _)); exact BK386.out) hb); have n2_ := Aside0.mk (below_step (by repeat (first | (with_reducible first | exact HB.out | apply below_alloc | apply pw_below_drewN | apply below_drew1 | refine below_set ?_ GE386.out) | exact HB.out)) hb); clear BK386; clear HB; have HO391 := n0_; have BK386 := n1_; have HB := n2_; clear n0_ n1_ n2_; (try clear hb); (try clear hb2); (try clear hk); (try clear hi); (try clear ho0); obtain ⟨Ao45, co45, eo45⟩ := Kd.R_slice HO391.out; subst eo45) | ((with_reducible refine gate_dst (N := 40) rfl ?_); refine Kd.N_lit (Kd.slice 5 (Kd.int .u8)) _ 23 ?hg (N' := 40) ?hd (xs := ([t389, l2] : List (List Int))) (inner := [.slice Ao45 t389.length co45, .slice (some ad387) l2.length c2]) (ok := fun _ => True) (okp := fun _ => True) ?hr ?hp (fun _ _ => trivial) trivial (Below.refl _ _) (Nat.le_refl _) (by simp) ?_; (case hd => rfl); (case hg => rfl); (case hr => first | (go_simp; done) | (go_simp; rfl)); (case hp => exact (Reps.one (show Kd.FK (Kd.slice 5 (Kd.int .u8)) _ _ t389 [.slice Ao45 t389.length co45] from Kd.FK_slice_mk (by exact (Kd.R_reads' HO391.out).2.1) (Kd.F_mono (Kd.C_F (Kd.heap_int .u8) (by repeat (first | exact (Kd.R_reads' HO391.out).2.2 | (with_reducible refine Kd.C_alloc ?_ _) | (with_reducible refine Kd.C_drewN ?_ _) | (with_reducible refine Kd.C_drew ?_)))) (fun _ _ => trivial))) (Reps.one (show Kd.FK (Kd.slice 5 (Kd.int .u8)) _ _ l2 [.slice (some ad387) l2.length c2] from Kd.FK_slice_mk (by exact HC2.out) (Kd.F_mono (Kd.C_F (Kd.heap_int .u8) (by repeat (first | exact (Kd.C_below HR2.out HB.out) | (with_reducible refine Kd.C_alloc ?_ _) | (with_reducible refine Kd.C_drewN ?_ _) | (with_reducible refine Kd.C_drew ?_)))) (fun _ _ => trivial))) (Reps.none _ _)))); intro vl395 w46 ho hb hg_ hnew_; clear hg_ hnew_; (first | rw [← Ny392.out] at ho | (simp only [Int.reduceToNat] at ho; rw [← Ny392.out] at ho)); obtain ⟨Al395, cl395, el395⟩ := Kd.N_slice ho; subst el395; have hr := (Kd.N_reads' ho).2.2; have hl := (Kd.N_reads' ho).2.1; clear ho; have n0_ := Aside0.mk (Kd.R_below (by (with_reducible repeat (first | apply Kd.R_alloc | apply Kd.R_drewN | apply Kd.R_drew)); exact HO391.out) hb); have n1_ := Aside0.mk (blk_below (g := gb386) (o := .cells #[.int .i64 0, .int .i64 0, .int .u32 0, .int .u32 0, .int .i64 0, .int .i64 0, .int .i64 0, .slice none 0 0, .slice none 0 0] 46 (0, 0)) (by (with_reducible repeat (first | refine blk_drewN ?_ _ | refine blk_drew ?_ | refine blk_alloc ?_ _)); exact BK386.out) hb); have n2_ := Aside0.mk (below_step (by repeat (first | (with_reducible first | exact HB.out | apply below_alloc | apply pw_below_drewN | apply below_drew1 | refine below_set ?_ GE386.out) | exact HB.out)) hb); have n3_ := Aside0.mk (hr); have n4_ := Aside0.mk (hl); clear HO391; clear BK386; clear HB; have HO391 := n0_; have BK386 := n1_; have HB := n2_; have HRl395 := n3_; have HCl395 := n4_; clear n0_ n1_ n2_ n3_ n4_; clear hb hr hl) | ((with_reducible refine gate_callee (f := 49) rfl ?_); refine goesL_ (some 41) rfl rfl Try.func49 (by kernel_rfl) rfl #[.slice Al395 y392.length cl395] rfl (by (try simp only [List.map_toArray, List.map_cons, List.map_nil]); first | done | rfl | (simp only [List.length_drop, List.length_take]; rfl)) ?_; (with_reducible refine (bailiwickref1_Sum.calls kj7 _ _ y392 t396 _ ?side1 ?side2 A16.out).mono ?_); (case side1 => repeat (first | exact (by repeat (first | (with_reducible exact HRl395.out) | (with_reducible refine Kd.C_alloc ?_ _) | (with_reducible refine Kd.C_drewN ?_ _) | (with_reducible refine Kd.C_drew ?_) | exact HRl395.out)) | (with_reducible refine Kd.C_alloc ?_ _) | (with_reducible refine Kd.C_drewN ?_ _) | (with_reducible refine Kd.C_drew ?_))); (case side2 => exact HCl395.out); rintro e w' ⟨rfl, ⟨nd, rfl⟩⟩; refine ⟨_, rfl, ?_⟩; (try (rw [drewN_self w46]; generalize hq_ : World.drewN w46 _ = w46; have n0_ : Aside0 (Kd.R (Kd.int .u8) 5 w46 w.heap.size (fun _ => True) (.slice Ao45 t389.length co45) t389) := ⟨by rw [← hq_]; exact (by (with_reducible repeat (first | apply Kd.R_alloc | apply Kd.R_drewN | apply Kd.R_drew)); exact HO391.out)⟩; have n1_ : Aside0 (w46.heap[gb386]? = some (.cells #[.int .i64 0, .int .i64 0, .int .u32 0, .int .u32 0, .int .i64 0, .int .i64 0, .int .i64 0, .slice none 0 0, .slice none 0 0] 46 (0, 0))) := ⟨by rw [← hq_]; exact (by (with_reducible repeat (first | refine blk_drewN ?_ _ | refine blk_drew ?_ | refine blk_alloc ?_ _)); exact BK386.out)⟩; have n2_ : Aside0 (Below w.heap.size w w46) := ⟨by rw [← hq_]; exact (by repeat (first | (with_reducible first | exact HB.out | apply below_alloc | apply pw_below_drewN | apply below_drew1 | refine below_set ?_ GE386.out) | exact HB.out))⟩; have n3_ : Aside0 (Kd.C (Kd.slice 5 (Kd.int .u8)) w46 Al395 y392.length y392) := ⟨by rw [← hq_]; exact (by repeat (first | (with_reducible exact HRl395.out) | (with_reducible refine Kd.C_alloc ?_ _) | (with_reducible refine Kd.C_drewN ?_ _) | (with_reducible refine Kd.C_drew ?_) | exact HRl395.out))⟩; clear HO391 BK386 HB HRl395 hq_; have HO391 := n0_; have BK386 := n1_; have HB := n2_; have HRl395 := n3_; clear n0_ n1_ n2_ n3_)); have hcz47_0 : w46.cell? ⟨gb386, 0, none⟩ = some (.int .i64 0) := (blk_cell BK386.out 0).trans rfl; have hcz47_1 : w46.cell? ⟨gb386, 1, none⟩ = some (.int .i64 0) := (blk_cell BK386.out 1).trans rfl; have hcz47_2 : w46.cell? ⟨gb386, 2, none⟩ = some (.int .u32 0) := (blk_cell BK386.out 2).trans rfl; have hcz47_3 : w46.cell? ⟨gb386, 3, none⟩ = some (.int .u32 0) := (blk_cell BK386.out 3).trans rfl; have hcz47_4 : w46.cell? ⟨gb386, 4, none⟩ = some (.int .i64 0) := (blk_cell BK386.out 4).trans rfl; have hcz47_5 : w46.cell? ⟨gb386, 5, none⟩ = some (.int .i64 0) := (blk_cell BK386.out 5).trans rfl; have hcz47_6 : w46.cell? ⟨gb386, 6, none⟩ = some (.int .i64 0) := (blk_cell BK386.out 6).trans rfl; have hcz47_7 : w46.cell? ⟨gb386, 7, none⟩ = some (.slice none 0 0) := (blk_cell BK386.out 7).trans rfl; have hcz47_8 : w46.cell? ⟨gb386, 8, none⟩ = some (.slice none 0 0) := (blk_cell BK386.out 8).trans rfl; have hfz47_0 := blk_frozen BK386.out 0; have hfz47_1 := blk_frozen BK386.out 1; have hfz47_2 := blk_frozen BK386.out 2; have hfz47_3 := blk_frozen BK386.out 3; have hfz47_4 := blk_frozen BK386.out 4; have hfz47_5 := blk_frozen BK386.out 5; have hfz47_6 := blk_frozen BK386.out 6; have hfz47_7 := blk_frozen BK386.out 7; have hfz47_8 := blk_frozen BK386.out 8))
                refine bodyPost_ret (results_ct rfl _ _ gb386 46 #[.int .i64 0, .int .i64 0, .int .u32 0, .int .u32 0, .int .i64 0, .int .i64 0, .int .i64 0, .slice none 0 0, .slice none 0 0] (0, 0) _ rfl (by (with_reducible repeat (first | refine blk_drewN ?_ _ | refine blk_drew ?_ | refine blk_alloc ?_ _)); refine blk_put (cs := #[.int .i64 0, .int .i64 0, .int .u32 0, .int .u32 0, .int .i64 0, .int .i64 0, .int .i64 0, .slice none 0 0, .slice none 0 0]) ?_ 8 _ rfl; (with_reducible repeat (first | refine blk_drewN ?_ _ | refine blk_drew ?_ | refine blk_alloc ?_ _)); refine blk_put (cs := #[.int .i64 0, .int .i64 0, .int .u32 0, .int .u32 0, .int .i64 0, .int .i64 0, .int .i64 0, .slice none 0 0, .slice none 0 0]) ?_ 7 _ rfl; (with_reducible repeat (first | refine blk_drewN ?_ _ | refine blk_drew ?_ | refine blk_alloc ?_ _)); refine blk_put (cs := #[.int .i64 0, .int .i64 0, .int .u32 0, .int .u32 0, .int .i64 0, .int .i64 0, .int .i64 0, .slice none 0 0, .slice none 0 0]) ?_ 6 _ rfl; (with_reducible repeat (first | refine blk_drewN ?_ _ | refine blk_drew ?_ | refine blk_alloc ?_ _)); refine blk_put (cs := #[.int .i64 0, .int .i64 0, .int .u32 0, .int .u32 0, .int .i64 0, .int .i64 0, .int .i64 0, .slice none 0 0, .slice none 0 0]) ?_ 5 _ rfl; (with_reducible repeat (first | refine blk_drewN ?_ _ | refine blk_drew ?_ | refine blk_alloc ?_ _)); refine blk_put (cs := #[.int .i64 0, .int .i64 0, .int .u32 0, .int .u32 0, .int .i64 0, .int .i64 0, .int .i64 0, .slice none 0 0, .slice none 0 0]) ?_ 4 _ rfl; (with_reducible repeat (first | refine blk_drewN ?_ _ | refine blk_drew ?_ | refine blk_alloc ?_ _)); refine blk_put (cs := #[.int .i64 0, .int .i64 0, .int .u32 0, .int .u32 0, .int .i64 0, .int .i64 0, .int .i64 0, .slice none 0 0, .slice none 0 0]) ?_ 3 _ rfl; (with_reducible repeat (first | refine blk_drewN ?_ _ | refine blk_drew ?_ | refine blk_alloc ?_ _)); refine blk_put (cs := #[.int .i64 0, .int .i64 0, .int .u32 0, .int .u32 0, .int .i64 0, .int .i64 0, .int .i64 0, .slice none 0 0, .slice none 0 0]) ?_ 2 _ rfl; (with_reducible repeat (first | refine blk_drewN ?_ _ | refine blk_drew ?_ | refine blk_alloc ?_ _)); refine blk_put (cs := #[.int .i64 0, .int .i64 0, .int .u32 0, .int .u32 0, .int .i64 0, .int .i64 0, .int .i64 0, .slice none 0 0, .slice none 0 0]) ?_ 1 _ rfl; (with_reducible repeat (first | refine blk_drewN ?_ _ | refine blk_drew ?_ | refine blk_alloc ?_ _)); refine blk_put (cs := #[.int .i64 0, .int .i64 0, .int .u32 0, .int .u32 0, .int .i64 0, .int .i64 0, .int .i64 0, .slice none 0 0, .slice none 0 0]) ?_ 0 _ rfl; (with_reducible repeat (first | refine blk_drewN ?_ _ | refine blk_drew ?_ | refine blk_alloc ?_ _)); exact BK386.out) Try.underlying46 rfl (by kernel_rfl)) rfl ?_
                exact ⟨_, _, by first | rfl | (simp [errW_none, errW_some] <;> rfl) | (simp [*, errW_none, errW_some] <;> rfl), by first | exact Kd.R_nil _ _ _ _ _ | exact Kd.N_nil _ _ _ _ _ | exact Kd.V_nil _ _ _ _ _ | exact Kd.Q_nil _ _ _ _ _ | exact Kd.S_nil _ _ _ _ _, by first | exact Kd.R_nil _ _ _ _ _ | exact Kd.N_nil _ _ _ _ _ | exact Kd.V_nil _ _ _ _ _ | exact Kd.Q_nil _ _ _ _ _ | exact Kd.S_nil _ _ _ _ _, by repeat (first | (with_reducible first | exact HB.out | apply below_alloc | apply pw_below_drewN | apply below_drew1 | refine below_set ?_ GE386.out) | exact HB.out)⟩
    · rw [if_neg c7] at H
      exact absurd H (by simp)

end Go.Proofs.Ythnhpbplglmmmaa.P
