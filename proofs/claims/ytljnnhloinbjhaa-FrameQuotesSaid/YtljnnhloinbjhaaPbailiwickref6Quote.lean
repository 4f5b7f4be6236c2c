-- Laid by a program (wip/tools/myprint.py) out of the translation. Not trusted: Lean checks it.
import Derived.Test.YtljnnhloinbjhaaP0
import Derived.Test.YtljnnhloinbjhaaPbailiwickref2Long
namespace Go.Proofs.Ytljnnhloinbjhaa.P
open Go.RowKit Go.Proofs.YtljnnhloinbjhaaW.PrintWords Go.Proofs.YtljnnhloinbjhaaW.PrintLast
set_option linter.unusedVariables false
set_option linter.unusedSimpArgs false

/-! ### bailiwickref6_Quote: function 29 -/
mutual
def bailiwickref6_Quote.j0 : Nat → List Int → Bool → Option (Int × Int × Int × Int × Int × Bool)
 | 0, _, _ => none
 | k + 1, x0, x22 => if x22 = true then (some (0, 0, 0, 0, 0, false)) else (if 0 < (x0.length : Int) then (if (x0.length : Int) < (wrap64 ((wrap64 ((wrap64 (Go.bits .and .u8 (rd x0 0) 15)) * 4)) + 8)) then (bailiwickref6_Quote.j1 k x0 (wrap64 ((wrap64 (Go.bits .and .u8 (rd x0 0) 15)) * 4)) true) else (if 6 < (x0.length : Int) then (if (Go.bits .and .u8 (rd x0 6) 31) = 0 then (if 7 < (x0.length : Int) then (bailiwickref6_Quote.j1 k x0 (wrap64 ((wrap64 (Go.bits .and .u8 (rd x0 0) 15)) * 4)) ((rd x0 7) != 0)) else (none)) else (bailiwickref6_Quote.j1 k x0 (wrap64 ((wrap64 (Go.bits .and .u8 (rd x0 0) 15)) * 4)) true)) else (none))) else (none))
def bailiwickref6_Quote.j1 : Nat → List Int → Int → Bool → Option (Int × Int × Int × Int × Int × Bool)
 | 0, _, _, _ => none
 | k + 1, x0, x4, x47 => if x47 = true then (some (0, 0, 0, 0, 0, false)) else (if 9 < (x0.length : Int) then ((bailiwickref2_Long.f x0 12).bind fun t476 => ((bailiwickref2_Long.f x0 16).bind fun t477 => (if (wrap64 (rd x0 9)) = 17 then (bailiwickref6_Quote.j2 k x0 x4 (wrap64 (rd x0 9)) ((wrap64 (rd x0 9)) == 17) (wrap64 (rd x0 9)) t476 0 t477 0) else (bailiwickref6_Quote.j2 k x0 x4 (wrap64 (rd x0 9)) ((wrap64 (rd x0 9)) == 6) (wrap64 (rd x0 9)) t476 0 t477 0)))) else (none))
def bailiwickref6_Quote.j2 : Nat → List Int → Int → Int → Bool → Int → Int → Int → Int → Int → Option (Int × Int × Int × Int × Int × Bool)
 | 0, _, _, _, _, _, _, _, _, _ => none
 | k + 1, x0, x4, x61, x63, x479000, x479001, x479002, x479003, x479004 => if x63 = true then (if 0 ≤ x4 then (if x4 < (x0.length : Int) then (if 0 ≤ (wrap64 (x4 + 1)) then (if (wrap64 (x4 + 1)) < (x0.length : Int) then (if 0 ≤ (wrap64 (x4 + 2)) then (if (wrap64 (x4 + 2)) < (x0.length : Int) then (if 0 ≤ (wrap64 (x4 + 3)) then (if (wrap64 (x4 + 3)) < (x0.length : Int) then (some (x479000, x479001, Go.bits .or .i64 (wrap64 ((wrap64 (rd x0 x4)) * 256)) (wrap64 (rd x0 (wrap64 (x4 + 1)))), x479003, Go.bits .or .i64 (wrap64 ((wrap64 (rd x0 (wrap64 (x4 + 2)))) * 256)) (wrap64 (rd x0 (wrap64 (x4 + 3)))), true)) else (none)) else (none)) else (none)) else (none)) else (none)) else (none)) else (none)) else (none)) else (if x61 = 1 then (if 0 ≤ x4 then (if x4 < (x0.length : Int) then (if (rd x0 x4) = 8 then (if 0 ≤ (wrap64 (x4 + 1)) then (if (wrap64 (x4 + 1)) < (x0.length : Int) then (if (rd x0 (wrap64 (x4 + 1))) = 0 then (if 0 ≤ (wrap64 (x4 + 4)) then (if (wrap64 (x4 + 4)) < (x0.length : Int) then (if 0 ≤ (wrap64 (x4 + 5)) then (if (wrap64 (x4 + 5)) < (x0.length : Int) then (some (x479000, x479001, Go.bits .or .i64 (wrap64 ((wrap64 (rd x0 (wrap64 (x4 + 4)))) * 256)) (wrap64 (rd x0 (wrap64 (x4 + 5)))), x479003, Go.bits .or .i64 (wrap64 ((wrap64 (rd x0 (wrap64 (x4 + 4)))) * 256)) (wrap64 (rd x0 (wrap64 (x4 + 5)))), true)) else (none)) else (none)) else (none)) else (none)) else (some (0, 0, 0, 0, 0, false))) else (none)) else (none)) else (if (rd x0 x4) = 0 then (if 0 ≤ (wrap64 (x4 + 1)) then (if (wrap64 (x4 + 1)) < (x0.length : Int) then (if (rd x0 (wrap64 (x4 + 1))) = 0 then (if 0 ≤ (wrap64 (x4 + 4)) then (if (wrap64 (x4 + 4)) < (x0.length : Int) then (if 0 ≤ (wrap64 (x4 + 5)) then (if (wrap64 (x4 + 5)) < (x0.length : Int) then (some (x479000, x479001, Go.bits .or .i64 (wrap64 ((wrap64 (rd x0 (wrap64 (x4 + 4)))) * 256)) (wrap64 (rd x0 (wrap64 (x4 + 5)))), x479003, Go.bits .or .i64 (wrap64 ((wrap64 (rd x0 (wrap64 (x4 + 4)))) * 256)) (wrap64 (rd x0 (wrap64 (x4 + 5)))), true)) else (none)) else (none)) else (none)) else (none)) else (some (0, 0, 0, 0, 0, false))) else (none)) else (none)) else (some (0, 0, 0, 0, 0, false)))) else (none)) else (none)) else (some (0, 0, 0, 0, 0, false)))
end
def bailiwickref6_Quote.f (k : Nat) (l0 : List Int) : Option (Int × Int × Int × Int × Int × Bool) := if (l0.length : Int) < 20 then (bailiwickref6_Quote.j0 k l0 true) else (if 0 < (l0.length : Int) then (if ((rd l0 0) / 16) = 4 then (bailiwickref6_Quote.j0 k l0 (decide ((Go.bits .and .u8 (rd l0 0) 15) < 5))) else (bailiwickref6_Quote.j0 k l0 true)) else (none))
theorem bailiwickref6_Quote.mono_l : ∀ k, (∀ y0 y1, LeO (bailiwickref6_Quote.j0 k y0 y1) (bailiwickref6_Quote.j0 (k + 1) y0 y1)) ∧ (∀ y0 y1 y2, LeO (bailiwickref6_Quote.j1 k y0 y1 y2) (bailiwickref6_Quote.j1 (k + 1) y0 y1 y2)) ∧ (∀ y0 y1 y2 y3 y4 y5 y6 y7 y8, LeO (bailiwickref6_Quote.j2 k y0 y1 y2 y3 y4 y5 y6 y7 y8) (bailiwickref6_Quote.j2 (k + 1) y0 y1 y2 y3 y4 y5 y6 y7 y8))
 | 0 => ⟨fun _ _ r h => by simp [bailiwickref6_Quote.j0] at h, fun _ _ _ r h => by simp [bailiwickref6_Quote.j1] at h, fun _ _ _ _ _ _ _ _ _ r h => by simp [bailiwickref6_Quote.j2] at h⟩
 | k + 1 => by
  obtain ⟨ih0, ih1, ih2⟩ := bailiwickref6_Quote.mono_l k
  refine ⟨?_, ?_, ?_⟩
  ·intro y0 y1
   unfold bailiwickref6_Quote.j0
   repeat' first
   | (with_reducible exact ih0 _ _)
   | (with_reducible exact ih1 _ _ _)
   | (with_reducible exact ih2 _ _ _ _ _ _ _ _ _)
   | (with_reducible exact LeO.refl _)
   | (with_reducible exact LeO.none _)
   | (with_reducible refine LeO.ite ?_ ?_)
   | (with_reducible refine LeO.bind ?_ (fun _ => ?_))
   | exact ih0 _ _
   | exact ih1 _ _ _
   | exact ih2 _ _ _ _ _ _ _ _ _
   | exact LeO.none _
   | refine LeO.ite ?_ ?_
   | refine LeO.bind ?_ (fun _ => ?_)
  ·intro y0 y1 y2
   unfold bailiwickref6_Quote.j1
   repeat' first
   | (with_reducible exact ih0 _ _)
   | (with_reducible exact ih1 _ _ _)
   | (with_reducible exact ih2 _ _ _ _ _ _ _ _ _)
   | (with_reducible exact LeO.refl _)
   | (with_reducible exact LeO.none _)
   | (with_reducible refine LeO.ite ?_ ?_)
   | (with_reducible refine LeO.bind ?_ (fun _ => ?_))
   | exact ih0 _ _
   | exact ih1 _ _ _
   | exact ih2 _ _ _ _ _ _ _ _ _
   | exact LeO.none _
   | refine LeO.ite ?_ ?_
   | refine LeO.bind ?_ (fun _ => ?_)
  ·intro y0 y1 y2 y3 y4 y5 y6 y7 y8
   unfold bailiwickref6_Quote.j2
   repeat' first
   | (with_reducible exact ih0 _ _)
   | (with_reducible exact ih1 _ _ _)
   | (with_reducible exact ih2 _ _ _ _ _ _ _ _ _)
   | (with_reducible exact LeO.refl _)
   | (with_reducible exact LeO.none _)
   | (with_reducible refine LeO.ite ?_ ?_)
   | (with_reducible refine LeO.bind ?_ (fun _ => ?_))
   | exact ih0 _ _
   | exact ih1 _ _ _
   | exact ih2 _ _ _ _ _ _ _ _ _
   | exact LeO.none _
   | refine LeO.ite ?_ ?_
   | refine LeO.bind ?_ (fun _ => ?_)
theorem bailiwickref6_Quote.mono : ∀ a0 k, LeO (bailiwickref6_Quote.f k a0) (bailiwickref6_Quote.f (k + 1) a0) := by
 intro a0 k
 obtain ⟨ih0, ih1, ih2⟩ := bailiwickref6_Quote.mono_l k
 unfold bailiwickref6_Quote.f
 repeat' first
   | (with_reducible exact ih0 _ _)
   | (with_reducible exact ih1 _ _ _)
   | (with_reducible exact ih2 _ _ _ _ _ _ _ _ _)
   | (with_reducible exact LeO.refl _)
   | (with_reducible exact LeO.none _)
   | (with_reducible refine LeO.ite ?_ ?_)
   | (with_reducible refine LeO.bind ?_ (fun _ => ?_))
   | exact ih0 _ _
   | exact ih1 _ _ _
   | exact ih2 _ _ _ _ _ _ _ _ _
   | exact LeO.none _
   | refine LeO.ite ?_ ?_
   | refine LeO.bind ?_ (fun _ => ?_)
def bailiwickref6_Quote.T6 : Bool × List (List Nat × List Nat) := (true, [([], []), ([0], [0]), ([1], [1]), ([2], [2]), ([], []), ([4], [4]), ([5], [5]), ([], []), ([7, 5], [7]), ([8], [8]), ([3, 6, 9], [3, 6, 9]), ([], []), ([11, 10, 8, 0, 1, 2, 3, 4, 5, 6, 7, 8, 9, 10, 11], [10, 11])])
def bailiwickref6_Quote.B6 : List Nat := [0, 1, 3, 7, 0, 16, 48, 0, 176, 432, 1023, 0, 4095]
theorem bailiwickref6_Quote.tab6 : rtab .any (opsOf Try.f29 6) = bailiwickref6_Quote.T6 := by kernel_rfl
theorem bailiwickref6_Quote.bits6 : waitsOk bailiwickref6_Quote.T6.2 bailiwickref6_Quote.B6 = true := by kernel_rfl
def bailiwickref6_Quote.T11 : Bool × List (List Nat × List Nat) := (true, [([], []), ([], []), ([0, 1], [0, 1]), ([2], [2]), ([3], [3]), ([4], [4]), ([], []), ([], []), ([7], [7]), ([6, 8], [6, 8]), ([9], [9]), ([10], [10]), ([5, 11], [5, 11]), ([0, 1, 2, 3, 4, 5, 6, 7, 8, 9, 10, 11, 12], []), ([13, 0, 1, 2, 3, 4, 5, 6, 7, 8, 9, 10, 11, 12], [13]), ([14, 12, 0, 1, 2, 3, 4, 5, 6, 7, 8, 9, 10, 11, 12], [12, 14])])
def bailiwickref6_Quote.B11 : List Nat := [0, 0, 3, 7, 15, 31, 0, 0, 128, 448, 960, 1984, 4095, 8191, 16383, 32767]
theorem bailiwickref6_Quote.tab11 : rtab .any (opsOf Try.f29 11) = bailiwickref6_Quote.T11 := by kernel_rfl
theorem bailiwickref6_Quote.bits11 : waitsOk bailiwickref6_Quote.T11.2 bailiwickref6_Quote.B11 = true := by kernel_rfl
def bailiwickref6_Quote.T12 : Bool × List (List Nat × List Nat) := (true, [([], []), ([], []), ([1], [1]), ([0, 2], [0, 2]), ([3], [3]), ([4], [4]), ([5], [5]), ([], []), ([], []), ([8], [8]), ([7, 9], [7, 9]), ([10], [10]), ([11], [11]), ([6, 12], [6, 12]), ([0, 1, 2, 3, 4, 5, 6, 7, 8, 9, 10, 11, 12, 13], []), ([14, 0, 1, 2, 3, 4, 5, 6, 7, 8, 9, 10, 11, 12, 13], [14]), ([15, 13, 0, 1, 2, 3, 4, 5, 6, 7, 8, 9, 10, 11, 12, 13], [13, 15])])
def bailiwickref6_Quote.B12 : List Nat := [0, 0, 2, 7, 15, 31, 63, 0, 0, 256, 896, 1920, 3968, 8191, 16383, 32767, 65535]
theorem bailiwickref6_Quote.tab12 : rtab .any (opsOf Try.f29 12) = bailiwickref6_Quote.T12 := by kernel_rfl
theorem bailiwickref6_Quote.bits12 : waitsOk bailiwickref6_Quote.T12.2 bailiwickref6_Quote.B12 = true := by kernel_rfl
def bailiwickref6_Quote.T16 : Bool × List (List Nat × List Nat) := (true, [([], []), ([], []), ([1], [1]), ([0, 2], [0, 2]), ([3], [3]), ([4], [4]), ([5], [5]), ([], []), ([], []), ([8], [8]), ([7, 9], [7, 9]), ([10], [10]), ([11], [11]), ([6, 12], [6, 12]), ([0, 1, 2, 3, 4, 5, 6, 7, 8, 9, 10, 11, 12, 13], []), ([14, 0, 1, 2, 3, 4, 5, 6, 7, 8, 9, 10, 11, 12, 13], [14]), ([15, 13, 0, 1, 2, 3, 4, 5, 6, 7, 8, 9, 10, 11, 12, 13], [13, 15])])
def bailiwickref6_Quote.B16 : List Nat := [0, 0, 2, 7, 15, 31, 63, 0, 0, 256, 896, 1920, 3968, 8191, 16383, 32767, 65535]
theorem bailiwickref6_Quote.tab16 : rtab .any (opsOf Try.f29 16) = bailiwickref6_Quote.T16 := by kernel_rfl
theorem bailiwickref6_Quote.bits16 : waitsOk bailiwickref6_Quote.T16.2 bailiwickref6_Quote.B16 = true := by kernel_rfl
set_option maxHeartbeats 8000000 in
set_option maxRecDepth 100000 in
theorem bailiwickref6_Quote.calls (k : Nat) (A0 : Option Addr) (c0 : Nat) (l0 : List Int) (r1 : Int) (r2 : Int) (r3 : Int) (r4 : Int) (r5 : Int) (r6 : Bool) (w : World) (hr0 : Kd.C (Kd.int .u8) w A0 l0.length l0) (hc0 : l0.length ≤ c0) (h : bailiwickref6_Quote.f k l0 = some (r1, r2, r3, r4, r5, r6)) :
  Calls Try.prog 29 #[.slice A0 l0.length c0] w fun e w' => e = .returned (.tuple #[.agg #[.int .i64 r1, .int .u32 r2, .int .i64 r3, .int .u32 r4, .int .i64 r5], .bool r6]) ∧ Below w.heap.size w w' := by
 have hu35 := Try.underlying35
 have hu27 := Try.underlying27
 have HR0 := Aside0.mk hr0
 have HC0 := Aside0.mk hc0
 clear hr0 hc0
 have HB := Aside0.mk (Below.refl w.heap.size w)
 have H : (if (l0.length : Int) < 20 then (bailiwickref6_Quote.j0 k l0 true) else (if 0 < (l0.length : Int) then (if ((rd l0 0) / 16) = 4 then (bailiwickref6_Quote.j0 k l0 (decide ((Go.bits .and .u8 (rd l0 0) 15) < 5))) else (bailiwickref6_Quote.j0 k l0 true)) else (none))) = some (r1, r2, r3, r4, r5, r6) := h
 clear h
 have HC2 := Aside0.mk H
 clear H
 go_enter Try.func29, Try.ntmps29
 go_upto_region 1 with (first | ((with_reducible refine gate_dst (N := 2) rfl ?_); refine box_event ?hg (N := 2) ?hd (cs := #[.int .i64 0, .int .u32 0, .int .i64 0, .int .u32 0, .int .i64 0]) (t := 35) ?hr ?_; (case hd => rfl); (case hg => rfl); (case hr => first | (go_simp; done) | (go_simp; rfl)); intro gb469 hg w3 hbox hb; have n0_ := Aside0.mk (below_step (by repeat (first | (with_reducible first | exact HB.out | apply below_alloc | apply pw_below_drewN | apply below_drew1) | exact HB.out)) hb); have n1_ := Aside0.mk (hbox); have n2_ := Aside0.mk ((by rw [hg]; exact (below_size (by repeat (first | (with_reducible first | exact HB.out | apply below_alloc | apply pw_below_drewN | apply below_drew1) | exact HB.out))) : w.heap.size ≤ gb469)); have n3_ := Aside0.mk ((by rw [hg]; exact (below_size (by repeat (first | (with_reducible first | exact HB.out | apply below_alloc | apply pw_below_drewN | apply below_drew1) | exact HB.out))) : w.heap.size ≤ gb469)); clear HB; have HB := n0_; have BK469 := n1_; have GW469 := n2_; have GE469 := n3_; clear n0_ n1_ n2_ n3_; clear hb hbox hg))
 (try simp only [Act.put, List.setIfInBounds_toArray, List.set_cons_zero, List.set_cons_succ])
 go_cut [22] (fun v22 wc => ∃ (kq : Nat) (x22_1 : Bool), v22 = .bool x22_1 ∧ Aside0 (bailiwickref6_Quote.j0 kq l0 x22_1 = some (r1, r2, r3, r4, r5, r6)) ∧ Aside0 (kq ≤ k) ∧ Aside0 (wc.heap[gb469]? = some (.cells #[.int .i64 0, .int .u32 0, .int .i64 0, .int .u32 0, .int .i64 0] 35 (0, 0))) ∧ Aside0 (Below w.heap.size w wc))
 case first =>
  have H := HC2.out
  clear HC2
  by_cases c4 : (l0.length : Int) < 20
  ·rw [if_pos c4] at H
   have c4b0 : decide ((l0.length : Int) < 20) = true := decide_eq_true c4
   have c4b1 : decide (l0.length < 20) = true := decide_eq_true (by omega)
   clear c4
   (first | rw [c4b0] | (simp only [i64_w, i32_w]; rw [c4b0]) | skip)
   have H' := Aside0.mk H
   clear H
   go_wp2
   go_meet
   case rel => exact ⟨_, (true), (by first | rfl | (simp; done) | (simp [*]; done)), H', ⟨by first | omega | exact Nat.le_refl _⟩, ⟨by (with_reducible repeat (first | refine blk_drewN ?_ _ | refine blk_drew ?_ | refine blk_alloc ?_ _)); exact BK469.out⟩, ⟨by repeat (first | (with_reducible first | exact HB.out | apply below_alloc | apply pw_below_drewN | apply below_drew1 | refine below_set ?_ GE469.out) | exact HB.out)⟩⟩
  ·rw [if_neg c4] at H
   have c4b0 : decide ((l0.length : Int) < 20) = false := decide_eq_false c4
   have c4b1 : decide (l0.length < 20) = false := decide_eq_false (by omega)
   clear c4
   (first | rw [c4b0] | (simp only [i64_w, i32_w]; rw [c4b0]) | skip)
   by_cases c5 : 0 < (l0.length : Int)
   ·rw [if_pos c5] at H
    have c5b0 : decide (0 < (l0.length : Int)) = true := decide_eq_true c5
    have c5b1 : decide (0 < l0.length) = true := decide_eq_true (by omega)
    clear c5
    by_cases c6 : ((rd l0 0) / 16) = 4
    ·rw [if_pos c6] at H
     have c6b0 : (((rd l0 0) / 16) == 4) = true := beq_iff_eq.mpr c6
     have c6b1 : (((rd l0 0) / 16) != 4) = false := bne_eq_false_iff_eq.mpr c6
     clear c6
     have H' := Aside0.mk H
     clear H
     have p470 : 0 ≤ (0 : Int) := (by omega)
     have q470 : 0 < (l0.length : Int) := of_decide_eq_true (by first | (with_reducible assumption) | assumption)
     obtain ⟨ad470, e470, hx470_0⟩ := Kd.at_int HR0.out 0 p470 q470
     cases e470
     have qi470 : (0 < l0.length) = True := eq_true (by omega)
     (try rw [show ((0 : Int)).toNat = 0 from rfl] at hx470_0)
     (try rw [Addr.add_zero'] at hx470_0)
     replace hx470_0 := (HB.out.cell (World.block_lt_of_cell? w _ hx470_0)).trans hx470_0
     replace p470 := eq_true p470
     replace q470 := eq_true q470
     have p471 : 0 ≤ (0 : Int) := (by omega)
     have q471 : 0 < (l0.length : Int) := of_decide_eq_true (by first | (with_reducible assumption) | assumption)
     obtain ⟨ad471, e471, hx471_0⟩ := Kd.at_int HR0.out 0 p471 q471
     obtain rfl : ad470 = ad471 := (by injection e471)
     have qi471 : (0 < l0.length) = True := eq_true (by omega)
     (try rw [show ((0 : Int)).toNat = 0 from rfl] at hx471_0)
     (try rw [Addr.add_zero'] at hx471_0)
     replace hx471_0 := (HB.out.cell (World.block_lt_of_cell? w _ hx471_0)).trans hx471_0
     replace p471 := eq_true p471
     replace q471 := eq_true q471
     go_wp2
     go_meet
     case rel => exact ⟨_, (decide ((Go.bits .and .u8 (rd l0 0) 15) < 5)), (by first | rfl | (simp; done) | (simp [*]; done)), H', ⟨by first | omega | exact Nat.le_refl _⟩, ⟨by (with_reducible repeat (first | refine blk_drewN ?_ _ | refine blk_drew ?_ | refine blk_alloc ?_ _)); exact BK469.out⟩, ⟨by repeat (first | (with_reducible first | exact HB.out | apply below_alloc | apply pw_below_drewN | apply below_drew1 | refine below_set ?_ GE469.out) | exact HB.out)⟩⟩
    ·rw [if_neg c6] at H
     have c6b0 : (((rd l0 0) / 16) == 4) = false := beq_eq_false_iff_ne.mpr c6
     have c6b1 : (((rd l0 0) / 16) != 4) = true := bne_iff_ne.mpr c6
     have H' := Aside0.mk H
     clear H
     have p470 : 0 ≤ (0 : Int) := (by omega)
     have q470 : 0 < (l0.length : Int) := of_decide_eq_true (by first | (with_reducible assumption) | assumption)
     obtain ⟨ad470, e470, hx470_0⟩ := Kd.at_int HR0.out 0 p470 q470
     cases e470
     have qi470 : (0 < l0.length) = True := eq_true (by omega)
     (try rw [show ((0 : Int)).toNat = 0 from rfl] at hx470_0)
     (try rw [Addr.add_zero'] at hx470_0)
     replace hx470_0 := (HB.out.cell (World.block_lt_of_cell? w _ hx470_0)).trans hx470_0
     replace p470 := eq_true p470
     replace q470 := eq_true q470
     go_wp2
     go_meet
     case rel => exact ⟨_, (true), (by first | rfl | (simp; done) | (simp [*]; done)), H', ⟨by first | omega | exact Nat.le_refl _⟩, ⟨by (with_reducible repeat (first | refine blk_drewN ?_ _ | refine blk_drew ?_ | refine blk_alloc ?_ _)); exact BK469.out⟩, ⟨by repeat (first | (with_reducible first | exact HB.out | apply below_alloc | apply pw_below_drewN | apply below_drew1 | refine below_set ?_ GE469.out) | exact HB.out)⟩⟩
   ·rw [if_neg c5] at H
    exact absurd H (by simp)
 case rest =>
  clear HC2
  try clear c2
  try clear p2
  try clear c4
  try clear c4b0
  try clear c4b1
  try clear p4
  try clear q4
  try clear hx4
  try clear qi4
  try clear c5
  try clear c5b0
  try clear c5b1
  try clear c6
  try clear c6b0
  try clear c6b1
  try clear hx470_0
  try clear hx471_0
  try clear p470
  try clear p471
  try clear q470
  try clear q471
  obtain ⟨kq, x22_1, rfl, HA, HJ1, BK469, HB⟩ := hcut
  cases kq with
  | zero => exact absurd HA.out (by simp [bailiwickref6_Quote.j0])
  | succ kj1 =>
   have H := HA.out
   clear HA
   simp only [bailiwickref6_Quote.j0] at H
   by_cases c7 : x22_1 = true
   ·subst c7
    have H1 : (some (0, 0, 0, 0, 0, false)) = some (r1, r2, r3, r4, r5, r6) := by rw [if_pos rfl] at H; exact H
    clear H
    have H := H1
    clear H1
    simp only [Option.some.injEq, Prod.mk.injEq] at H
    obtain ⟨rfl, rfl, rfl, rfl, rfl, rfl⟩ := H
    have hcz8_0 : wc.cell? ⟨gb469, 0, none⟩ = some (.int .i64 0) := (blk_cell BK469.out 0).trans rfl
    have hcz8_1 : wc.cell? ⟨gb469, 1, none⟩ = some (.int .u32 0) := (blk_cell BK469.out 1).trans rfl
    have hcz8_2 : wc.cell? ⟨gb469, 2, none⟩ = some (.int .i64 0) := (blk_cell BK469.out 2).trans rfl
    have hcz8_3 : wc.cell? ⟨gb469, 3, none⟩ = some (.int .u32 0) := (blk_cell BK469.out 3).trans rfl
    have hcz8_4 : wc.cell? ⟨gb469, 4, none⟩ = some (.int .i64 0) := (blk_cell BK469.out 4).trans rfl
    have hfz8_0 := blk_frozen BK469.out 0
    have hfz8_1 := blk_frozen BK469.out 1
    have hfz8_2 := blk_frozen BK469.out 2
    have hfz8_3 := blk_frozen BK469.out 3
    have hfz8_4 := blk_frozen BK469.out 4
    go_wp2
    refine bodyPost_ret (results_ct rfl _ _ gb469 35 #[.int .i64 0, .int .u32 0, .int .i64 0, .int .u32 0, .int .i64 0] (0, 0) _ rfl (by (with_reducible repeat (first | refine blk_drewN ?_ _ | refine blk_drew ?_ | refine blk_alloc ?_ _)); refine blk_put (cs := #[.int .i64 0, .int .u32 0, .int .i64 0, .int .u32 0, .int .i64 0]) ?_ 4 _ rfl; (with_reducible repeat (first | refine blk_drewN ?_ _ | refine blk_drew ?_ | refine blk_alloc ?_ _)); refine blk_put (cs := #[.int .i64 0, .int .u32 0, .int .i64 0, .int .u32 0, .int .i64 0]) ?_ 3 _ rfl; (with_reducible repeat (first | refine blk_drewN ?_ _ | refine blk_drew ?_ | refine blk_alloc ?_ _)); refine blk_put (cs := #[.int .i64 0, .int .u32 0, .int .i64 0, .int .u32 0, .int .i64 0]) ?_ 2 _ rfl; (with_reducible repeat (first | refine blk_drewN ?_ _ | refine blk_drew ?_ | refine blk_alloc ?_ _)); refine blk_put (cs := #[.int .i64 0, .int .u32 0, .int .i64 0, .int .u32 0, .int .i64 0]) ?_ 1 _ rfl; (with_reducible repeat (first | refine blk_drewN ?_ _ | refine blk_drew ?_ | refine blk_alloc ?_ _)); refine blk_put (cs := #[.int .i64 0, .int .u32 0, .int .i64 0, .int .u32 0, .int .i64 0]) ?_ 0 _ rfl; (with_reducible repeat (first | refine blk_drewN ?_ _ | refine blk_drew ?_ | refine blk_alloc ?_ _)); exact BK469.out) Try.underlying35 rfl (by kernel_rfl)) rfl ?_
    exact ⟨by first | rfl | (simp [errW_none, errW_some] <;> rfl) | (simp [*, errW_none, errW_some] <;> rfl), by repeat (first | (with_reducible first | exact HB.out | apply below_alloc | apply pw_below_drewN | apply below_drew1 | refine below_set ?_ GE469.out) | exact HB.out)⟩
   ·replace c7 := Bool.eq_false_iff.mpr c7
    subst c7
    have H1 : (if 0 < (l0.length : Int) then (if (l0.length : Int) < (wrap64 ((wrap64 ((wrap64 (Go.bits .and .u8 (rd l0 0) 15)) * 4)) + 8)) then (bailiwickref6_Quote.j1 kj1 l0 (wrap64 ((wrap64 (Go.bits .and .u8 (rd l0 0) 15)) * 4)) true) else (if 6 < (l0.length : Int) then (if (Go.bits .and .u8 (rd l0 6) 31) = 0 then (if 7 < (l0.length : Int) then (bailiwickref6_Quote.j1 kj1 l0 (wrap64 ((wrap64 (Go.bits .and .u8 (rd l0 0) 15)) * 4)) ((rd l0 7) != 0)) else (none)) else (bailiwickref6_Quote.j1 kj1 l0 (wrap64 ((wrap64 (Go.bits .and .u8 (rd l0 0) 15)) * 4)) true)) else (none))) else (none)) = some (r1, r2, r3, r4, r5, r6) := by rw [if_neg (show ¬ (false = true) by decide)] at H; exact H
    clear H
    have H := H1
    clear H1
    by_cases c9 : 0 < (l0.length : Int)
    ·rw [if_pos c9] at H
     have c9b0 : decide (0 < (l0.length : Int)) = true := decide_eq_true c9
     have c9b1 : decide (0 < l0.length) = true := decide_eq_true (by omega)
     clear c9
     have HC10 := Aside0.mk H
     clear H
     have p472 : 0 ≤ (0 : Int) := (by omega)
     have q472 : 0 < (l0.length : Int) := of_decide_eq_true (by first | (with_reducible assumption) | assumption)
     obtain ⟨ad472, e472, hx472_0⟩ := Kd.at_int HR0.out 0 p472 q472
     cases e472
     have qi472 : (0 < l0.length) = True := eq_true (by omega)
     (try rw [show ((0 : Int)).toNat = 0 from rfl] at hx472_0)
     (try rw [Addr.add_zero'] at hx472_0)
     replace hx472_0 := (HB.out.cell (World.block_lt_of_cell? w _ hx472_0)).trans hx472_0
     replace p472 := eq_true p472
     replace q472 := eq_true q472
     go_upto_region 4 with (fail)
     go_cut [47] (fun v47 wc => ∃ (kq : Nat) (x47_9 : Bool), v47 = .bool x47_9 ∧ Aside0 (bailiwickref6_Quote.j1 kq l0 (wrap64 ((wrap64 (Go.bits .and .u8 (rd l0 0) 15)) * 4)) x47_9 = some (r1, r2, r3, r4, r5, r6)) ∧ Aside0 (kq ≤ kj1) ∧ Aside0 (wc.heap[gb469]? = some (.cells #[.int .i64 0, .int .u32 0, .int .i64 0, .int .u32 0, .int .i64 0] 35 (0, 0))) ∧ Aside0 (Below w.heap.size w wc))
     case first =>
      have H := HC10.out
      clear HC10
      by_cases c11 : (l0.length : Int) < (wrap64 ((wrap64 ((wrap64 (Go.bits .and .u8 (rd l0 0) 15)) * 4)) + 8))
      ·rw [if_pos c11] at H
       have c11b0 : decide ((l0.length : Int) < (wrap64 ((wrap64 ((wrap64 (Go.bits .and .u8 (rd l0 0) 15)) * 4)) + 8))) = true := decide_eq_true c11
       clear c11
       (first | rw [c11b0] | (simp only [i64_w, i32_w]; rw [c11b0]) | skip)
       have H' := Aside0.mk H
       clear H
       go_wp2
       go_meet
       case rel => exact ⟨_, (true), (by first | rfl | (simp; done) | (simp [*]; done)), H', ⟨by have := HJ1.out; first | omega | exact Nat.le_refl _⟩, ⟨by (with_reducible repeat (first | refine blk_drewN ?_ _ | refine blk_drew ?_ | refine blk_alloc ?_ _)); exact BK469.out⟩, ⟨by repeat (first | (with_reducible first | exact HB.out | apply below_alloc | apply pw_below_drewN | apply below_drew1 | refine below_set ?_ GE469.out) | exact HB.out)⟩⟩
      ·rw [if_neg c11] at H
       have c11b0 : decide ((l0.length : Int) < (wrap64 ((wrap64 ((wrap64 (Go.bits .and .u8 (rd l0 0) 15)) * 4)) + 8))) = false := decide_eq_false c11
       clear c11
       (first | rw [c11b0] | (simp only [i64_w, i32_w]; rw [c11b0]) | skip)
       by_cases c12 : 6 < (l0.length : Int)
       ·rw [if_pos c12] at H
        have c12b0 : decide (6 < (l0.length : Int)) = true := decide_eq_true c12
        have c12b1 : decide (6 < l0.length) = true := decide_eq_true (by omega)
        clear c12
        by_cases c13 : (Go.bits .and .u8 (rd l0 6) 31) = 0
        ·rw [if_pos c13] at H
         have c13b0 : ((Go.bits .and .u8 (rd l0 6) 31) == 0) = true := beq_iff_eq.mpr c13
         have c13b1 : ((Go.bits .and .u8 (rd l0 6) 31) != 0) = false := bne_eq_false_iff_eq.mpr c13
         clear c13
         by_cases c14 : 7 < (l0.length : Int)
         ·rw [if_pos c14] at H
          have c14b0 : decide (7 < (l0.length : Int)) = true := decide_eq_true c14
          have c14b1 : decide (7 < l0.length) = true := decide_eq_true (by omega)
          clear c14
          have H' := Aside0.mk H
          clear H
          have p473 : 0 ≤ (6 : Int) := (by omega)
          have q473 : 6 < (l0.length : Int) := of_decide_eq_true (by first | (with_reducible assumption) | assumption)
          obtain ⟨ad473, e473, hx473_0⟩ := Kd.at_int HR0.out 6 p473 q473
          obtain rfl : ad472 = ad473 := (by injection e473)
          (try simp only [show (6 : Int).toNat = 6 from rfl, Nat.reduceMul, Nat.reduceEqDiff, Go.Addr.add, ↓reduceIte] at hx473_0)
          have qi473 : (6 < l0.length) = True := eq_true (by omega)
          (try rw [show ((6 : Int)).toNat = 6 from rfl] at hx473_0)
          replace hx473_0 := (HB.out.cell (World.block_lt_of_cell? w _ hx473_0)).trans hx473_0
          replace p473 := eq_true p473
          replace q473 := eq_true q473
          have p474 : 0 ≤ (7 : Int) := (by omega)
          have q474 : 7 < (l0.length : Int) := of_decide_eq_true (by first | (with_reducible assumption) | assumption)
          obtain ⟨ad474, e474, hx474_0⟩ := Kd.at_int HR0.out 7 p474 q474
          obtain rfl : ad472 = ad474 := (by injection e474)
          (try simp only [show (7 : Int).toNat = 7 from rfl, Nat.reduceMul, Nat.reduceEqDiff, Go.Addr.add, ↓reduceIte] at hx474_0)
          have qi474 : (7 < l0.length) = True := eq_true (by omega)
          (try rw [show ((7 : Int)).toNat = 7 from rfl] at hx474_0)
          replace hx474_0 := (HB.out.cell (World.block_lt_of_cell? w _ hx474_0)).trans hx474_0
          replace p474 := eq_true p474
          replace q474 := eq_true q474
          go_wp2
          go_meet
          case rel => exact ⟨_, (((rd l0 7) != 0)), (by first | rfl | (simp; done) | (simp [*]; done)), H', ⟨by have := HJ1.out; first | omega | exact Nat.le_refl _⟩, ⟨by (with_reducible repeat (first | refine blk_drewN ?_ _ | refine blk_drew ?_ | refine blk_alloc ?_ _)); exact BK469.out⟩, ⟨by repeat (first | (with_reducible first | exact HB.out | apply below_alloc | apply pw_below_drewN | apply below_drew1 | refine below_set ?_ GE469.out) | exact HB.out)⟩⟩
         ·rw [if_neg c14] at H
          exact absurd H (by simp)
        ·rw [if_neg c13] at H
         have c13b0 : ((Go.bits .and .u8 (rd l0 6) 31) == 0) = false := beq_eq_false_iff_ne.mpr c13
         have c13b1 : ((Go.bits .and .u8 (rd l0 6) 31) != 0) = true := bne_iff_ne.mpr c13
         have H' := Aside0.mk H
         clear H
         have p473 : 0 ≤ (6 : Int) := (by omega)
         have q473 : 6 < (l0.length : Int) := of_decide_eq_true (by first | (with_reducible assumption) | assumption)
         obtain ⟨ad473, e473, hx473_0⟩ := Kd.at_int HR0.out 6 p473 q473
         obtain rfl : ad472 = ad473 := (by injection e473)
         (try simp only [show (6 : Int).toNat = 6 from rfl, Nat.reduceMul, Nat.reduceEqDiff, Go.Addr.add, ↓reduceIte] at hx473_0)
         have qi473 : (6 < l0.length) = True := eq_true (by omega)
         (try rw [show ((6 : Int)).toNat = 6 from rfl] at hx473_0)
         replace hx473_0 := (HB.out.cell (World.block_lt_of_cell? w _ hx473_0)).trans hx473_0
         replace p473 := eq_true p473
         replace q473 := eq_true q473
         go_wp2
         go_meet
         case rel => exact ⟨_, (true), (by first | rfl | (simp; done) | (simp [*]; done)), H', ⟨by have := HJ1.out; first | omega | exact Nat.le_refl _⟩, ⟨by (with_reducible repeat (first | refine blk_drewN ?_ _ | refine blk_drew ?_ | refine blk_alloc ?_ _)); exact BK469.out⟩, ⟨by repeat (first | (with_reducible first | exact HB.out | apply below_alloc | apply pw_below_drewN | apply below_drew1 | refine below_set ?_ GE469.out) | exact HB.out)⟩⟩
       ·rw [if_neg c12] at H
        exact absurd H (by simp)
     case rest =>
      clear HC10
      try clear c1
      try clear c2
      try clear p2
      try clear c4
      try clear c4b0
      try clear c4b1
      try clear p4
      try clear q4
      try clear hx4
      try clear qi4
      try clear c5
      try clear c5b0
      try clear c5b1
      try clear c6
      try clear c6b0
      try clear c6b1
      try clear p6
      try clear c7
      try clear c9
      try clear c9b0
      try clear c9b1
      try clear c11
      try clear c11b0
      try clear c12
      try clear c12b0
      try clear c12b1
      try clear c13
      try clear c13b0
      try clear c13b1
      try clear c14
      try clear c14b0
      try clear c14b1
      try clear hcz8_0
      try clear hcz8_1
      try clear hcz8_2
      try clear hcz8_3
      try clear hcz8_4
      try clear hfz8_0
      try clear hfz8_1
      try clear hfz8_2
      try clear hfz8_3
      try clear hfz8_4
      try clear hx470_0
      try clear hx471_0
      try clear hx472_0
      try clear hx473_0
      try clear hx474_0
      try clear p2
      try clear p4
      try clear p470
      try clear p471
      try clear p472
      try clear p473
      try clear p474
      try clear q4
      try clear q470
      try clear q471
      try clear q472
      try clear q473
      try clear q474
      obtain ⟨kq, x47_9, rfl, HA, HJ9, BK469, HB⟩ := hcut
      cases kq with
      | zero => exact absurd HA.out (by simp [bailiwickref6_Quote.j1])
      | succ kj9 =>
       have H := HA.out
       clear HA
       simp only [bailiwickref6_Quote.j1] at H
       by_cases c15 : x47_9 = true
       ·subst c15
        have H1 : (some (0, 0, 0, 0, 0, false)) = some (r1, r2, r3, r4, r5, r6) := by rw [if_pos rfl] at H; exact H
        clear H
        have H := H1
        clear H1
        simp only [Option.some.injEq, Prod.mk.injEq] at H
        obtain ⟨rfl, rfl, rfl, rfl, rfl, rfl⟩ := H
        have hcz16_0 : wc.cell? ⟨gb469, 0, none⟩ = some (.int .i64 0) := (blk_cell BK469.out 0).trans rfl
        have hcz16_1 : wc.cell? ⟨gb469, 1, none⟩ = some (.int .u32 0) := (blk_cell BK469.out 1).trans rfl
        have hcz16_2 : wc.cell? ⟨gb469, 2, none⟩ = some (.int .i64 0) := (blk_cell BK469.out 2).trans rfl
        have hcz16_3 : wc.cell? ⟨gb469, 3, none⟩ = some (.int .u32 0) := (blk_cell BK469.out 3).trans rfl
        have hcz16_4 : wc.cell? ⟨gb469, 4, none⟩ = some (.int .i64 0) := (blk_cell BK469.out 4).trans rfl
        have hfz16_0 := blk_frozen BK469.out 0
        have hfz16_1 := blk_frozen BK469.out 1
        have hfz16_2 := blk_frozen BK469.out 2
        have hfz16_3 := blk_frozen BK469.out 3
        have hfz16_4 := blk_frozen BK469.out 4
        go_wp2
        refine bodyPost_ret (results_ct rfl _ _ gb469 35 #[.int .i64 0, .int .u32 0, .int .i64 0, .int .u32 0, .int .i64 0] (0, 0) _ rfl (by (with_reducible repeat (first | refine blk_drewN ?_ _ | refine blk_drew ?_ | refine blk_alloc ?_ _)); refine blk_put (cs := #[.int .i64 0, .int .u32 0, .int .i64 0, .int .u32 0, .int .i64 0]) ?_ 4 _ rfl; (with_reducible repeat (first | refine blk_drewN ?_ _ | refine blk_drew ?_ | refine blk_alloc ?_ _)); refine blk_put (cs := #[.int .i64 0, .int .u32 0, .int .i64 0, .int .u32 0, .int .i64 0]) ?_ 3 _ rfl; (with_reducible repeat (first | refine blk_drewN ?_ _ | refine blk_drew ?_ | refine blk_alloc ?_ _)); refine blk_put (cs := #[.int .i64 0, .int .u32 0, .int .i64 0, .int .u32 0, .int .i64 0]) ?_ 2 _ rfl; (with_reducible repeat (first | refine blk_drewN ?_ _ | refine blk_drew ?_ | refine blk_alloc ?_ _)); refine blk_put (cs := #[.int .i64 0, .int .u32 0, .int .i64 0, .int .u32 0, .int .i64 0]) ?_ 1 _ rfl; (with_reducible repeat (first | refine blk_drewN ?_ _ | refine blk_drew ?_ | refine blk_alloc ?_ _)); refine blk_put (cs := #[.int .i64 0, .int .u32 0, .int .i64 0, .int .u32 0, .int .i64 0]) ?_ 0 _ rfl; (with_reducible repeat (first | refine blk_drewN ?_ _ | refine blk_drew ?_ | refine blk_alloc ?_ _)); exact BK469.out) Try.underlying35 rfl (by kernel_rfl)) rfl ?_
        exact ⟨by first | rfl | (simp [errW_none, errW_some] <;> rfl) | (simp [*, errW_none, errW_some] <;> rfl), by repeat (first | (with_reducible first | exact HB.out | apply below_alloc | apply pw_below_drewN | apply below_drew1 | refine below_set ?_ GE469.out) | exact HB.out)⟩
       ·replace c15 := Bool.eq_false_iff.mpr c15
        subst c15
        have H1 : (if 9 < (l0.length : Int) then ((bailiwickref2_Long.f l0 12).bind fun t476 => ((bailiwickref2_Long.f l0 16).bind fun t477 => (if (wrap64 (rd l0 9)) = 17 then (bailiwickref6_Quote.j2 kj9 l0 (wrap64 ((wrap64 (Go.bits .and .u8 (rd l0 0) 15)) * 4)) (wrap64 (rd l0 9)) ((wrap64 (rd l0 9)) == 17) (wrap64 (rd l0 9)) t476 0 t477 0) else (bailiwickref6_Quote.j2 kj9 l0 (wrap64 ((wrap64 (Go.bits .and .u8 (rd l0 0) 15)) * 4)) (wrap64 (rd l0 9)) ((wrap64 (rd l0 9)) == 6) (wrap64 (rd l0 9)) t476 0 t477 0)))) else (none)) = some (r1, r2, r3, r4, r5, r6) := by rw [if_neg (show ¬ (false = true) by decide)] at H; exact H
        clear H
        have H := H1
        clear H1
        by_cases c17 : 9 < (l0.length : Int)
        ·rw [if_pos c17] at H
         have c17b0 : decide (9 < (l0.length : Int)) = true := decide_eq_true c17
         have c17b1 : decide (9 < l0.length) = true := decide_eq_true (by omega)
         clear c17
         replace H := Option.bind_eq_some_iff.mp H
         obtain ⟨t476, A180, H⟩ := H
         replace H : ((bailiwickref2_Long.f l0 16).bind fun t477 => (if (wrap64 (rd l0 9)) = 17 then (bailiwickref6_Quote.j2 kj9 l0 (wrap64 ((wrap64 (Go.bits .and .u8 (rd l0 0) 15)) * 4)) (wrap64 (rd l0 9)) ((wrap64 (rd l0 9)) == 17) (wrap64 (rd l0 9)) t476 0 t477 0) else (bailiwickref6_Quote.j2 kj9 l0 (wrap64 ((wrap64 (Go.bits .and .u8 (rd l0 0) 15)) * 4)) (wrap64 (rd l0 9)) ((wrap64 (rd l0 9)) == 6) (wrap64 (rd l0 9)) t476 0 t477 0))) = some (r1, r2, r3, r4, r5, r6) := H
         have A18 := Aside0.mk A180
         clear A180
         replace H := Option.bind_eq_some_iff.mp H
         obtain ⟨t477, A190, H⟩ := H
         replace H : (if (wrap64 (rd l0 9)) = 17 then (bailiwickref6_Quote.j2 kj9 l0 (wrap64 ((wrap64 (Go.bits .and .u8 (rd l0 0) 15)) * 4)) (wrap64 (rd l0 9)) ((wrap64 (rd l0 9)) == 17) (wrap64 (rd l0 9)) t476 0 t477 0) else (bailiwickref6_Quote.j2 kj9 l0 (wrap64 ((wrap64 (Go.bits .and .u8 (rd l0 0) 15)) * 4)) (wrap64 (rd l0 9)) ((wrap64 (rd l0 9)) == 6) (wrap64 (rd l0 9)) t476 0 t477 0)) = some (r1, r2, r3, r4, r5, r6) := H
         have A19 := Aside0.mk A190
         clear A190
         have HC20 := Aside0.mk H
         clear H
         try go_wp2
         have n0_ := Aside0.mk (blk_drew BK469.out)
         have n1_ := Aside0.mk (below_drew1 HB.out)
         clear BK469
         clear HB
         have BK469 := n0_
         have HB := n1_
         clear n0_ n1_
         have p475 : 0 ≤ (9 : Int) := (by omega)
         have q475 : 9 < (l0.length : Int) := of_decide_eq_true (by first | (with_reducible assumption) | assumption)
         obtain ⟨ad475, e475, hx475_0⟩ := Kd.at_int HR0.out 9 p475 q475
         have hw475_0 := hx475_0
         (try rw [show ((9 : Int)).toNat = 9 from rfl] at hw475_0)
         (try rw [show 9 * 1 = 9 from rfl] at hw475_0)
         (try simp only [Nat.reduceMul, Nat.reduceEqDiff, Go.Addr.add, ↓reduceIte] at hw475_0)
         obtain rfl : ad472 = ad475 := (by injection e475)
         (try simp only [show (9 : Int).toNat = 9 from rfl, Nat.reduceMul, Nat.reduceEqDiff, Go.Addr.add, ↓reduceIte] at hx475_0)
         have qi475 : (9 < l0.length) = True := eq_true (by omega)
         (try rw [show ((9 : Int)).toNat = 9 from rfl] at hx475_0)
         replace hx475_0 := (HB.out.cell (World.block_lt_of_cell? w _ hx475_0)).trans hx475_0
         replace p475 := eq_true p475
         replace q475 := eq_true q475
         refine start_ (n := 13) (S := fun w' => w'.cell? ⟨ad472.block, ad472.off + 9, none⟩ = some (.int .u8 (rd l0 9))) (ds := []) #[false, false, false, false, false, false, false, false, false, false, false, false, false] (by kernel_rfl) rfl rfl (((HB.out.cell (World.block_lt_of_cell? w _ hw475_0)).trans hw475_0)) (fun hHeld => ?_); refine with_tabW bailiwickref6_Quote.tab6 bailiwickref6_Quote.bits6 (fun HT_ HW_ => ?_)
         generalize wc.drew = w21 at BK469 HB hx475_0 hHeld ⊢
         refine pure_ (i := 0) (N := some 49) (v := ?_) (a' := ?_) #[true, false, false, false, false, false, false, false, false, false, false, false, false] rfl rfl (any_of HT_.out (by kernel_rfl)) (fun _ _ _ h => h) (Or.inl ⟨by rfl, ?_⟩) ?_ ?_
         rotate_left
         ·intro w'
          go_simp
          with_reducible rfl
         rotate_left
         ·simp only [Act.put, List.setIfInBounds_toArray, List.set_cons_zero, List.set_cons_succ, i64_w, i32_w]
          rfl
         refine pure_ (i := 1) (N := some 50) (v := ?_) (a' := ?_) #[true, true, false, false, false, false, false, false, false, false, false, false, false] rfl rfl (any_of HT_.out (by kernel_rfl)) (fun _ _ _ h => h) (Or.inl ⟨by rfl, ?_⟩) ?_ ?_
         rotate_left
         ·intro w'
          go_simp
          with_reducible rfl
         rotate_left
         ·simp only [Act.put, List.setIfInBounds_toArray, List.set_cons_zero, List.set_cons_succ, i64_w, i32_w]
          rfl
         refine pure_ (i := 4) (N := some 53) (v := ?_) (a' := ?_) #[true, true, false, false, true, false, false, false, false, false, false, false, false] rfl rfl (any_of HT_.out (by kernel_rfl)) (fun _ _ _ h => h) (Or.inl ⟨by rfl, ?_⟩) ?_ ?_
         rotate_left
         ·intro w'
          go_simp
          with_reducible rfl
         rotate_left
         ·simp only [Act.put, List.setIfInBounds_toArray, List.set_cons_zero, List.set_cons_succ, i64_w, i32_w]
          rfl
         refine pure_ (i := 7) (N := some 56) (v := ?_) (a' := ?_) #[true, true, false, false, true, false, false, true, false, false, false, false, false] rfl rfl (any_of HT_.out (by kernel_rfl)) (fun _ _ _ h => h) (Or.inl ⟨by rfl, ?_⟩) ?_ ?_
         rotate_left
         ·intro w'
          go_simp
          with_reducible rfl
         rotate_left
         ·simp only [Act.put, List.setIfInBounds_toArray, List.set_cons_zero, List.set_cons_succ, i64_w, i32_w]
          rfl
         refine take_ (i := 2) (N := some 51) (v := ?_) (a' := ?_) #[true, true, true, false, true, false, false, true, false, false, false, false, false] rfl rfl (take_ofW HT_.out HW_.out (by kernel_rfl)) (fun _ _ _ h => h) (Or.inl ⟨by rfl, ?_⟩) hHeld ?_ ?_
         rotate_left
         ·intro w' s0
          go_simp
          with_reducible rfl
         rotate_left
         ·simp only [Act.put, List.setIfInBounds_toArray, List.set_cons_zero, List.set_cons_succ, i64_w, i32_w]
          rfl
         refine pure_ (i := 3) (N := some 52) (v := ?_) (a' := ?_) #[true, true, true, true, true, false, false, true, false, false, false, false, false] rfl rfl (any_of HT_.out (by kernel_rfl)) (fun _ _ _ h => h) (Or.inl ⟨by rfl, ?_⟩) ?_ ?_
         rotate_left
         ·intro w'
          go_simp
          with_reducible rfl
         rotate_left
         ·simp only [Act.put, List.setIfInBounds_toArray, List.set_cons_zero, List.set_cons_succ, i64_w, i32_w]
          rfl
         refine join_ (σ := Nat) 1 #[true, true, true, true, true, true, true, true, true, true, true, true, false] (fun s_ => [(54, .int .u32 t476), (57, .int .u32 t477), (5, .pointer (some ⟨s_, 0, none⟩)), (55, .agg #[.int .u32 t476, .int .i64 0]), (58, .agg #[.int .u32 t477, .int .i64 0]), (59, .agg #[.int .i64 (wrap64 (rd l0 9)), .int .u32 t476, .int .i64 0, .int .u32 t477, .int .i64 0])]) (fun s_ w' => (w'.cell? ⟨ad472.block, ad472.off + 9, none⟩ = some (.int .u8 (rd l0 9))) ∧ (w'.heap[gb469]? = some (.cells #[.int .i64 0, .int .u32 0, .int .i64 0, .int .u32 0, .int .i64 0] 35 (0, 0))) ∧ (w'.heap[s_]? = some (.cells #[.int .i64 0, .int .u32 0, .int .i64 0, .int .u32 0, .int .i64 0] 35 (0, 0))) ∧ (w.heap.size ≤ s_) ∧ (w.heap.size ≤ s_) ∧ (gb469 ≠ s_) ∧ (s_ ≠ gb469) ∧ (Below w.heap.size w w')) ?_ ?_
         rotate_left
         ·intro hCont
          refine two_ (i := 5) (j := 11) (Ni := some 54) (Nj := some 5) #[true, true, true, true, true, true, false, true, false, false, false, false, false] #[true, true, true, true, true, false, false, true, false, false, false, true, false] rfl rfl rfl rfl (two_of HT_.out (by kernel_rfl)) (by decide) (by decide) (fun K hK => ?_) (fun K hK => ?_)
          ·skip
           refine goes_ Try.func57 (by kernel_rfl) rfl #[.slice (some ad472) l0.length c0, .int .i64 12] (by rfl) rfl rfl (by (try simp only [List.map_toArray, List.map_cons, List.map_nil]); first | done | rfl | (simp only [List.length_drop, List.length_take]; rfl)) ?_
           with_reducible refine (bailiwickref2_Long.calls _ _ l0 12 t476 _ ?side1 ?side2 A18.out).mono ?_
           (case side1 => repeat (first | exact (Kd.C_below HR0.out HB.out) | (with_reducible refine Kd.C_alloc ?_ _) | (with_reducible refine Kd.C_drewN ?_ _) | (with_reducible refine Kd.C_drew ?_)))
           (case side2 => exact HC0.out)
           rintro e w' ⟨rfl, ⟨nd, rfl⟩⟩
           refine ⟨_, rfl, ?_⟩
           refine hK.out _ _ (((HB.out.cell (World.block_lt_of_cell? w _ hw475_0)).trans hw475_0)) (fun hHeld => ?_)
           clear hK K
           refine norm_ (a' := ?_) ?_ ?_
           rotate_left
           ·show Act.put _ (some 54) _ = _
            simp only [Act.put, List.setIfInBounds_toArray, List.set_cons_zero, List.set_cons_succ, i64_w, i32_w]
            rfl
           refine pure_ (i := 6) (N := some 55) (v := ?_) (a' := ?_) #[true, true, true, true, true, true, true, true, false, false, false, false, false] rfl rfl (any_of HT_.out (by kernel_rfl)) (fun _ _ _ h => h) (Or.inl ⟨by rfl, ?_⟩) ?_ ?_
           rotate_left
           ·intro w'
            go_simp
            with_reducible rfl
           rotate_left
           ·simp only [Act.put, List.setIfInBounds_toArray, List.set_cons_zero, List.set_cons_succ, i64_w, i32_w]
            rfl
           refine two_ (i := 8) (j := 11) (Ni := some 57) (Nj := some 5) #[true, true, true, true, true, true, true, true, true, false, false, false, false] #[true, true, true, true, true, true, true, true, false, false, false, true, false] rfl rfl rfl rfl (two_of HT_.out (by kernel_rfl)) (by decide) (by decide) (fun K hK => ?_) (fun K hK => ?_)
           ·skip
            refine goes_ Try.func57 (by kernel_rfl) rfl #[.slice (some ad472) l0.length c0, .int .i64 16] (by rfl) rfl rfl (by (try simp only [List.map_toArray, List.map_cons, List.map_nil]); first | done | rfl | (simp only [List.length_drop, List.length_take]; rfl)) ?_
            with_reducible refine (bailiwickref2_Long.calls _ _ l0 16 t477 _ ?side1 ?side2 A19.out).mono ?_
            (case side1 => repeat (first | exact (Kd.C_below HR0.out (by repeat (first | (with_reducible first | exact HB.out | apply below_alloc | apply pw_below_drewN | apply below_drew1 | refine below_set ?_ GE469.out) | exact HB.out))) | (with_reducible refine Kd.C_alloc ?_ _) | (with_reducible refine Kd.C_drewN ?_ _) | (with_reducible refine Kd.C_drew ?_)))
            (case side2 => exact HC0.out)
            rintro e w' ⟨rfl, ⟨nd, rfl⟩⟩
            refine ⟨_, rfl, ?_⟩
            refine hK.out _ _ (((HB.out.cell (World.block_lt_of_cell? w _ hw475_0)).trans hw475_0)) (fun hHeld => ?_)
            clear hK K
            refine norm_ (a' := ?_) ?_ ?_
            rotate_left
            ·show Act.put _ (some 57) _ = _
             simp only [Act.put, List.setIfInBounds_toArray, List.set_cons_zero, List.set_cons_succ, i64_w, i32_w]
             rfl
            refine pure_ (i := 9) (N := some 58) (v := ?_) (a' := ?_) #[true, true, true, true, true, true, true, true, true, true, false, false, false] rfl rfl (any_of HT_.out (by kernel_rfl)) (fun _ _ _ h => h) (Or.inl ⟨by rfl, ?_⟩) ?_ ?_
            rotate_left
            ·intro w'
             go_simp
             with_reducible rfl
            rotate_left
            ·simp only [Act.put, List.setIfInBounds_toArray, List.set_cons_zero, List.set_cons_succ, i64_w, i32_w]
             rfl
            refine pure_ (i := 10) (N := some 59) (v := ?_) (a' := ?_) #[true, true, true, true, true, true, true, true, true, true, true, false, false] rfl rfl (any_of HT_.out (by kernel_rfl)) (fun _ _ _ h => h) (Or.inl ⟨by rfl, ?_⟩) ?_ ?_
            rotate_left
            ·intro w'
             go_simp
             with_reducible rfl
            rotate_left
            ·simp only [Act.put, List.setIfInBounds_toArray, List.set_cons_zero, List.set_cons_succ, i64_w, i32_w]
             rfl
            refine one_ (i := 11) (N := some 5) #[true, true, true, true, true, true, true, true, true, true, true, true, false] rfl rfl (one_of HT_.out (by kernel_rfl)) (by decide) (fun K hK => ?_)
            refine box_step ?hg (N := 5) ?hd (cs := #[.int .i64 0, .int .u32 0, .int .i64 0, .int .u32 0, .int .i64 0]) (t := 35) ?hr ?_; (case hd => rfl); (case hg => rfl); (case hr => first | (go_simp; done) | (go_simp; rfl))
            intro gb478 hg w22 hbox hb
            have n0_ := Aside0.mk (blk_below (g := gb469) (o := .cells #[.int .i64 0, .int .u32 0, .int .i64 0, .int .u32 0, .int .i64 0] 35 (0, 0)) (by (with_reducible repeat (first | refine blk_drewN ?_ _ | refine blk_drew ?_ | refine blk_alloc ?_ _)); exact BK469.out) hb)
            have n1_ := Aside0.mk (below_step (by repeat (first | (with_reducible first | exact HB.out | apply below_alloc | apply pw_below_drewN | apply below_drew1 | refine below_set ?_ GE469.out) | exact HB.out)) hb)
            have n2_ := Aside0.mk (hbox)
            have n3_ := Aside0.mk ((by rw [hg]; exact (below_size (by repeat (first | (with_reducible first | exact HB.out | apply below_alloc | apply pw_below_drewN | apply below_drew1 | refine below_set ?_ GE469.out) | exact HB.out))) : w.heap.size ≤ gb478))
            have n4_ := Aside0.mk ((by rw [hg]; exact (below_size (by repeat (first | (with_reducible first | exact HB.out | apply below_alloc | apply pw_below_drewN | apply below_drew1 | refine below_set ?_ GE469.out) | exact HB.out))) : w.heap.size ≤ gb478))
            have n5_ := Aside0.mk ((by rw [hg]; exact Nat.ne_of_lt (blk_lt (g := gb469) (o := .cells #[.int .i64 0, .int .u32 0, .int .i64 0, .int .u32 0, .int .i64 0] 35 (0, 0)) (by (with_reducible repeat (first | refine blk_drewN ?_ _ | refine blk_drew ?_ | refine blk_alloc ?_ _)); exact BK469.out)) : gb469 ≠ gb478))
            have n6_ := Aside0.mk ((by rw [hg]; exact Nat.ne_of_gt (blk_lt (g := gb469) (o := .cells #[.int .i64 0, .int .u32 0, .int .i64 0, .int .u32 0, .int .i64 0] 35 (0, 0)) (by (with_reducible repeat (first | refine blk_drewN ?_ _ | refine blk_drew ?_ | refine blk_alloc ?_ _)); exact BK469.out)) : gb478 ≠ gb469))
            clear BK469
            clear HB
            have BK469 := n0_
            have HB := n1_
            have BK478 := n2_
            have GW478 := n3_
            have GE478 := n4_
            have NB469_478 := n5_
            have NB478_469 := n6_
            clear n0_ n1_ n2_ n3_ n4_ n5_ n6_
            clear hb hbox hg
            refine hK.out _ _ (((HB.out.cell (World.block_lt_of_cell? w _ hw475_0)).trans hw475_0)) (fun hHeld => ?_)
            clear hK K
            refine norm_ (a' := ?_) ?_ ?_
            rotate_left
            ·show Act.put _ (some 5) _ = _
             simp only [Act.put, List.setIfInBounds_toArray, List.set_cons_zero, List.set_cons_succ, i64_w, i32_w]
             rfl
            exact norm_ (by simp only [putAll, Act.put, List.setIfInBounds_toArray, List.set_cons_zero, List.set_cons_succ]) (hCont (gb478) _ ⟨hHeld, (by (with_reducible repeat (first | refine blk_drewN ?_ _ | refine blk_drew ?_ | refine blk_alloc ?_ _)); exact BK469.out), (by (with_reducible repeat (first | refine blk_drewN ?_ _ | refine blk_drew ?_ | refine blk_alloc ?_ _)); exact BK478.out), GW478.out, GE478.out, NB469_478.out, NB478_469.out, (by repeat (first | (with_reducible first | exact HB.out | apply below_alloc | apply pw_below_drewN | apply below_drew1 | refine below_set ?_ GE469.out | refine below_set ?_ GE478.out) | exact HB.out))⟩)
           ·skip
            refine box_step ?hg (N := 5) ?hd (cs := #[.int .i64 0, .int .u32 0, .int .i64 0, .int .u32 0, .int .i64 0]) (t := 35) ?hr ?_; (case hd => rfl); (case hg => rfl); (case hr => first | (go_simp; done) | (go_simp; rfl))
            intro gb478 hg w22 hbox hb
            have n0_ := Aside0.mk (blk_below (g := gb469) (o := .cells #[.int .i64 0, .int .u32 0, .int .i64 0, .int .u32 0, .int .i64 0] 35 (0, 0)) (by (with_reducible repeat (first | refine blk_drewN ?_ _ | refine blk_drew ?_ | refine blk_alloc ?_ _)); exact BK469.out) hb)
            have n1_ := Aside0.mk (below_step (by repeat (first | (with_reducible first | exact HB.out | apply below_alloc | apply pw_below_drewN | apply below_drew1 | refine below_set ?_ GE469.out) | exact HB.out)) hb)
            have n2_ := Aside0.mk (hbox)
            have n3_ := Aside0.mk ((by rw [hg]; exact (below_size (by repeat (first | (with_reducible first | exact HB.out | apply below_alloc | apply pw_below_drewN | apply below_drew1 | refine below_set ?_ GE469.out) | exact HB.out))) : w.heap.size ≤ gb478))
            have n4_ := Aside0.mk ((by rw [hg]; exact (below_size (by repeat (first | (with_reducible first | exact HB.out | apply below_alloc | apply pw_below_drewN | apply below_drew1 | refine below_set ?_ GE469.out) | exact HB.out))) : w.heap.size ≤ gb478))
            have n5_ := Aside0.mk ((by rw [hg]; exact Nat.ne_of_lt (blk_lt (g := gb469) (o := .cells #[.int .i64 0, .int .u32 0, .int .i64 0, .int .u32 0, .int .i64 0] 35 (0, 0)) (by (with_reducible repeat (first | refine blk_drewN ?_ _ | refine blk_drew ?_ | refine blk_alloc ?_ _)); exact BK469.out)) : gb469 ≠ gb478))
            have n6_ := Aside0.mk ((by rw [hg]; exact Nat.ne_of_gt (blk_lt (g := gb469) (o := .cells #[.int .i64 0, .int .u32 0, .int .i64 0, .int .u32 0, .int .i64 0] 35 (0, 0)) (by (with_reducible repeat (first | refine blk_drewN ?_ _ | refine blk_drew ?_ | refine blk_alloc ?_ _)); exact BK469.out)) : gb478 ≠ gb469))
            clear BK469
            clear HB
            have BK469 := n0_
            have HB := n1_
            have BK478 := n2_
            have GW478 := n3_
            have GE478 := n4_
            have NB469_478 := n5_
            have NB478_469 := n6_
            clear n0_ n1_ n2_ n3_ n4_ n5_ n6_
            clear hb hbox hg
            refine hK.out _ _ (((HB.out.cell (World.block_lt_of_cell? w _ hw475_0)).trans hw475_0)) (fun hHeld => ?_)
            clear hK K
            refine norm_ (a' := ?_) ?_ ?_
            rotate_left
            ·show Act.put _ (some 5) _ = _
             simp only [Act.put, List.setIfInBounds_toArray, List.set_cons_zero, List.set_cons_succ, i64_w, i32_w]
             rfl
            refine one_ (i := 8) (N := some 57) #[true, true, true, true, true, true, true, true, true, false, false, true, false] rfl rfl (one_of HT_.out (by kernel_rfl)) (by decide) (fun K hK => ?_)
            refine goes_ Try.func57 (by kernel_rfl) rfl #[.slice (some ad472) l0.length c0, .int .i64 16] (by rfl) rfl rfl (by (try simp only [List.map_toArray, List.map_cons, List.map_nil]); first | done | rfl | (simp only [List.length_drop, List.length_take]; rfl)) ?_
            with_reducible refine (bailiwickref2_Long.calls _ _ l0 16 t477 _ ?side1 ?side2 A19.out).mono ?_
            (case side1 => repeat (first | exact (Kd.C_below HR0.out HB.out) | (with_reducible refine Kd.C_alloc ?_ _) | (with_reducible refine Kd.C_drewN ?_ _) | (with_reducible refine Kd.C_drew ?_)))
            (case side2 => exact HC0.out)
            rintro e w' ⟨rfl, ⟨nd, rfl⟩⟩
            refine ⟨_, rfl, ?_⟩
            refine hK.out _ _ (((HB.out.cell (World.block_lt_of_cell? w _ hw475_0)).trans hw475_0)) (fun hHeld => ?_)
            clear hK K
            refine norm_ (a' := ?_) ?_ ?_
            rotate_left
            ·show Act.put _ (some 57) _ = _
             simp only [Act.put, List.setIfInBounds_toArray, List.set_cons_zero, List.set_cons_succ, i64_w, i32_w]
             rfl
            refine pure_ (i := 9) (N := some 58) (v := ?_) (a' := ?_) #[true, true, true, true, true, true, true, true, true, true, false, true, false] rfl rfl (any_of HT_.out (by kernel_rfl)) (fun _ _ _ h => h) (Or.inl ⟨by rfl, ?_⟩) ?_ ?_
            rotate_left
            ·intro w'
             go_simp
             with_reducible rfl
            rotate_left
            ·simp only [Act.put, List.setIfInBounds_toArray, List.set_cons_zero, List.set_cons_succ, i64_w, i32_w]
             rfl
            refine pure_ (i := 10) (N := some 59) (v := ?_) (a' := ?_) #[true, true, true, true, true, true, true, true, true, true, true, true, false] rfl rfl (any_of HT_.out (by kernel_rfl)) (fun _ _ _ h => h) (Or.inl ⟨by rfl, ?_⟩) ?_ ?_
            rotate_left
            ·intro w'
             go_simp
             with_reducible rfl
            rotate_left
            ·simp only [Act.put, List.setIfInBounds_toArray, List.set_cons_zero, List.set_cons_succ, i64_w, i32_w]
             rfl
            exact norm_ (by simp only [putAll, Act.put, List.setIfInBounds_toArray, List.set_cons_zero, List.set_cons_succ]) (hCont (gb478) _ ⟨hHeld, (by (with_reducible repeat (first | refine blk_drewN ?_ _ | refine blk_drew ?_ | refine blk_alloc ?_ _)); exact BK469.out), (by (with_reducible repeat (first | refine blk_drewN ?_ _ | refine blk_drew ?_ | refine blk_alloc ?_ _)); exact BK478.out), GW478.out, GE478.out, NB469_478.out, NB478_469.out, (by repeat (first | (with_reducible first | exact HB.out | apply below_alloc | apply pw_below_drewN | apply below_drew1 | refine below_set ?_ GE469.out | refine below_set ?_ GE478.out) | exact HB.out))⟩)
          ·skip
           refine box_step ?hg (N := 5) ?hd (cs := #[.int .i64 0, .int .u32 0, .int .i64 0, .int .u32 0, .int .i64 0]) (t := 35) ?hr ?_; (case hd => rfl); (case hg => rfl); (case hr => first | (go_simp; done) | (go_simp; rfl))
           intro gb478 hg w22 hbox hb
           have n0_ := Aside0.mk (blk_below (g := gb469) (o := .cells #[.int .i64 0, .int .u32 0, .int .i64 0, .int .u32 0, .int .i64 0] 35 (0, 0)) (by (with_reducible repeat (first | refine blk_drewN ?_ _ | refine blk_drew ?_ | refine blk_alloc ?_ _)); exact BK469.out) hb)
           have n1_ := Aside0.mk (below_step (by repeat (first | (with_reducible first | exact HB.out | apply below_alloc | apply pw_below_drewN | apply below_drew1 | refine below_set ?_ GE469.out) | exact HB.out)) hb)
           have n2_ := Aside0.mk (hbox)
           have n3_ := Aside0.mk ((by rw [hg]; exact (below_size (by repeat (first | (with_reducible first | exact HB.out | apply below_alloc | apply pw_below_drewN | apply below_drew1 | refine below_set ?_ GE469.out) | exact HB.out))) : w.heap.size ≤ gb478))
           have n4_ := Aside0.mk ((by rw [hg]; exact (below_size (by repeat (first | (with_reducible first | exact HB.out | apply below_alloc | apply pw_below_drewN | apply below_drew1 | refine below_set ?_ GE469.out) | exact HB.out))) : w.heap.size ≤ gb478))
           have n5_ := Aside0.mk ((by rw [hg]; exact Nat.ne_of_lt (blk_lt (g := gb469) (o := .cells #[.int .i64 0, .int .u32 0, .int .i64 0, .int .u32 0, .int .i64 0] 35 (0, 0)) (by (with_reducible repeat (first | refine blk_drewN ?_ _ | refine blk_drew ?_ | refine blk_alloc ?_ _)); exact BK469.out)) : gb469 ≠ gb478))
           have n6_ := Aside0.mk ((by rw [hg]; exact Nat.ne_of_gt (blk_lt (g := gb469) (o := .cells #[.int .i64 0, .int .u32 0, .int .i64 0, .int .u32 0, .int .i64 0] 35 (0, 0)) (by (with_reducible repeat (first | refine blk_drewN ?_ _ | refine blk_drew ?_ | refine blk_alloc ?_ _)); exact BK469.out)) : gb478 ≠ gb469))
           clear BK469
           clear HB
           have BK469 := n0_
           have HB := n1_
           have BK478 := n2_
           have GW478 := n3_
           have GE478 := n4_
           have NB469_478 := n5_
           have NB478_469 := n6_
           clear n0_ n1_ n2_ n3_ n4_ n5_ n6_
           clear hb hbox hg
           refine hK.out _ _ (((HB.out.cell (World.block_lt_of_cell? w _ hw475_0)).trans hw475_0)) (fun hHeld => ?_)
           clear hK K
           refine norm_ (a' := ?_) ?_ ?_
           rotate_left
           ·show Act.put _ (some 5) _ = _
            simp only [Act.put, List.setIfInBounds_toArray, List.set_cons_zero, List.set_cons_succ, i64_w, i32_w]
            rfl
           refine one_ (i := 5) (N := some 54) #[true, true, true, true, true, true, false, true, false, false, false, true, false] rfl rfl (one_of HT_.out (by kernel_rfl)) (by decide) (fun K hK => ?_)
           refine goes_ Try.func57 (by kernel_rfl) rfl #[.slice (some ad472) l0.length c0, .int .i64 12] (by rfl) rfl rfl (by (try simp only [List.map_toArray, List.map_cons, List.map_nil]); first | done | rfl | (simp only [List.length_drop, List.length_take]; rfl)) ?_
           with_reducible refine (bailiwickref2_Long.calls _ _ l0 12 t476 _ ?side1 ?side2 A18.out).mono ?_
           (case side1 => repeat (first | exact (Kd.C_below HR0.out HB.out) | (with_reducible refine Kd.C_alloc ?_ _) | (with_reducible refine Kd.C_drewN ?_ _) | (with_reducible refine Kd.C_drew ?_)))
           (case side2 => exact HC0.out)
           rintro e w' ⟨rfl, ⟨nd, rfl⟩⟩
           refine ⟨_, rfl, ?_⟩
           refine hK.out _ _ (((HB.out.cell (World.block_lt_of_cell? w _ hw475_0)).trans hw475_0)) (fun hHeld => ?_)
           clear hK K
           refine norm_ (a' := ?_) ?_ ?_
           rotate_left
           ·show Act.put _ (some 54) _ = _
            simp only [Act.put, List.setIfInBounds_toArray, List.set_cons_zero, List.set_cons_succ, i64_w, i32_w]
            rfl
           refine pure_ (i := 6) (N := some 55) (v := ?_) (a' := ?_) #[true, true, true, true, true, true, true, true, false, false, false, true, false] rfl rfl (any_of HT_.out (by kernel_rfl)) (fun _ _ _ h => h) (Or.inl ⟨by rfl, ?_⟩) ?_ ?_
           rotate_left
           ·intro w'
            go_simp
            with_reducible rfl
           rotate_left
           ·simp only [Act.put, List.setIfInBounds_toArray, List.set_cons_zero, List.set_cons_succ, i64_w, i32_w]
            rfl
           refine one_ (i := 8) (N := some 57) #[true, true, true, true, true, true, true, true, true, false, false, true, false] rfl rfl (one_of HT_.out (by kernel_rfl)) (by decide) (fun K hK => ?_)
           refine goes_ Try.func57 (by kernel_rfl) rfl #[.slice (some ad472) l0.length c0, .int .i64 16] (by rfl) rfl rfl (by (try simp only [List.map_toArray, List.map_cons, List.map_nil]); first | done | rfl | (simp only [List.length_drop, List.length_take]; rfl)) ?_
           with_reducible refine (bailiwickref2_Long.calls _ _ l0 16 t477 _ ?side1 ?side2 A19.out).mono ?_
           (case side1 => repeat (first | exact (Kd.C_below HR0.out (by repeat (first | (with_reducible first | exact HB.out | apply below_alloc | apply pw_below_drewN | apply below_drew1 | refine below_set ?_ GE469.out | refine below_set ?_ GE478.out) | exact HB.out))) | (with_reducible refine Kd.C_alloc ?_ _) | (with_reducible refine Kd.C_drewN ?_ _) | (with_reducible refine Kd.C_drew ?_)))
           (case side2 => exact HC0.out)
           rintro e w' ⟨rfl, ⟨nd, rfl⟩⟩
           refine ⟨_, rfl, ?_⟩
           refine hK.out _ _ (((HB.out.cell (World.block_lt_of_cell? w _ hw475_0)).trans hw475_0)) (fun hHeld => ?_)
           clear hK K
           refine norm_ (a' := ?_) ?_ ?_
           rotate_left
           ·show Act.put _ (some 57) _ = _
            simp only [Act.put, List.setIfInBounds_toArray, List.set_cons_zero, List.set_cons_succ, i64_w, i32_w]
            rfl
           refine pure_ (i := 9) (N := some 58) (v := ?_) (a' := ?_) #[true, true, true, true, true, true, true, true, true, true, false, true, false] rfl rfl (any_of HT_.out (by kernel_rfl)) (fun _ _ _ h => h) (Or.inl ⟨by rfl, ?_⟩) ?_ ?_
           rotate_left
           ·intro w'
            go_simp
            with_reducible rfl
           rotate_left
           ·simp only [Act.put, List.setIfInBounds_toArray, List.set_cons_zero, List.set_cons_succ, i64_w, i32_w]
            rfl
           refine pure_ (i := 10) (N := some 59) (v := ?_) (a' := ?_) #[true, true, true, true, true, true, true, true, true, true, true, true, false] rfl rfl (any_of HT_.out (by kernel_rfl)) (fun _ _ _ h => h) (Or.inl ⟨by rfl, ?_⟩) ?_ ?_
           rotate_left
           ·intro w'
            go_simp
            with_reducible rfl
           rotate_left
           ·simp only [Act.put, List.setIfInBounds_toArray, List.set_cons_zero, List.set_cons_succ, i64_w, i32_w]
            rfl
           exact norm_ (by simp only [putAll, Act.put, List.setIfInBounds_toArray, List.set_cons_zero, List.set_cons_succ]) (hCont (gb478) _ ⟨hHeld, (by (with_reducible repeat (first | refine blk_drewN ?_ _ | refine blk_drew ?_ | refine blk_alloc ?_ _)); exact BK469.out), (by (with_reducible repeat (first | refine blk_drewN ?_ _ | refine blk_drew ?_ | refine blk_alloc ?_ _)); exact BK478.out), GW478.out, GE478.out, NB469_478.out, NB478_469.out, (by repeat (first | (with_reducible first | exact HB.out | apply below_alloc | apply pw_below_drewN | apply below_drew1 | refine below_set ?_ GE469.out | refine below_set ?_ GE478.out) | exact HB.out))⟩)
         rintro gb478 w23 ⟨hS_, h0_, h1_, h2_, h3_, h4_, h5_, h6_⟩
         have n0_ : Aside0 (w23.heap[gb469]? = some (.cells #[.int .i64 0, .int .u32 0, .int .i64 0, .int .u32 0, .int .i64 0] 35 (0, 0))) := ⟨h0_⟩
         have n1_ : Aside0 (w23.heap[gb478]? = some (.cells #[.int .i64 0, .int .u32 0, .int .i64 0, .int .u32 0, .int .i64 0] 35 (0, 0))) := ⟨h1_⟩
         have n2_ : Aside0 (w.heap.size ≤ gb478) := ⟨h2_⟩
         have n3_ : Aside0 (w.heap.size ≤ gb478) := ⟨h3_⟩
         have n4_ : Aside0 (gb469 ≠ gb478) := ⟨h4_⟩
         have n5_ : Aside0 (gb478 ≠ gb469) := ⟨h5_⟩
         have n6_ : Aside0 (Below w.heap.size w w23) := ⟨h6_⟩
         clear BK469
         clear HB
         clear h0_ h1_ h2_ h3_ h4_ h5_ h6_
         have BK469 := n0_
         have BK478 := n1_
         have GW478 := n2_
         have GE478 := n3_
         have NB469_478 := n4_
         have NB478_469 := n5_
         have HB := n6_
         clear n0_ n1_ n2_ n3_ n4_ n5_ n6_
         have hHeld : w23.cell? ⟨ad472.block, ad472.off + 9, none⟩ = some (.int .u8 (rd l0 9)) := hS_
         refine norm_ (a' := ?_) ?_ ?_
         rotate_left
         ·simp only [putAll, Act.put, List.setIfInBounds_toArray, List.set_cons_zero, List.set_cons_succ]
          rfl
         refine one_ (i := 12) (N := none) #[true, true, true, true, true, true, true, true, true, true, true, true, true] rfl rfl (one_of HT_.out (by kernel_rfl)) (by decide) (fun K hK => ?_)
         have hs24 : w23.cell? ⟨gb478, 0, none⟩ = some (.int .i64 0) := (blk_cell BK478.out 0).trans rfl
         have hfs24 := blk_frozen BK478.out 0
         have hns24_0 := NB469_478.out
         have hms24_0 := NB478_469.out
         have hs25 : w23.cell? ⟨gb478, 1, none⟩ = some (.int .u32 0) := (blk_cell BK478.out 1).trans rfl
         have hfs25 := blk_frozen BK478.out 1
         have hns25_0 := NB469_478.out
         have hms25_0 := NB478_469.out
         have hs26 : w23.cell? ⟨gb478, 2, none⟩ = some (.int .i64 0) := (blk_cell BK478.out 2).trans rfl
         have hfs26 := blk_frozen BK478.out 2
         have hns26_0 := NB469_478.out
         have hms26_0 := NB478_469.out
         have hs27 : w23.cell? ⟨gb478, 3, none⟩ = some (.int .u32 0) := (blk_cell BK478.out 3).trans rfl
         have hfs27 := blk_frozen BK478.out 3
         have hns27_0 := NB469_478.out
         have hms27_0 := NB478_469.out
         have hs28 : w23.cell? ⟨gb478, 4, none⟩ = some (.int .i64 0) := (blk_cell BK478.out 4).trans rfl
         have hfs28 := blk_frozen BK478.out 4
         have hns28_0 := NB469_478.out
         have hms28_0 := NB478_469.out
         refine skip_ (w1 := ?_) (by rfl) rfl ?_ ?_
         rotate_left
         ·go_simp
          rfl
         refine hK.out _ _ (((cell_far (p := ⟨gb478, _, none⟩) (by first | exact Nat.ne_of_lt (Nat.lt_of_lt_of_le (by have := World.block_lt_of_cell? _ _ hw475_0; first | rwa [add_block] at this | exact this) GW478.out) | (rw [add_block]; exact Nat.ne_of_lt (Nat.lt_of_lt_of_le (by have := World.block_lt_of_cell? _ _ hw475_0; first | rwa [add_block] at this | exact this) GW478.out)) | (show (Addr.add _ _).block ≠ _; rw [add_block]; exact Nat.ne_of_lt (Nat.lt_of_lt_of_le (by have := World.block_lt_of_cell? _ _ hw475_0; first | rwa [add_block] at this | exact this) GW478.out)) | (dsimp only; exact Nat.ne_of_lt (Nat.lt_of_lt_of_le (by have := World.block_lt_of_cell? _ _ hw475_0; first | rwa [add_block] at this | exact this) GW478.out))) _).trans (((cell_far (p := ⟨gb478, _, none⟩) (by first | exact Nat.ne_of_lt (Nat.lt_of_lt_of_le (by have := World.block_lt_of_cell? _ _ hw475_0; first | rwa [add_block] at this | exact this) GW478.out) | (rw [add_block]; exact Nat.ne_of_lt (Nat.lt_of_lt_of_le (by have := World.block_lt_of_cell? _ _ hw475_0; first | rwa [add_block] at this | exact this) GW478.out)) | (show (Addr.add _ _).block ≠ _; rw [add_block]; exact Nat.ne_of_lt (Nat.lt_of_lt_of_le (by have := World.block_lt_of_cell? _ _ hw475_0; first | rwa [add_block] at this | exact this) GW478.out)) | (dsimp only; exact Nat.ne_of_lt (Nat.lt_of_lt_of_le (by have := World.block_lt_of_cell? _ _ hw475_0; first | rwa [add_block] at this | exact this) GW478.out))) _).trans (((cell_far (p := ⟨gb478, _, none⟩) (by first | exact Nat.ne_of_lt (Nat.lt_of_lt_of_le (by have := World.block_lt_of_cell? _ _ hw475_0; first | rwa [add_block] at this | exact this) GW478.out) | (rw [add_block]; exact Nat.ne_of_lt (Nat.lt_of_lt_of_le (by have := World.block_lt_of_cell? _ _ hw475_0; first | rwa [add_block] at this | exact this) GW478.out)) | (show (Addr.add _ _).block ≠ _; rw [add_block]; exact Nat.ne_of_lt (Nat.lt_of_lt_of_le (by have := World.block_lt_of_cell? _ _ hw475_0; first | rwa [add_block] at this | exact this) GW478.out)) | (dsimp only; exact Nat.ne_of_lt (Nat.lt_of_lt_of_le (by have := World.block_lt_of_cell? _ _ hw475_0; first | rwa [add_block] at this | exact this) GW478.out))) _).trans (((cell_far (p := ⟨gb478, _, none⟩) (by first | exact Nat.ne_of_lt (Nat.lt_of_lt_of_le (by have := World.block_lt_of_cell? _ _ hw475_0; first | rwa [add_block] at this | exact this) GW478.out) | (rw [add_block]; exact Nat.ne_of_lt (Nat.lt_of_lt_of_le (by have := World.block_lt_of_cell? _ _ hw475_0; first | rwa [add_block] at this | exact this) GW478.out)) | (show (Addr.add _ _).block ≠ _; rw [add_block]; exact Nat.ne_of_lt (Nat.lt_of_lt_of_le (by have := World.block_lt_of_cell? _ _ hw475_0; first | rwa [add_block] at this | exact this) GW478.out)) | (dsimp only; exact Nat.ne_of_lt (Nat.lt_of_lt_of_le (by have := World.block_lt_of_cell? _ _ hw475_0; first | rwa [add_block] at this | exact this) GW478.out))) _).trans (((cell_far (p := ⟨gb478, _, none⟩) (by first | exact Nat.ne_of_lt (Nat.lt_of_lt_of_le (by have := World.block_lt_of_cell? _ _ hw475_0; first | rwa [add_block] at this | exact this) GW478.out) | (rw [add_block]; exact Nat.ne_of_lt (Nat.lt_of_lt_of_le (by have := World.block_lt_of_cell? _ _ hw475_0; first | rwa [add_block] at this | exact this) GW478.out)) | (show (Addr.add _ _).block ≠ _; rw [add_block]; exact Nat.ne_of_lt (Nat.lt_of_lt_of_le (by have := World.block_lt_of_cell? _ _ hw475_0; first | rwa [add_block] at this | exact this) GW478.out)) | (dsimp only; exact Nat.ne_of_lt (Nat.lt_of_lt_of_le (by have := World.block_lt_of_cell? _ _ hw475_0; first | rwa [add_block] at this | exact this) GW478.out))) _).trans (hHeld))))))))))) (fun hHeld => ?_)
         clear hK K
         refine done_ (done_of HT_.out (by kernel_rfl)) ?_
         have hnb29 := NB478_469.out
         have hnc29 := NB469_478.out
         have hcz30_0 : w23.cell? ⟨gb478, 0, none⟩ = some (.int .i64 0) := (blk_cell BK478.out 0).trans rfl
         have hcz30_1 : w23.cell? ⟨gb478, 1, none⟩ = some (.int .u32 0) := (blk_cell BK478.out 1).trans rfl
         have hcz30_2 : w23.cell? ⟨gb478, 2, none⟩ = some (.int .i64 0) := (blk_cell BK478.out 2).trans rfl
         have hcz30_3 : w23.cell? ⟨gb478, 3, none⟩ = some (.int .u32 0) := (blk_cell BK478.out 3).trans rfl
         have hcz30_4 : w23.cell? ⟨gb478, 4, none⟩ = some (.int .i64 0) := (blk_cell BK478.out 4).trans rfl
         have hfz30_0 := blk_frozen BK478.out 0
         have hfz30_1 := blk_frozen BK478.out 1
         have hfz30_2 := blk_frozen BK478.out 2
         have hfz30_3 := blk_frozen BK478.out 3
         have hfz30_4 := blk_frozen BK478.out 4
         go_upto_if 63 with (fail)
         go_cut [63] (fun v63 wc => ∃ (kq : Nat) (x63_19 : Bool), v63 = .bool x63_19 ∧ Aside0 (bailiwickref6_Quote.j2 kq l0 (wrap64 ((wrap64 (Go.bits .and .u8 (rd l0 0) 15)) * 4)) (wrap64 (rd l0 9)) x63_19 (wrap64 (rd l0 9)) t476 0 t477 0 = some (r1, r2, r3, r4, r5, r6)) ∧ Aside0 (kq ≤ kj9) ∧ Aside0 (wc.heap[gb469]? = some (.cells #[.int .i64 0, .int .u32 0, .int .i64 0, .int .u32 0, .int .i64 0] 35 (0, 0))) ∧ Aside0 (wc.heap[gb478]? = some (.cells #[.int .i64 (wrap64 (rd l0 9)), .int .u32 t476, .int .i64 0, .int .u32 t477, .int .i64 0] 35 (0, 0))) ∧ Aside0 (Below w.heap.size w wc))
         case first =>
          have H := HC20.out
          clear HC20
          by_cases c31 : (wrap64 (rd l0 9)) = 17
          ·rw [if_pos c31] at H
           have c31b0 : ((wrap64 (rd l0 9)) == 17) = true := beq_iff_eq.mpr c31
           have c31b1 : ((wrap64 (rd l0 9)) != 17) = false := bne_eq_false_iff_eq.mpr c31
           clear c31
           (first | rw [c31b0] | (simp only [i64_w, i32_w]; rw [c31b0]) | skip)
           have H' := Aside0.mk H
           clear H
           go_wp2
           go_meet
           case rel => exact ⟨_, (((wrap64 (rd l0 9)) == 17)), (by first | rfl | (simp; done) | (simp [*]; done)), H', ⟨by have := HJ1.out; have := HJ9.out; first | omega | exact Nat.le_refl _⟩, ⟨by (with_reducible repeat (first | refine blk_drewN ?_ _ | refine blk_drew ?_ | refine blk_alloc ?_ _)); refine blk_far ?_ NB469_478.out _; (with_reducible repeat (first | refine blk_drewN ?_ _ | refine blk_drew ?_ | refine blk_alloc ?_ _)); refine blk_far ?_ NB469_478.out _; (with_reducible repeat (first | refine blk_drewN ?_ _ | refine blk_drew ?_ | refine blk_alloc ?_ _)); refine blk_far ?_ NB469_478.out _; (with_reducible repeat (first | refine blk_drewN ?_ _ | refine blk_drew ?_ | refine blk_alloc ?_ _)); refine blk_far ?_ NB469_478.out _; (with_reducible repeat (first | refine blk_drewN ?_ _ | refine blk_drew ?_ | refine blk_alloc ?_ _)); refine blk_far ?_ NB469_478.out _; (with_reducible repeat (first | refine blk_drewN ?_ _ | refine blk_drew ?_ | refine blk_alloc ?_ _)); exact BK469.out⟩, ⟨by (with_reducible repeat (first | refine blk_drewN ?_ _ | refine blk_drew ?_ | refine blk_alloc ?_ _)); refine blk_put (cs := #[.int .i64 (wrap64 (rd l0 9)), .int .u32 t476, .int .i64 0, .int .u32 t477, .int .i64 0]) ?_ 4 _ rfl; (with_reducible repeat (first | refine blk_drewN ?_ _ | refine blk_drew ?_ | refine blk_alloc ?_ _)); refine blk_put (cs := #[.int .i64 (wrap64 (rd l0 9)), .int .u32 t476, .int .i64 0, .int .u32 0, .int .i64 0]) ?_ 3 _ rfl; (with_reducible repeat (first | refine blk_drewN ?_ _ | refine blk_drew ?_ | refine blk_alloc ?_ _)); refine blk_put (cs := #[.int .i64 (wrap64 (rd l0 9)), .int .u32 t476, .int .i64 0, .int .u32 0, .int .i64 0]) ?_ 2 _ rfl; (with_reducible repeat (first | refine blk_drewN ?_ _ | refine blk_drew ?_ | refine blk_alloc ?_ _)); refine blk_put (cs := #[.int .i64 (wrap64 (rd l0 9)), .int .u32 0, .int .i64 0, .int .u32 0, .int .i64 0]) ?_ 1 _ rfl; (with_reducible repeat (first | refine blk_drewN ?_ _ | refine blk_drew ?_ | refine blk_alloc ?_ _)); refine blk_put (cs := #[.int .i64 0, .int .u32 0, .int .i64 0, .int .u32 0, .int .i64 0]) ?_ 0 _ rfl; (with_reducible repeat (first | refine blk_drewN ?_ _ | refine blk_drew ?_ | refine blk_alloc ?_ _)); exact BK478.out⟩, ⟨by repeat (first | (with_reducible first | exact HB.out | apply below_alloc | apply pw_below_drewN | apply below_drew1 | refine below_set ?_ GE469.out | refine below_set ?_ GE478.out) | exact HB.out)⟩⟩
          ·rw [if_neg c31] at H
           have c31b0 : ((wrap64 (rd l0 9)) == 17) = false := beq_eq_false_iff_ne.mpr c31
           have c31b1 : ((wrap64 (rd l0 9)) != 17) = true := bne_iff_ne.mpr c31
           (first | rw [c31b0] | (simp only [i64_w, i32_w]; rw [c31b0]) | skip)
           have H' := Aside0.mk H
           clear H
           go_wp2
           go_meet
           case rel => exact ⟨_, (((wrap64 (rd l0 9)) == 6)), (by first | rfl | (simp; done) | (simp [*]; done)), H', ⟨by have := HJ1.out; have := HJ9.out; first | omega | exact Nat.le_refl _⟩, ⟨by (with_reducible repeat (first | refine blk_drewN ?_ _ | refine blk_drew ?_ | refine blk_alloc ?_ _)); refine blk_far ?_ NB469_478.out _; (with_reducible repeat (first | refine blk_drewN ?_ _ | refine blk_drew ?_ | refine blk_alloc ?_ _)); refine blk_far ?_ NB469_478.out _; (with_reducible repeat (first | refine blk_drewN ?_ _ | refine blk_drew ?_ | refine blk_alloc ?_ _)); refine blk_far ?_ NB469_478.out _; (with_reducible repeat (first | refine blk_drewN ?_ _ | refine blk_drew ?_ | refine blk_alloc ?_ _)); refine blk_far ?_ NB469_478.out _; (with_reducible repeat (first | refine blk_drewN ?_ _ | refine blk_drew ?_ | refine blk_alloc ?_ _)); refine blk_far ?_ NB469_478.out _; (with_reducible repeat (first | refine blk_drewN ?_ _ | refine blk_drew ?_ | refine blk_alloc ?_ _)); exact BK469.out⟩, ⟨by (with_reducible repeat (first | refine blk_drewN ?_ _ | refine blk_drew ?_ | refine blk_alloc ?_ _)); refine blk_put (cs := #[.int .i64 (wrap64 (rd l0 9)), .int .u32 t476, .int .i64 0, .int .u32 t477, .int .i64 0]) ?_ 4 _ rfl; (with_reducible repeat (first | refine blk_drewN ?_ _ | refine blk_drew ?_ | refine blk_alloc ?_ _)); refine blk_put (cs := #[.int .i64 (wrap64 (rd l0 9)), .int .u32 t476, .int .i64 0, .int .u32 0, .int .i64 0]) ?_ 3 _ rfl; (with_reducible repeat (first | refine blk_drewN ?_ _ | refine blk_drew ?_ | refine blk_alloc ?_ _)); refine blk_put (cs := #[.int .i64 (wrap64 (rd l0 9)), .int .u32 t476, .int .i64 0, .int .u32 0, .int .i64 0]) ?_ 2 _ rfl; (with_reducible repeat (first | refine blk_drewN ?_ _ | refine blk_drew ?_ | refine blk_alloc ?_ _)); refine blk_put (cs := #[.int .i64 (wrap64 (rd l0 9)), .int .u32 0, .int .i64 0, .int .u32 0, .int .i64 0]) ?_ 1 _ rfl; (with_reducible repeat (first | refine blk_drewN ?_ _ | refine blk_drew ?_ | refine blk_alloc ?_ _)); refine blk_put (cs := #[.int .i64 0, .int .u32 0, .int .i64 0, .int .u32 0, .int .i64 0]) ?_ 0 _ rfl; (with_reducible repeat (first | refine blk_drewN ?_ _ | refine blk_drew ?_ | refine blk_alloc ?_ _)); exact BK478.out⟩, ⟨by repeat (first | (with_reducible first | exact HB.out | apply below_alloc | apply pw_below_drewN | apply below_drew1 | refine below_set ?_ GE469.out | refine below_set ?_ GE478.out) | exact HB.out)⟩⟩
         case rest =>
          clear HC20
          try clear c1
          try clear c2
          try clear p2
          try clear c3
          try clear c4
          try clear c4b0
          try clear c4b1
          try clear p4
          try clear q4
          try clear hx4
          try clear qi4
          try clear c5
          try clear c5b0
          try clear c5b1
          try clear c6
          try clear c6b0
          try clear c6b1
          try clear p6
          try clear c7
          try clear c9
          try clear c9b0
          try clear c9b1
          try clear c11
          try clear c11b0
          try clear c12
          try clear c12b0
          try clear c12b1
          try clear c13
          try clear c13b0
          try clear c13b1
          try clear c14
          try clear c14b0
          try clear c14b1
          try clear c15
          try clear c17
          try clear c17b0
          try clear c17b1
          try clear c29
          try clear c31
          try clear c31b0
          try clear c31b1
          try clear hcz16_0
          try clear hcz16_1
          try clear hcz16_2
          try clear hcz16_3
          try clear hcz16_4
          try clear hcz30_0
          try clear hcz30_1
          try clear hcz30_2
          try clear hcz30_3
          try clear hcz30_4
          try clear hcz8_0
          try clear hcz8_1
          try clear hcz8_2
          try clear hcz8_3
          try clear hcz8_4
          try clear hfz16_0
          try clear hfz16_1
          try clear hfz16_2
          try clear hfz16_3
          try clear hfz16_4
          try clear hfz30_0
          try clear hfz30_1
          try clear hfz30_2
          try clear hfz30_3
          try clear hfz30_4
          try clear hfz8_0
          try clear hfz8_1
          try clear hfz8_2
          try clear hfz8_3
          try clear hfz8_4
          try clear hx470_0
          try clear hx471_0
          try clear hx472_0
          try clear hx473_0
          try clear hx474_0
          try clear hx475_0
          try clear p2
          try clear p4
          try clear p470
          try clear p471
          try clear p472
          try clear p473
          try clear p474
          try clear p475
          try clear p6
          try clear q4
          try clear q470
          try clear q471
          try clear q472
          try clear q473
          try clear q474
          try clear q475
          obtain ⟨kq, x63_19, rfl, HA, HJ19, BK469, BK478, HB⟩ := hcut
          cases kq with
          | zero => exact absurd HA.out (by simp [bailiwickref6_Quote.j2])
          | succ kj19 =>
           have H := HA.out
           clear HA
           simp only [bailiwickref6_Quote.j2] at H
           by_cases c32 : x63_19 = true
           ·subst c32
            have H1 : (if 0 ≤ (wrap64 ((wrap64 (Go.bits .and .u8 (rd l0 0) 15)) * 4)) then (if (wrap64 ((wrap64 (Go.bits .and .u8 (rd l0 0) 15)) * 4)) < (l0.length : Int) then (if 0 ≤ (wrap64 ((wrap64 ((wrap64 (Go.bits .and .u8 (rd l0 0) 15)) * 4)) + 1)) then (if (wrap64 ((wrap64 ((wrap64 (Go.bits .and .u8 (rd l0 0) 15)) * 4)) + 1)) < (l0.length : Int) then (if 0 ≤ (wrap64 ((wrap64 ((wrap64 (Go.bits .and .u8 (rd l0 0) 15)) * 4)) + 2)) then (if (wrap64 ((wrap64 ((wrap64 (Go.bits .and .u8 (rd l0 0) 15)) * 4)) + 2)) < (l0.length : Int) then (if 0 ≤ (wrap64 ((wrap64 ((wrap64 (Go.bits .and .u8 (rd l0 0) 15)) * 4)) + 3)) then (if (wrap64 ((wrap64 ((wrap64 (Go.bits .and .u8 (rd l0 0) 15)) * 4)) + 3)) < (l0.length : Int) then (some ((wrap64 (rd l0 9)), t476, Go.bits .or .i64 (wrap64 ((wrap64 (rd l0 (wrap64 ((wrap64 (Go.bits .and .u8 (rd l0 0) 15)) * 4)))) * 256)) (wrap64 (rd l0 (wrap64 ((wrap64 ((wrap64 (Go.bits .and .u8 (rd l0 0) 15)) * 4)) + 1)))), t477, Go.bits .or .i64 (wrap64 ((wrap64 (rd l0 (wrap64 ((wrap64 ((wrap64 (Go.bits .and .u8 (rd l0 0) 15)) * 4)) + 2)))) * 256)) (wrap64 (rd l0 (wrap64 ((wrap64 ((wrap64 (Go.bits .and .u8 (rd l0 0) 15)) * 4)) + 3)))), true)) else (none)) else (none)) else (none)) else (none)) else (none)) else (none)) else (none)) else (none)) = some (r1, r2, r3, r4, r5, r6) := by rw [if_pos rfl] at H; exact H
            clear H
            have H := H1
            clear H1
            obtain ⟨ji33, hji33⟩ : ∃ j_ : Int, (wrap64 ((wrap64 (Go.bits .and .u8 (rd l0 0) 15)) * 4)) = j_ := ⟨_, rfl⟩
            replace H : (if 0 ≤ (ji33) then (if (ji33) < (l0.length : Int) then (if 0 ≤ (wrap64 ((ji33) + 1)) then (if (wrap64 ((ji33) + 1)) < (l0.length : Int) then (if 0 ≤ (wrap64 ((ji33) + 2)) then (if (wrap64 ((ji33) + 2)) < (l0.length : Int) then (if 0 ≤ (wrap64 ((ji33) + 3)) then (if (wrap64 ((ji33) + 3)) < (l0.length : Int) then (some ((wrap64 (rd l0 9)), t476, Go.bits .or .i64 (wrap64 ((wrap64 (rd l0 (ji33))) * 256)) (wrap64 (rd l0 (wrap64 ((ji33) + 1)))), t477, Go.bits .or .i64 (wrap64 ((wrap64 (rd l0 (wrap64 ((ji33) + 2)))) * 256)) (wrap64 (rd l0 (wrap64 ((ji33) + 3)))), true)) else (none)) else (none)) else (none)) else (none)) else (none)) else (none)) else (none)) else (none)) = some (r1, r2, r3, r4, r5, r6) := by first | (rw [hji33] at H; exact H) | (simp only [hji33] at H ⊢; exact H)
            have hji33w : (IntKind.i64.wrap ((wrap64 (Go.bits .and .u8 (rd l0 0) 15)) * 4)) = ji33 := (i64_w _).trans hji33
            by_cases c34 : 0 ≤ (ji33)
            ·rw [if_pos c34] at H
             have c34b0 : decide (0 ≤ (ji33)) = true := decide_eq_true c34
             clear c34
             by_cases c35 : (ji33) < (l0.length : Int)
             ·rw [if_pos c35] at H
              have c35b0 : decide ((ji33) < (l0.length : Int)) = true := decide_eq_true c35
              clear c35
              obtain ⟨ji36, hji36⟩ : ∃ j_ : Int, (wrap64 ((ji33) + 1)) = j_ := ⟨_, rfl⟩
              replace H : (if 0 ≤ (ji36) then (if (ji36) < (l0.length : Int) then (if 0 ≤ (wrap64 ((ji33) + 2)) then (if (wrap64 ((ji33) + 2)) < (l0.length : Int) then (if 0 ≤ (wrap64 ((ji33) + 3)) then (if (wrap64 ((ji33) + 3)) < (l0.length : Int) then (some ((wrap64 (rd l0 9)), t476, Go.bits .or .i64 (wrap64 ((wrap64 (rd l0 (ji33))) * 256)) (wrap64 (rd l0 (ji36))), t477, Go.bits .or .i64 (wrap64 ((wrap64 (rd l0 (wrap64 ((ji33) + 2)))) * 256)) (wrap64 (rd l0 (wrap64 ((ji33) + 3)))), true)) else (none)) else (none)) else (none)) else (none)) else (none)) else (none)) = some (r1, r2, r3, r4, r5, r6) := by first | (rw [hji36] at H; exact H) | (simp only [hji36] at H ⊢; exact H)
              have hji36w : (IntKind.i64.wrap ((ji33) + 1)) = ji36 := (i64_w _).trans hji36
              by_cases c37 : 0 ≤ (ji36)
              ·rw [if_pos c37] at H
               have c37b0 : decide (0 ≤ (ji36)) = true := decide_eq_true c37
               clear c37
               by_cases c38 : (ji36) < (l0.length : Int)
               ·rw [if_pos c38] at H
                have c38b0 : decide ((ji36) < (l0.length : Int)) = true := decide_eq_true c38
                clear c38
                obtain ⟨ji39, hji39⟩ : ∃ j_ : Int, (wrap64 ((ji33) + 2)) = j_ := ⟨_, rfl⟩
                replace H : (if 0 ≤ (ji39) then (if (ji39) < (l0.length : Int) then (if 0 ≤ (wrap64 ((ji33) + 3)) then (if (wrap64 ((ji33) + 3)) < (l0.length : Int) then (some ((wrap64 (rd l0 9)), t476, Go.bits .or .i64 (wrap64 ((wrap64 (rd l0 (ji33))) * 256)) (wrap64 (rd l0 (ji36))), t477, Go.bits .or .i64 (wrap64 ((wrap64 (rd l0 (ji39))) * 256)) (wrap64 (rd l0 (wrap64 ((ji33) + 3)))), true)) else (none)) else (none)) else (none)) else (none)) = some (r1, r2, r3, r4, r5, r6) := by first | (rw [hji39] at H; exact H) | (simp only [hji39] at H ⊢; exact H)
                have hji39w : (IntKind.i64.wrap ((ji33) + 2)) = ji39 := (i64_w _).trans hji39
                by_cases c40 : 0 ≤ (ji39)
                ·rw [if_pos c40] at H
                 have c40b0 : decide (0 ≤ (ji39)) = true := decide_eq_true c40
                 clear c40
                 by_cases c41 : (ji39) < (l0.length : Int)
                 ·rw [if_pos c41] at H
                  have c41b0 : decide ((ji39) < (l0.length : Int)) = true := decide_eq_true c41
                  clear c41
                  obtain ⟨ji42, hji42⟩ : ∃ j_ : Int, (wrap64 ((ji33) + 3)) = j_ := ⟨_, rfl⟩
                  replace H : (if 0 ≤ (ji42) then (if (ji42) < (l0.length : Int) then (some ((wrap64 (rd l0 9)), t476, Go.bits .or .i64 (wrap64 ((wrap64 (rd l0 (ji33))) * 256)) (wrap64 (rd l0 (ji36))), t477, Go.bits .or .i64 (wrap64 ((wrap64 (rd l0 (ji39))) * 256)) (wrap64 (rd l0 (ji42))), true)) else (none)) else (none)) = some (r1, r2, r3, r4, r5, r6) := by first | (rw [hji42] at H; exact H) | (simp only [hji42] at H ⊢; exact H)
                  have hji42w : (IntKind.i64.wrap ((ji33) + 3)) = ji42 := (i64_w _).trans hji42
                  by_cases c43 : 0 ≤ (ji42)
                  ·rw [if_pos c43] at H
                   have c43b0 : decide (0 ≤ (ji42)) = true := decide_eq_true c43
                   clear c43
                   by_cases c44 : (ji42) < (l0.length : Int)
                   ·rw [if_pos c44] at H
                    have c44b0 : decide ((ji42) < (l0.length : Int)) = true := decide_eq_true c44
                    clear c44
                    simp only [Option.some.injEq, Prod.mk.injEq] at H
                    obtain ⟨rfl, rfl, rfl, rfl, rfl, rfl⟩ := H
                    try go_wp2
                    have n0_ := Aside0.mk (blk_drew BK469.out)
                    have n1_ := Aside0.mk (blk_drew BK478.out)
                    have n2_ := Aside0.mk (below_drew1 HB.out)
                    clear BK469
                    clear BK478
                    clear HB
                    have BK469 := n0_
                    have BK478 := n1_
                    have HB := n2_
                    clear n0_ n1_ n2_
                    have p479 : 0 ≤ ((ji33) : Int) := of_decide_eq_true (by first | (with_reducible assumption) | assumption)
                    have q479 : (ji33) < (l0.length : Int) := of_decide_eq_true (by first | (with_reducible assumption) | assumption)
                    obtain ⟨ad479, e479, hx479_0⟩ := Kd.at_int HR0.out (ji33) p479 q479
                    have hw479_0 := hx479_0
                    obtain rfl : ad472 = ad479 := (by injection e479)
                    replace hx479_0 := (HB.out.cell (World.block_lt_of_cell? w _ hx479_0)).trans hx479_0
                    replace p479 := eq_true p479
                    replace q479 := eq_true q479
                    have p480 : 0 ≤ ((ji36) : Int) := of_decide_eq_true (by first | (with_reducible assumption) | assumption)
                    have q480 : (ji36) < (l0.length : Int) := of_decide_eq_true (by first | (with_reducible assumption) | assumption)
                    obtain ⟨ad480, e480, hx480_0⟩ := Kd.at_int HR0.out (ji36) p480 q480
                    have hw480_0 := hx480_0
                    obtain rfl : ad472 = ad480 := (by injection e480)
                    replace hx480_0 := (HB.out.cell (World.block_lt_of_cell? w _ hx480_0)).trans hx480_0
                    replace p480 := eq_true p480
                    replace q480 := eq_true q480
                    refine start_ (n := 16) (S := fun w' => w'.cell? (ad472.add ((ji33)).toNat) = some (.int .u8 (rd l0 (ji33))) ∧ w'.cell? (ad472.add ((ji36)).toNat) = some (.int .u8 (rd l0 (ji36)))) (ds := []) #[false, false, false, false, false, false, false, false, false, false, false, false, false, false, false, false] (by kernel_rfl) rfl rfl ⟨((HB.out.cell (World.block_lt_of_cell? w _ hw479_0)).trans hw479_0), ((HB.out.cell (World.block_lt_of_cell? w _ hw480_0)).trans hw480_0)⟩ (fun hHeld => ?_); refine with_tabW bailiwickref6_Quote.tab11 bailiwickref6_Quote.bits11 (fun HT_ HW_ => ?_)
                    generalize wc.drew = w45 at BK469 BK478 HB hx479_0 hx480_0 hHeld ⊢
                    refine pure_ (i := 0) (N := some 66) (v := ?_) (a' := ?_) #[true, false, false, false, false, false, false, false, false, false, false, false, false, false, false, false] rfl rfl (any_of HT_.out (by kernel_rfl)) (fun _ _ _ h => h) (Or.inl ⟨by rfl, ?_⟩) ?_ ?_
                    rotate_left
                    ·intro w'
                     go_simp
                     with_reducible rfl
                    rotate_left
                    ·simp only [Act.put, List.setIfInBounds_toArray, List.set_cons_zero, List.set_cons_succ, i64_w, i32_w]
                     rfl
                    refine pure_ (i := 1) (N := some 67) (v := ?_) (a' := ?_) #[true, true, false, false, false, false, false, false, false, false, false, false, false, false, false, false] rfl rfl (any_of HT_.out (by kernel_rfl)) (fun _ _ _ h => h) (Or.inl ⟨by rfl, ?_⟩) ?_ ?_
                    rotate_left
                    ·intro w'
                     go_simp
                     with_reducible rfl
                    rotate_left
                    ·simp only [Act.put, List.setIfInBounds_toArray, List.set_cons_zero, List.set_cons_succ, i64_w, i32_w]
                     rfl
                    refine pure_ (i := 2) (N := some 68) (v := ?_) (a' := ?_) #[true, true, true, false, false, false, false, false, false, false, false, false, false, false, false, false] rfl rfl (any_of HT_.out (by kernel_rfl)) (fun _ _ _ h => h) (Or.inl ⟨by rfl, ?_⟩) ?_ ?_
                    rotate_left
                    ·intro w'
                     go_simp
                     with_reducible rfl
                    rotate_left
                    ·simp only [Act.put, List.setIfInBounds_toArray, List.set_cons_zero, List.set_cons_succ, i64_w, i32_w]
                     rfl
                    refine pure_ (i := 6) (N := some 72) (v := ?_) (a' := ?_) #[true, true, true, false, false, false, true, false, false, false, false, false, false, false, false, false] rfl rfl (any_of HT_.out (by kernel_rfl)) (fun _ _ _ h => h) (Or.inl ⟨by rfl, ?_⟩) ?_ ?_
                    rotate_left
                    ·intro w'
                     go_simp
                     with_reducible rfl
                    rotate_left
                    ·simp only [Act.put, List.setIfInBounds_toArray, List.set_cons_zero, List.set_cons_succ, i64_w, i32_w]
                     rfl
                    refine pure_ (i := 7) (N := some 73) (v := ?_) (a' := ?_) #[true, true, true, false, false, false, true, true, false, false, false, false, false, false, false, false] rfl rfl (any_of HT_.out (by kernel_rfl)) (fun _ _ _ h => h) (Or.inl ⟨by rfl, ?_⟩) ?_ ?_
                    rotate_left
                    ·intro w'
                     go_simp
                     with_reducible rfl
                    rotate_left
                    ·simp only [Act.put, List.setIfInBounds_toArray, List.set_cons_zero, List.set_cons_succ, i64_w, i32_w]
                     rfl
                    refine pure_ (i := 8) (N := some 74) (v := ?_) (a' := ?_) #[true, true, true, false, false, false, true, true, true, false, false, false, false, false, false, false] rfl rfl (any_of HT_.out (by kernel_rfl)) (fun _ _ _ h => h) (Or.inl ⟨by rfl, ?_⟩) ?_ ?_
                    rotate_left
                    ·intro w'
                     go_simp
                     with_reducible rfl
                    rotate_left
                    ·simp only [Act.put, List.setIfInBounds_toArray, List.set_cons_zero, List.set_cons_succ, i64_w, i32_w]
                     rfl
                    refine pure_ (i := 9) (N := some 75) (v := ?_) (a' := ?_) #[true, true, true, false, false, false, true, true, true, true, false, false, false, false, false, false] rfl rfl (any_of HT_.out (by kernel_rfl)) (fun _ _ _ h => h) (Or.inl ⟨by rfl, ?_⟩) ?_ ?_
                    rotate_left
                    ·intro w'
                     go_simp
                     with_reducible rfl
                    rotate_left
                    ·simp only [Act.put, List.setIfInBounds_toArray, List.set_cons_zero, List.set_cons_succ, i64_w, i32_w]
                     rfl
                    refine take_ (i := 3) (N := some 69) (v := ?_) (a' := ?_) #[true, true, true, true, false, false, true, true, true, true, false, false, false, false, false, false] rfl rfl (take_ofW HT_.out HW_.out (by kernel_rfl)) (fun _ _ _ h => h) (Or.inl ⟨by rfl, ?_⟩) hHeld ?_ ?_
                    rotate_left
                    ·rintro w' ⟨s0, s1⟩
                     go_simp
                     with_reducible rfl
                    rotate_left
                    ·simp only [Act.put, List.setIfInBounds_toArray, List.set_cons_zero, List.set_cons_succ, i64_w, i32_w]
                     rfl
                    refine pure_ (i := 4) (N := some 70) (v := ?_) (a' := ?_) #[true, true, true, true, true, false, true, true, true, true, false, false, false, false, false, false] rfl rfl (any_of HT_.out (by kernel_rfl)) (fun _ _ _ h => h) (Or.inl ⟨by rfl, ?_⟩) ?_ ?_
                    rotate_left
                    ·intro w'
                     go_simp
                     with_reducible rfl
                    rotate_left
                    ·simp only [Act.put, List.setIfInBounds_toArray, List.set_cons_zero, List.set_cons_succ, i64_w, i32_w]
                     rfl
                    refine pure_ (i := 5) (N := some 71) (v := ?_) (a' := ?_) #[true, true, true, true, true, true, true, true, true, true, false, false, false, false, false, false] rfl rfl (any_of HT_.out (by kernel_rfl)) (fun _ _ _ h => h) (Or.inl ⟨by rfl, ?_⟩) ?_ ?_
                    rotate_left
                    ·intro w'
                     go_simp
                     with_reducible rfl
                    rotate_left
                    ·simp only [Act.put, List.setIfInBounds_toArray, List.set_cons_zero, List.set_cons_succ, i64_w, i32_w]
                     rfl
                    refine take_ (i := 10) (N := some 76) (v := ?_) (a' := ?_) #[true, true, true, true, true, true, true, true, true, true, true, false, false, false, false, false] rfl rfl (take_ofW HT_.out HW_.out (by kernel_rfl)) (fun _ _ _ h => h) (Or.inl ⟨by rfl, ?_⟩) hHeld ?_ ?_
                    rotate_left
                    ·rintro w' ⟨s0, s1⟩
                     go_simp
                     with_reducible rfl
                    rotate_left
                    ·simp only [Act.put, List.setIfInBounds_toArray, List.set_cons_zero, List.set_cons_succ, i64_w, i32_w]
                     rfl
                    refine pure_ (i := 11) (N := some 77) (v := ?_) (a' := ?_) #[true, true, true, true, true, true, true, true, true, true, true, true, false, false, false, false] rfl rfl (any_of HT_.out (by kernel_rfl)) (fun _ _ _ h => h) (Or.inl ⟨by rfl, ?_⟩) ?_ ?_
                    rotate_left
                    ·intro w'
                     go_simp
                     with_reducible rfl
                    rotate_left
                    ·simp only [Act.put, List.setIfInBounds_toArray, List.set_cons_zero, List.set_cons_succ, i64_w, i32_w]
                     rfl
                    refine pure_ (i := 12) (N := some 78) (v := ?_) (a' := ?_) #[true, true, true, true, true, true, true, true, true, true, true, true, true, false, false, false] rfl rfl (any_of HT_.out (by kernel_rfl)) (fun _ _ _ h => h) (Or.inl ⟨by rfl, ?_⟩) ?_ ?_
                    rotate_left
                    ·intro w'
                     go_simp
                     with_reducible rfl
                    rotate_left
                    ·simp only [Act.put, List.setIfInBounds_toArray, List.set_cons_zero, List.set_cons_succ, i64_w, i32_w]
                     rfl
                    refine pure_ (i := 13) (N := some 79) (v := ?_) (a' := ?_) #[true, true, true, true, true, true, true, true, true, true, true, true, true, true, false, false] rfl rfl (any_of HT_.out (by kernel_rfl)) (fun _ _ _ h => h) (Or.inl ⟨by rfl, ?_⟩) ?_ ?_
                    rotate_left
                    ·intro w'
                     go_simp
                     with_reducible rfl
                    rotate_left
                    ·simp only [Act.put, List.setIfInBounds_toArray, List.set_cons_zero, List.set_cons_succ, i64_w, i32_w]
                     rfl
                    refine pure_ (i := 14) (N := some 80) (v := ?_) (a' := ?_) #[true, true, true, true, true, true, true, true, true, true, true, true, true, true, true, false] rfl rfl (any_of HT_.out (by kernel_rfl)) (fun _ _ _ h => h) (Or.inl ⟨by rfl, ?_⟩) ?_ ?_
                    rotate_left
                    ·intro w'
                     go_simp
                     with_reducible rfl
                    rotate_left
                    ·simp only [Act.put, List.setIfInBounds_toArray, List.set_cons_zero, List.set_cons_succ, i64_w, i32_w]
                     rfl
                    refine one_ (i := 15) (N := none) #[true, true, true, true, true, true, true, true, true, true, true, true, true, true, true, true] rfl rfl (one_of HT_.out (by kernel_rfl)) (by decide) (fun K hK => ?_)
                    have hs46 : w45.cell? ⟨gb478, 2, none⟩ = some (.int .i64 0) := (blk_cell BK478.out 2).trans rfl
                    have hfs46 := blk_frozen BK478.out 2
                    have hns46_0 := NB469_478.out
                    have hms46_0 := NB478_469.out
                    refine skip_ (w1 := ?_) (by rfl) rfl ?_ ?_
                    rotate_left
                    ·go_simp
                     rfl
                    refine hK.out _ _ ⟨((cell_far (p := ⟨gb478, _, none⟩) (by first | exact Nat.ne_of_lt (Nat.lt_of_lt_of_le (by have := World.block_lt_of_cell? _ _ hw479_0; first | rwa [add_block] at this | exact this) GW478.out) | (rw [add_block]; exact Nat.ne_of_lt (Nat.lt_of_lt_of_le (by have := World.block_lt_of_cell? _ _ hw479_0; first | rwa [add_block] at this | exact this) GW478.out)) | (show (Addr.add _ _).block ≠ _; rw [add_block]; exact Nat.ne_of_lt (Nat.lt_of_lt_of_le (by have := World.block_lt_of_cell? _ _ hw479_0; first | rwa [add_block] at this | exact this) GW478.out)) | (dsimp only; exact Nat.ne_of_lt (Nat.lt_of_lt_of_le (by have := World.block_lt_of_cell? _ _ hw479_0; first | rwa [add_block] at this | exact this) GW478.out))) _).trans (hHeld.1)), ((cell_far (p := ⟨gb478, _, none⟩) (by first | exact Nat.ne_of_lt (Nat.lt_of_lt_of_le (by have := World.block_lt_of_cell? _ _ hw480_0; first | rwa [add_block] at this | exact this) GW478.out) | (rw [add_block]; exact Nat.ne_of_lt (Nat.lt_of_lt_of_le (by have := World.block_lt_of_cell? _ _ hw480_0; first | rwa [add_block] at this | exact this) GW478.out)) | (show (Addr.add _ _).block ≠ _; rw [add_block]; exact Nat.ne_of_lt (Nat.lt_of_lt_of_le (by have := World.block_lt_of_cell? _ _ hw480_0; first | rwa [add_block] at this | exact this) GW478.out)) | (dsimp only; exact Nat.ne_of_lt (Nat.lt_of_lt_of_le (by have := World.block_lt_of_cell? _ _ hw480_0; first | rwa [add_block] at this | exact this) GW478.out))) _).trans (hHeld.2))⟩ (fun hHeld => ?_)
                    clear hK K
                    refine done_ (done_of HT_.out (by kernel_rfl)) ?_
                    try go_wp2
                    have n0_ : Aside0 ((w45.setCell ⟨gb478, 2, none⟩ (.int .i64 (Go.bits .or .i64 (wrap64 ((wrap64 (rd l0 (ji33))) * 256)) (wrap64 (rd l0 (ji36)))))).heap[gb469]? = some (.cells #[.int .i64 0, .int .u32 0, .int .i64 0, .int .u32 0, .int .i64 0] 35 (0, 0))) := ⟨by (with_reducible repeat (first | refine blk_drewN ?_ _ | refine blk_drew ?_ | refine blk_alloc ?_ _)); refine blk_far ?_ NB469_478.out _; (with_reducible repeat (first | refine blk_drewN ?_ _ | refine blk_drew ?_ | refine blk_alloc ?_ _)); exact BK469.out⟩
                    have n1_ : Aside0 ((w45.setCell ⟨gb478, 2, none⟩ (.int .i64 (Go.bits .or .i64 (wrap64 ((wrap64 (rd l0 (ji33))) * 256)) (wrap64 (rd l0 (ji36)))))).heap[gb478]? = some (.cells #[.int .i64 (wrap64 (rd l0 9)), .int .u32 t476, .int .i64 (Go.bits .or .i64 (wrap64 ((wrap64 (rd l0 (ji33))) * 256)) (wrap64 (rd l0 (ji36)))), .int .u32 t477, .int .i64 0] 35 (0, 0))) := ⟨by (with_reducible repeat (first | refine blk_drewN ?_ _ | refine blk_drew ?_ | refine blk_alloc ?_ _)); refine blk_put (cs := #[.int .i64 (wrap64 (rd l0 9)), .int .u32 t476, .int .i64 0, .int .u32 t477, .int .i64 0]) ?_ 2 _ rfl; (with_reducible repeat (first | refine blk_drewN ?_ _ | refine blk_drew ?_ | refine blk_alloc ?_ _)); exact BK478.out⟩
                    have n2_ : Aside0 (Below w.heap.size w (w45.setCell ⟨gb478, 2, none⟩ (.int .i64 (Go.bits .or .i64 (wrap64 ((wrap64 (rd l0 (ji33))) * 256)) (wrap64 (rd l0 (ji36))))))) := ⟨by repeat (first | (with_reducible first | exact HB.out | apply below_alloc | apply pw_below_drewN | apply below_drew1 | refine below_set ?_ GE469.out | refine below_set ?_ GE478.out) | exact HB.out)⟩
                    (try clear BK469)
                    (try clear BK478)
                    (try clear HB)
                    generalize (w45.setCell ⟨gb478, 2, none⟩ (.int .i64 (Go.bits .or .i64 (wrap64 ((wrap64 (rd l0 (ji33))) * 256)) (wrap64 (rd l0 (ji36)))))) = w47 at n0_ n1_ n2_ ⊢
                    have BK469 := n0_
                    have BK478 := n1_
                    have HB := n2_
                    clear n0_ n1_ n2_
                    have n0_ := Aside0.mk (blk_drew BK469.out)
                    have n1_ := Aside0.mk (blk_drew BK478.out)
                    have n2_ := Aside0.mk (below_drew1 HB.out)
                    clear BK469
                    clear BK478
                    clear HB
                    have BK469 := n0_
                    have BK478 := n1_
                    have HB := n2_
                    clear n0_ n1_ n2_
                    have p481 : 0 ≤ ((ji39) : Int) := of_decide_eq_true (by first | (with_reducible assumption) | assumption)
                    have q481 : (ji39) < (l0.length : Int) := of_decide_eq_true (by first | (with_reducible assumption) | assumption)
                    obtain ⟨ad481, e481, hx481_0⟩ := Kd.at_int HR0.out (ji39) p481 q481
                    have hw481_0 := hx481_0
                    obtain rfl : ad472 = ad481 := (by injection e481)
                    replace hx481_0 := (HB.out.cell (World.block_lt_of_cell? w _ hx481_0)).trans hx481_0
                    replace p481 := eq_true p481
                    replace q481 := eq_true q481
                    have p482 : 0 ≤ ((ji42) : Int) := of_decide_eq_true (by first | (with_reducible assumption) | assumption)
                    have q482 : (ji42) < (l0.length : Int) := of_decide_eq_true (by first | (with_reducible assumption) | assumption)
                    obtain ⟨ad482, e482, hx482_0⟩ := Kd.at_int HR0.out (ji42) p482 q482
                    have hw482_0 := hx482_0
                    obtain rfl : ad472 = ad482 := (by injection e482)
                    replace hx482_0 := (HB.out.cell (World.block_lt_of_cell? w _ hx482_0)).trans hx482_0
                    replace p482 := eq_true p482
                    replace q482 := eq_true q482
                    refine start_ (n := 17) (S := fun w' => w'.cell? (ad472.add ((ji39)).toNat) = some (.int .u8 (rd l0 (ji39))) ∧ w'.cell? (ad472.add ((ji42)).toNat) = some (.int .u8 (rd l0 (ji42)))) (ds := []) #[false, false, false, false, false, false, false, false, false, false, false, false, false, false, false, false, false] (by kernel_rfl) rfl rfl ⟨((HB.out.cell (World.block_lt_of_cell? w _ hw481_0)).trans hw481_0), ((HB.out.cell (World.block_lt_of_cell? w _ hw482_0)).trans hw482_0)⟩ (fun hHeld => ?_); refine with_tabW bailiwickref6_Quote.tab12 bailiwickref6_Quote.bits12 (fun HT_ HW_ => ?_)
                    generalize w47.drew = w48 at BK469 BK478 HB hx481_0 hx482_0 hHeld ⊢
                    refine pure_ (i := 0) (N := some 81) (v := ?_) (a' := ?_) #[true, false, false, false, false, false, false, false, false, false, false, false, false, false, false, false, false] rfl rfl (any_of HT_.out (by kernel_rfl)) (fun _ _ _ h => h) (Or.inl ⟨by rfl, ?_⟩) ?_ ?_
                    rotate_left
                    ·intro w'
                     go_simp
                     with_reducible rfl
                    rotate_left
                    ·simp only [Act.put, List.setIfInBounds_toArray, List.set_cons_zero, List.set_cons_succ, i64_w, i32_w]
                     rfl
                    refine pure_ (i := 1) (N := some 82) (v := ?_) (a' := ?_) #[true, true, false, false, false, false, false, false, false, false, false, false, false, false, false, false, false] rfl rfl (any_of HT_.out (by kernel_rfl)) (fun _ _ _ h => h) (Or.inl ⟨by rfl, ?_⟩) ?_ ?_
                    rotate_left
                    ·intro w'
                     go_simp
                     with_reducible rfl
                    rotate_left
                    ·simp only [Act.put, List.setIfInBounds_toArray, List.set_cons_zero, List.set_cons_succ, i64_w, i32_w]
                     rfl
                    refine pure_ (i := 2) (N := some 83) (v := ?_) (a' := ?_) #[true, true, true, false, false, false, false, false, false, false, false, false, false, false, false, false, false] rfl rfl (any_of HT_.out (by kernel_rfl)) (fun _ _ _ h => h) (Or.inl ⟨by rfl, ?_⟩) ?_ ?_
                    rotate_left
                    ·intro w'
                     go_simp
                     with_reducible rfl
                    rotate_left
                    ·simp only [Act.put, List.setIfInBounds_toArray, List.set_cons_zero, List.set_cons_succ, i64_w, i32_w]
                     rfl
                    refine pure_ (i := 3) (N := some 84) (v := ?_) (a' := ?_) #[true, true, true, true, false, false, false, false, false, false, false, false, false, false, false, false, false] rfl rfl (any_of HT_.out (by kernel_rfl)) (fun _ _ _ h => h) (Or.inl ⟨by rfl, ?_⟩) ?_ ?_
                    rotate_left
                    ·intro w'
                     go_simp
                     with_reducible rfl
                    rotate_left
                    ·simp only [Act.put, List.setIfInBounds_toArray, List.set_cons_zero, List.set_cons_succ, i64_w, i32_w]
                     rfl
                    refine pure_ (i := 7) (N := some 88) (v := ?_) (a' := ?_) #[true, true, true, true, false, false, false, true, false, false, false, false, false, false, false, false, false] rfl rfl (any_of HT_.out (by kernel_rfl)) (fun _ _ _ h => h) (Or.inl ⟨by rfl, ?_⟩) ?_ ?_
                    rotate_left
                    ·intro w'
                     go_simp
                     with_reducible rfl
                    rotate_left
                    ·simp only [Act.put, List.setIfInBounds_toArray, List.set_cons_zero, List.set_cons_succ, i64_w, i32_w]
                     rfl
                    refine pure_ (i := 8) (N := some 89) (v := ?_) (a' := ?_) #[true, true, true, true, false, false, false, true, true, false, false, false, false, false, false, false, false] rfl rfl (any_of HT_.out (by kernel_rfl)) (fun _ _ _ h => h) (Or.inl ⟨by rfl, ?_⟩) ?_ ?_
                    rotate_left
                    ·intro w'
                     go_simp
                     with_reducible rfl
                    rotate_left
                    ·simp only [Act.put, List.setIfInBounds_toArray, List.set_cons_zero, List.set_cons_succ, i64_w, i32_w]
                     rfl
                    refine pure_ (i := 9) (N := some 90) (v := ?_) (a' := ?_) #[true, true, true, true, false, false, false, true, true, true, false, false, false, false, false, false, false] rfl rfl (any_of HT_.out (by kernel_rfl)) (fun _ _ _ h => h) (Or.inl ⟨by rfl, ?_⟩) ?_ ?_
                    rotate_left
                    ·intro w'
                     go_simp
                     with_reducible rfl
                    rotate_left
                    ·simp only [Act.put, List.setIfInBounds_toArray, List.set_cons_zero, List.set_cons_succ, i64_w, i32_w]
                     rfl
                    refine pure_ (i := 10) (N := some 91) (v := ?_) (a' := ?_) #[true, true, true, true, false, false, false, true, true, true, true, false, false, false, false, false, false] rfl rfl (any_of HT_.out (by kernel_rfl)) (fun _ _ _ h => h) (Or.inl ⟨by rfl, ?_⟩) ?_ ?_
                    rotate_left
                    ·intro w'
                     go_simp
                     with_reducible rfl
                    rotate_left
                    ·simp only [Act.put, List.setIfInBounds_toArray, List.set_cons_zero, List.set_cons_succ, i64_w, i32_w]
                     rfl
                    refine take_ (i := 4) (N := some 85) (v := ?_) (a' := ?_) #[true, true, true, true, true, false, false, true, true, true, true, false, false, false, false, false, false] rfl rfl (take_ofW HT_.out HW_.out (by kernel_rfl)) (fun _ _ _ h => h) (Or.inl ⟨by rfl, ?_⟩) hHeld ?_ ?_
                    rotate_left
                    ·rintro w' ⟨s0, s1⟩
                     go_simp
                     with_reducible rfl
                    rotate_left
                    ·simp only [Act.put, List.setIfInBounds_toArray, List.set_cons_zero, List.set_cons_succ, i64_w, i32_w]
                     rfl
                    refine pure_ (i := 5) (N := some 86) (v := ?_) (a' := ?_) #[true, true, true, true, true, true, false, true, true, true, true, false, false, false, false, false, false] rfl rfl (any_of HT_.out (by kernel_rfl)) (fun _ _ _ h => h) (Or.inl ⟨by rfl, ?_⟩) ?_ ?_
                    rotate_left
                    ·intro w'
                     go_simp
                     with_reducible rfl
                    rotate_left
                    ·simp only [Act.put, List.setIfInBounds_toArray, List.set_cons_zero, List.set_cons_succ, i64_w, i32_w]
                     rfl
                    refine pure_ (i := 6) (N := some 87) (v := ?_) (a' := ?_) #[true, true, true, true, true, true, true, true, true, true, true, false, false, false, false, false, false] rfl rfl (any_of HT_.out (by kernel_rfl)) (fun _ _ _ h => h) (Or.inl ⟨by rfl, ?_⟩) ?_ ?_
                    rotate_left
                    ·intro w'
                     go_simp
                     with_reducible rfl
                    rotate_left
                    ·simp only [Act.put, List.setIfInBounds_toArray, List.set_cons_zero, List.set_cons_succ, i64_w, i32_w]
                     rfl
                    refine take_ (i := 11) (N := some 92) (v := ?_) (a' := ?_) #[true, true, true, true, true, true, true, true, true, true, true, true, false, false, false, false, false] rfl rfl (take_ofW HT_.out HW_.out (by kernel_rfl)) (fun _ _ _ h => h) (Or.inl ⟨by rfl, ?_⟩) hHeld ?_ ?_
                    rotate_left
                    ·rintro w' ⟨s0, s1⟩
                     go_simp
                     with_reducible rfl
                    rotate_left
                    ·simp only [Act.put, List.setIfInBounds_toArray, List.set_cons_zero, List.set_cons_succ, i64_w, i32_w]
                     rfl
                    refine pure_ (i := 12) (N := some 93) (v := ?_) (a' := ?_) #[true, true, true, true, true, true, true, true, true, true, true, true, true, false, false, false, false] rfl rfl (any_of HT_.out (by kernel_rfl)) (fun _ _ _ h => h) (Or.inl ⟨by rfl, ?_⟩) ?_ ?_
                    rotate_left
                    ·intro w'
                     go_simp
                     with_reducible rfl
                    rotate_left
                    ·simp only [Act.put, List.setIfInBounds_toArray, List.set_cons_zero, List.set_cons_succ, i64_w, i32_w]
                     rfl
                    refine pure_ (i := 13) (N := some 94) (v := ?_) (a' := ?_) #[true, true, true, true, true, true, true, true, true, true, true, true, true, true, false, false, false] rfl rfl (any_of HT_.out (by kernel_rfl)) (fun _ _ _ h => h) (Or.inl ⟨by rfl, ?_⟩) ?_ ?_
                    rotate_left
                    ·intro w'
                     go_simp
                     with_reducible rfl
                    rotate_left
                    ·simp only [Act.put, List.setIfInBounds_toArray, List.set_cons_zero, List.set_cons_succ, i64_w, i32_w]
                     rfl
                    refine pure_ (i := 14) (N := some 95) (v := ?_) (a' := ?_) #[true, true, true, true, true, true, true, true, true, true, true, true, true, true, true, false, false] rfl rfl (any_of HT_.out (by kernel_rfl)) (fun _ _ _ h => h) (Or.inl ⟨by rfl, ?_⟩) ?_ ?_
                    rotate_left
                    ·intro w'
                     go_simp
                     with_reducible rfl
                    rotate_left
                    ·simp only [Act.put, List.setIfInBounds_toArray, List.set_cons_zero, List.set_cons_succ, i64_w, i32_w]
                     rfl
                    refine pure_ (i := 15) (N := some 96) (v := ?_) (a' := ?_) #[true, true, true, true, true, true, true, true, true, true, true, true, true, true, true, true, false] rfl rfl (any_of HT_.out (by kernel_rfl)) (fun _ _ _ h => h) (Or.inl ⟨by rfl, ?_⟩) ?_ ?_
                    rotate_left
                    ·intro w'
                     go_simp
                     with_reducible rfl
                    rotate_left
                    ·simp only [Act.put, List.setIfInBounds_toArray, List.set_cons_zero, List.set_cons_succ, i64_w, i32_w]
                     rfl
                    refine one_ (i := 16) (N := none) #[true, true, true, true, true, true, true, true, true, true, true, true, true, true, true, true, true] rfl rfl (one_of HT_.out (by kernel_rfl)) (by decide) (fun K hK => ?_)
                    have hs49 : w48.cell? ⟨gb478, 4, none⟩ = some (.int .i64 0) := (blk_cell BK478.out 4).trans rfl
                    have hfs49 := blk_frozen BK478.out 4
                    have hns49_0 := NB469_478.out
                    have hms49_0 := NB478_469.out
                    refine skip_ (w1 := ?_) (by rfl) rfl ?_ ?_
                    rotate_left
                    ·go_simp
                     rfl
                    refine hK.out _ _ ⟨((cell_far (p := ⟨gb478, _, none⟩) (by first | exact Nat.ne_of_lt (Nat.lt_of_lt_of_le (by have := World.block_lt_of_cell? _ _ hw481_0; first | rwa [add_block] at this | exact this) GW478.out) | (rw [add_block]; exact Nat.ne_of_lt (Nat.lt_of_lt_of_le (by have := World.block_lt_of_cell? _ _ hw481_0; first | rwa [add_block] at this | exact this) GW478.out)) | (show (Addr.add _ _).block ≠ _; rw [add_block]; exact Nat.ne_of_lt (Nat.lt_of_lt_of_le (by have := World.block_lt_of_cell? _ _ hw481_0; first | rwa [add_block] at this | exact this) GW478.out)) | (dsimp only; exact Nat.ne_of_lt (Nat.lt_of_lt_of_le (by have := World.block_lt_of_cell? _ _ hw481_0; first | rwa [add_block] at this | exact this) GW478.out))) _).trans (hHeld.1)), ((cell_far (p := ⟨gb478, _, none⟩) (by first | exact Nat.ne_of_lt (Nat.lt_of_lt_of_le (by have := World.block_lt_of_cell? _ _ hw482_0; first | rwa [add_block] at this | exact this) GW478.out) | (rw [add_block]; exact Nat.ne_of_lt (Nat.lt_of_lt_of_le (by have := World.block_lt_of_cell? _ _ hw482_0; first | rwa [add_block] at this | exact this) GW478.out)) | (show (Addr.add _ _).block ≠ _; rw [add_block]; exact Nat.ne_of_lt (Nat.lt_of_lt_of_le (by have := World.block_lt_of_cell? _ _ hw482_0; first | rwa [add_block] at this | exact this) GW478.out)) | (dsimp only; exact Nat.ne_of_lt (Nat.lt_of_lt_of_le (by have := World.block_lt_of_cell? _ _ hw482_0; first | rwa [add_block] at this | exact this) GW478.out))) _).trans (hHeld.2))⟩ (fun hHeld => ?_)
                    clear hK K
                    refine done_ (done_of HT_.out (by kernel_rfl)) ?_
                    have hnb50 := NB478_469.out
                    have hnc50 := NB469_478.out
                    have hcz51_0 : w48.cell? ⟨gb478, 0, none⟩ = some (.int .i64 (wrap64 (rd l0 9))) := (blk_cell BK478.out 0).trans rfl
                    have hcz51_1 : w48.cell? ⟨gb478, 1, none⟩ = some (.int .u32 t476) := (blk_cell BK478.out 1).trans rfl
                    have hcz51_2 : w48.cell? ⟨gb478, 2, none⟩ = some (.int .i64 (Go.bits .or .i64 (wrap64 ((wrap64 (rd l0 (ji33))) * 256)) (wrap64 (rd l0 (ji36))))) := (blk_cell BK478.out 2).trans rfl
                    have hcz51_3 : w48.cell? ⟨gb478, 3, none⟩ = some (.int .u32 t477) := (blk_cell BK478.out 3).trans rfl
                    have hcz51_4 : w48.cell? ⟨gb478, 4, none⟩ = some (.int .i64 0) := (blk_cell BK478.out 4).trans rfl
                    have hfz51_0 := blk_frozen BK478.out 0
                    have hfz51_1 := blk_frozen BK478.out 1
                    have hfz51_2 := blk_frozen BK478.out 2
                    have hfz51_3 := blk_frozen BK478.out 3
                    have hfz51_4 := blk_frozen BK478.out 4
                    have hcz52_0 : w48.cell? ⟨gb469, 0, none⟩ = some (.int .i64 0) := (blk_cell BK469.out 0).trans rfl
                    have hcz52_1 : w48.cell? ⟨gb469, 1, none⟩ = some (.int .u32 0) := (blk_cell BK469.out 1).trans rfl
                    have hcz52_2 : w48.cell? ⟨gb469, 2, none⟩ = some (.int .i64 0) := (blk_cell BK469.out 2).trans rfl
                    have hcz52_3 : w48.cell? ⟨gb469, 3, none⟩ = some (.int .u32 0) := (blk_cell BK469.out 3).trans rfl
                    have hcz52_4 : w48.cell? ⟨gb469, 4, none⟩ = some (.int .i64 0) := (blk_cell BK469.out 4).trans rfl
                    have hfz52_0 := blk_frozen BK469.out 0
                    have hfz52_1 := blk_frozen BK469.out 1
                    have hfz52_2 := blk_frozen BK469.out 2
                    have hfz52_3 := blk_frozen BK469.out 3
                    have hfz52_4 := blk_frozen BK469.out 4
                    try go_wp2
                    refine bodyPost_ret (results_ct rfl _ _ gb469 35 #[.int .i64 (wrap64 (rd l0 9)), .int .u32 t476, .int .i64 (Go.bits .or .i64 (wrap64 ((wrap64 (rd l0 (ji33))) * 256)) (wrap64 (rd l0 (ji36)))), .int .u32 t477, .int .i64 (Go.bits .or .i64 (wrap64 ((wrap64 (rd l0 (ji39))) * 256)) (wrap64 (rd l0 (ji42))))] (0, 0) _ rfl (by (with_reducible repeat (first | refine blk_drewN ?_ _ | refine blk_drew ?_ | refine blk_alloc ?_ _)); refine blk_put (cs := #[.int .i64 (wrap64 (rd l0 9)), .int .u32 t476, .int .i64 (Go.bits .or .i64 (wrap64 ((wrap64 (rd l0 (ji33))) * 256)) (wrap64 (rd l0 (ji36)))), .int .u32 t477, .int .i64 0]) ?_ 4 _ rfl; (with_reducible repeat (first | refine blk_drewN ?_ _ | refine blk_drew ?_ | refine blk_alloc ?_ _)); refine blk_put (cs := #[.int .i64 (wrap64 (rd l0 9)), .int .u32 t476, .int .i64 (Go.bits .or .i64 (wrap64 ((wrap64 (rd l0 (ji33))) * 256)) (wrap64 (rd l0 (ji36)))), .int .u32 0, .int .i64 0]) ?_ 3 _ rfl; (with_reducible repeat (first | refine blk_drewN ?_ _ | refine blk_drew ?_ | refine blk_alloc ?_ _)); refine blk_put (cs := #[.int .i64 (wrap64 (rd l0 9)), .int .u32 t476, .int .i64 0, .int .u32 0, .int .i64 0]) ?_ 2 _ rfl; (with_reducible repeat (first | refine blk_drewN ?_ _ | refine blk_drew ?_ | refine blk_alloc ?_ _)); refine blk_put (cs := #[.int .i64 (wrap64 (rd l0 9)), .int .u32 0, .int .i64 0, .int .u32 0, .int .i64 0]) ?_ 1 _ rfl; (with_reducible repeat (first | refine blk_drewN ?_ _ | refine blk_drew ?_ | refine blk_alloc ?_ _)); refine blk_put (cs := #[.int .i64 0, .int .u32 0, .int .i64 0, .int .u32 0, .int .i64 0]) ?_ 0 _ rfl; (with_reducible repeat (first | refine blk_drewN ?_ _ | refine blk_drew ?_ | refine blk_alloc ?_ _)); refine blk_far ?_ NB469_478.out _; (with_reducible repeat (first | refine blk_drewN ?_ _ | refine blk_drew ?_ | refine blk_alloc ?_ _)); exact BK469.out) Try.underlying35 rfl (by kernel_rfl)) rfl ?_
                    exact ⟨by first | rfl | (simp [errW_none, errW_some] <;> rfl) | (simp only [← hji33, ← hji36, ← hji39, ← hji42]; first | rfl | (simp [errW_none, errW_some] <;> rfl)) | (simp [*, errW_none, errW_some] <;> rfl), by repeat (first | (with_reducible first | exact HB.out | apply below_alloc | apply pw_below_drewN | apply below_drew1 | refine below_set ?_ GE469.out | refine below_set ?_ GE478.out) | exact HB.out)⟩
                   ·rw [if_neg c44] at H
                    exact absurd H (by simp)
                  ·rw [if_neg c43] at H
                   exact absurd H (by simp)
                 ·rw [if_neg c41] at H
                  exact absurd H (by simp)
                ·rw [if_neg c40] at H
                 exact absurd H (by simp)
               ·rw [if_neg c38] at H
                exact absurd H (by simp)
              ·rw [if_neg c37] at H
               exact absurd H (by simp)
             ·rw [if_neg c35] at H
              exact absurd H (by simp)
            ·rw [if_neg c34] at H
             exact absurd H (by simp)
           ·replace c32 := Bool.eq_false_iff.mpr c32
            subst c32
            have H1 : (if (wrap64 (rd l0 9)) = 1 then (if 0 ≤ (wrap64 ((wrap64 (Go.bits .and .u8 (rd l0 0) 15)) * 4)) then (if (wrap64 ((wrap64 (Go.bits .and .u8 (rd l0 0) 15)) * 4)) < (l0.length : Int) then (if (rd l0 (wrap64 ((wrap64 (Go.bits .and .u8 (rd l0 0) 15)) * 4))) = 8 then (if 0 ≤ (wrap64 ((wrap64 ((wrap64 (Go.bits .and .u8 (rd l0 0) 15)) * 4)) + 1)) then (if (wrap64 ((wrap64 ((wrap64 (Go.bits .and .u8 (rd l0 0) 15)) * 4)) + 1)) < (l0.length : Int) then (if (rd l0 (wrap64 ((wrap64 ((wrap64 (Go.bits .and .u8 (rd l0 0) 15)) * 4)) + 1))) = 0 then (if 0 ≤ (wrap64 ((wrap64 ((wrap64 (Go.bits .and .u8 (rd l0 0) 15)) * 4)) + 4)) then (if (wrap64 ((wrap64 ((wrap64 (Go.bits .and .u8 (rd l0 0) 15)) * 4)) + 4)) < (l0.length : Int) then (if 0 ≤ (wrap64 ((wrap64 ((wrap64 (Go.bits .and .u8 (rd l0 0) 15)) * 4)) + 5)) then (if (wrap64 ((wrap64 ((wrap64 (Go.bits .and .u8 (rd l0 0) 15)) * 4)) + 5)) < (l0.length : Int) then (some ((wrap64 (rd l0 9)), t476, Go.bits .or .i64 (wrap64 ((wrap64 (rd l0 (wrap64 ((wrap64 ((wrap64 (Go.bits .and .u8 (rd l0 0) 15)) * 4)) + 4)))) * 256)) (wrap64 (rd l0 (wrap64 ((wrap64 ((wrap64 (Go.bits .and .u8 (rd l0 0) 15)) * 4)) + 5)))), t477, Go.bits .or .i64 (wrap64 ((wrap64 (rd l0 (wrap64 ((wrap64 ((wrap64 (Go.bits .and .u8 (rd l0 0) 15)) * 4)) + 4)))) * 256)) (wrap64 (rd l0 (wrap64 ((wrap64 ((wrap64 (Go.bits .and .u8 (rd l0 0) 15)) * 4)) + 5)))), true)) else (none)) else (none)) else (none)) else (none)) else (some (0, 0, 0, 0, 0, false))) else (none)) else (none)) else (if (rd l0 (wrap64 ((wrap64 (Go.bits .and .u8 (rd l0 0) 15)) * 4))) = 0 then (if 0 ≤ (wrap64 ((wrap64 ((wrap64 (Go.bits .and .u8 (rd l0 0) 15)) * 4)) + 1)) then (if (wrap64 ((wrap64 ((wrap64 (Go.bits .and .u8 (rd l0 0) 15)) * 4)) + 1)) < (l0.length : Int) then (if (rd l0 (wrap64 ((wrap64 ((wrap64 (Go.bits .and .u8 (rd l0 0) 15)) * 4)) + 1))) = 0 then (if 0 ≤ (wrap64 ((wrap64 ((wrap64 (Go.bits .and .u8 (rd l0 0) 15)) * 4)) + 4)) then (if (wrap64 ((wrap64 ((wrap64 (Go.bits .and .u8 (rd l0 0) 15)) * 4)) + 4)) < (l0.length : Int) then (if 0 ≤ (wrap64 ((wrap64 ((wrap64 (Go.bits .and .u8 (rd l0 0) 15)) * 4)) + 5)) then (if (wrap64 ((wrap64 ((wrap64 (Go.bits .and .u8 (rd l0 0) 15)) * 4)) + 5)) < (l0.length : Int) then (some ((wrap64 (rd l0 9)), t476, Go.bits .or .i64 (wrap64 ((wrap64 (rd l0 (wrap64 ((wrap64 ((wrap64 (Go.bits .and .u8 (rd l0 0) 15)) * 4)) + 4)))) * 256)) (wrap64 (rd l0 (wrap64 ((wrap64 ((wrap64 (Go.bits .and .u8 (rd l0 0) 15)) * 4)) + 5)))), t477, Go.bits .or .i64 (wrap64 ((wrap64 (rd l0 (wrap64 ((wrap64 ((wrap64 (Go.bits .and .u8 (rd l0 0) 15)) * 4)) + 4)))) * 256)) (wrap64 (rd l0 (wrap64 ((wrap64 ((wrap64 (Go.bits .and .u8 (rd l0 0) 15)) * 4)) + 5)))), true)) else (none)) else (none)) else (none)) else (none)) else (some (0, 0, 0, 0, 0, false))) else (none)) else (none)) else (some (0, 0, 0, 0, 0, false)))) else (none)) else (none)) else (some (0, 0, 0, 0, 0, false))) = some (r1, r2, r3, r4, r5, r6) := by rw [if_neg (show ¬ (false = true) by decide)] at H; exact H
            clear H
            have H := H1
            clear H1
            by_cases c53 : (wrap64 (rd l0 9)) = 1
            ·rw [if_pos c53] at H
             have c53b0 : ((wrap64 (rd l0 9)) == 1) = true := beq_iff_eq.mpr c53
             have c53b1 : ((wrap64 (rd l0 9)) != 1) = false := bne_eq_false_iff_eq.mpr c53
             clear c53
             obtain ⟨ji54, hji54⟩ : ∃ j_ : Int, (wrap64 ((wrap64 (Go.bits .and .u8 (rd l0 0) 15)) * 4)) = j_ := ⟨_, rfl⟩
             replace H : (if 0 ≤ (ji54) then (if (ji54) < (l0.length : Int) then (if (rd l0 (ji54)) = 8 then (if 0 ≤ (wrap64 ((ji54) + 1)) then (if (wrap64 ((ji54) + 1)) < (l0.length : Int) then (if (rd l0 (wrap64 ((ji54) + 1))) = 0 then (if 0 ≤ (wrap64 ((ji54) + 4)) then (if (wrap64 ((ji54) + 4)) < (l0.length : Int) then (if 0 ≤ (wrap64 ((ji54) + 5)) then (if (wrap64 ((ji54) + 5)) < (l0.length : Int) then (some ((wrap64 (rd l0 9)), t476, Go.bits .or .i64 (wrap64 ((wrap64 (rd l0 (wrap64 ((ji54) + 4)))) * 256)) (wrap64 (rd l0 (wrap64 ((ji54) + 5)))), t477, Go.bits .or .i64 (wrap64 ((wrap64 (rd l0 (wrap64 ((ji54) + 4)))) * 256)) (wrap64 (rd l0 (wrap64 ((ji54) + 5)))), true)) else (none)) else (none)) else (none)) else (none)) else (some (0, 0, 0, 0, 0, false))) else (none)) else (none)) else (if (rd l0 (ji54)) = 0 then (if 0 ≤ (wrap64 ((ji54) + 1)) then (if (wrap64 ((ji54) + 1)) < (l0.length : Int) then (if (rd l0 (wrap64 ((ji54) + 1))) = 0 then (if 0 ≤ (wrap64 ((ji54) + 4)) then (if (wrap64 ((ji54) + 4)) < (l0.length : Int) then (if 0 ≤ (wrap64 ((ji54) + 5)) then (if (wrap64 ((ji54) + 5)) < (l0.length : Int) then (some ((wrap64 (rd l0 9)), t476, Go.bits .or .i64 (wrap64 ((wrap64 (rd l0 (wrap64 ((ji54) + 4)))) * 256)) (wrap64 (rd l0 (wrap64 ((ji54) + 5)))), t477, Go.bits .or .i64 (wrap64 ((wrap64 (rd l0 (wrap64 ((ji54) + 4)))) * 256)) (wrap64 (rd l0 (wrap64 ((ji54) + 5)))), true)) else (none)) else (none)) else (none)) else (none)) else (some (0, 0, 0, 0, 0, false))) else (none)) else (none)) else (some (0, 0, 0, 0, 0, false)))) else (none)) else (none)) = some (r1, r2, r3, r4, r5, r6) := by first | (rw [hji54] at H; exact H) | (simp only [hji54] at H ⊢; exact H)
             have hji54w : (IntKind.i64.wrap ((wrap64 (Go.bits .and .u8 (rd l0 0) 15)) * 4)) = ji54 := (i64_w _).trans hji54
             by_cases c55 : 0 ≤ (ji54)
             ·rw [if_pos c55] at H
              have c55b0 : decide (0 ≤ (ji54)) = true := decide_eq_true c55
              clear c55
              by_cases c56 : (ji54) < (l0.length : Int)
              ·rw [if_pos c56] at H
               have c56b0 : decide ((ji54) < (l0.length : Int)) = true := decide_eq_true c56
               clear c56
               by_cases c57 : (rd l0 (ji54)) = 8
               ·rw [if_pos c57] at H
                have c57b0 : ((rd l0 (ji54)) == 8) = true := beq_iff_eq.mpr c57
                have c57b1 : ((rd l0 (ji54)) != 8) = false := bne_eq_false_iff_eq.mpr c57
                clear c57
                obtain ⟨ji58, hji58⟩ : ∃ j_ : Int, (wrap64 ((ji54) + 1)) = j_ := ⟨_, rfl⟩
                replace H : (if 0 ≤ (ji58) then (if (ji58) < (l0.length : Int) then (if (rd l0 (ji58)) = 0 then (if 0 ≤ (wrap64 ((ji54) + 4)) then (if (wrap64 ((ji54) + 4)) < (l0.length : Int) then (if 0 ≤ (wrap64 ((ji54) + 5)) then (if (wrap64 ((ji54) + 5)) < (l0.length : Int) then (some ((wrap64 (rd l0 9)), t476, Go.bits .or .i64 (wrap64 ((wrap64 (rd l0 (wrap64 ((ji54) + 4)))) * 256)) (wrap64 (rd l0 (wrap64 ((ji54) + 5)))), t477, Go.bits .or .i64 (wrap64 ((wrap64 (rd l0 (wrap64 ((ji54) + 4)))) * 256)) (wrap64 (rd l0 (wrap64 ((ji54) + 5)))), true)) else (none)) else (none)) else (none)) else (none)) else (some (0, 0, 0, 0, 0, false))) else (none)) else (none)) = some (r1, r2, r3, r4, r5, r6) := by first | (rw [hji58] at H; exact H) | (simp only [hji58] at H ⊢; exact H)
                have hji58w : (IntKind.i64.wrap ((ji54) + 1)) = ji58 := (i64_w _).trans hji58
                by_cases c59 : 0 ≤ (ji58)
                ·rw [if_pos c59] at H
                 have c59b0 : decide (0 ≤ (ji58)) = true := decide_eq_true c59
                 clear c59
                 by_cases c60 : (ji58) < (l0.length : Int)
                 ·rw [if_pos c60] at H
                  have c60b0 : decide ((ji58) < (l0.length : Int)) = true := decide_eq_true c60
                  clear c60
                  by_cases c61 : (rd l0 (ji58)) = 0
                  ·rw [if_pos c61] at H
                   have c61b0 : ((rd l0 (ji58)) == 0) = true := beq_iff_eq.mpr c61
                   have c61b1 : ((rd l0 (ji58)) != 0) = false := bne_eq_false_iff_eq.mpr c61
                   clear c61
                   obtain ⟨ji62, hji62⟩ : ∃ j_ : Int, (wrap64 ((ji54) + 4)) = j_ := ⟨_, rfl⟩
                   replace H : (if 0 ≤ (ji62) then (if (ji62) < (l0.length : Int) then (if 0 ≤ (wrap64 ((ji54) + 5)) then (if (wrap64 ((ji54) + 5)) < (l0.length : Int) then (some ((wrap64 (rd l0 9)), t476, Go.bits .or .i64 (wrap64 ((wrap64 (rd l0 (ji62))) * 256)) (wrap64 (rd l0 (wrap64 ((ji54) + 5)))), t477, Go.bits .or .i64 (wrap64 ((wrap64 (rd l0 (ji62))) * 256)) (wrap64 (rd l0 (wrap64 ((ji54) + 5)))), true)) else (none)) else (none)) else (none)) else (none)) = some (r1, r2, r3, r4, r5, r6) := by first | (rw [hji62] at H; exact H) | (simp only [hji62] at H ⊢; exact H)
                   have hji62w : (IntKind.i64.wrap ((ji54) + 4)) = ji62 := (i64_w _).trans hji62
                   by_cases c63 : 0 ≤ (ji62)
                   ·rw [if_pos c63] at H
                    have c63b0 : decide (0 ≤ (ji62)) = true := decide_eq_true c63
                    clear c63
                    by_cases c64 : (ji62) < (l0.length : Int)
                    ·rw [if_pos c64] at H
                     have c64b0 : decide ((ji62) < (l0.length : Int)) = true := decide_eq_true c64
                     clear c64
                     obtain ⟨ji65, hji65⟩ : ∃ j_ : Int, (wrap64 ((ji54) + 5)) = j_ := ⟨_, rfl⟩
                     replace H : (if 0 ≤ (ji65) then (if (ji65) < (l0.length : Int) then (some ((wrap64 (rd l0 9)), t476, Go.bits .or .i64 (wrap64 ((wrap64 (rd l0 (ji62))) * 256)) (wrap64 (rd l0 (ji65))), t477, Go.bits .or .i64 (wrap64 ((wrap64 (rd l0 (ji62))) * 256)) (wrap64 (rd l0 (ji65))), true)) else (none)) else (none)) = some (r1, r2, r3, r4, r5, r6) := by first | (rw [hji65] at H; exact H) | (simp only [hji65] at H ⊢; exact H)
                     have hji65w : (IntKind.i64.wrap ((ji54) + 5)) = ji65 := (i64_w _).trans hji65
                     by_cases c66 : 0 ≤ (ji65)
                     ·rw [if_pos c66] at H
                      have c66b0 : decide (0 ≤ (ji65)) = true := decide_eq_true c66
                      clear c66
                      by_cases c67 : (ji65) < (l0.length : Int)
                      ·rw [if_pos c67] at H
                       have c67b0 : decide ((ji65) < (l0.length : Int)) = true := decide_eq_true c67
                       clear c67
                       simp only [Option.some.injEq, Prod.mk.injEq] at H
                       obtain ⟨rfl, rfl, rfl, rfl, rfl, rfl⟩ := H
                       have p483 : 0 ≤ ((ji54) : Int) := of_decide_eq_true (by first | (with_reducible assumption) | assumption)
                       have q483 : (ji54) < (l0.length : Int) := of_decide_eq_true (by first | (with_reducible assumption) | assumption)
                       obtain ⟨ad483, e483, hx483_0⟩ := Kd.at_int HR0.out (ji54) p483 q483
                       obtain rfl : ad472 = ad483 := (by injection e483)
                       replace hx483_0 := (HB.out.cell (World.block_lt_of_cell? w _ hx483_0)).trans hx483_0
                       replace p483 := eq_true p483
                       replace q483 := eq_true q483
                       have p484 : 0 ≤ ((ji58) : Int) := of_decide_eq_true (by first | (with_reducible assumption) | assumption)
                       have q484 : (ji58) < (l0.length : Int) := of_decide_eq_true (by first | (with_reducible assumption) | assumption)
                       obtain ⟨ad484, e484, hx484_0⟩ := Kd.at_int HR0.out (ji58) p484 q484
                       obtain rfl : ad472 = ad484 := (by injection e484)
                       replace hx484_0 := (HB.out.cell (World.block_lt_of_cell? w _ hx484_0)).trans hx484_0
                       replace p484 := eq_true p484
                       replace q484 := eq_true q484
                       try go_wp2
                       have n0_ := Aside0.mk (blk_drew BK469.out)
                       have n1_ := Aside0.mk (blk_drew BK478.out)
                       have n2_ := Aside0.mk (below_drew1 HB.out)
                       clear BK469
                       clear BK478
                       clear HB
                       have BK469 := n0_
                       have BK478 := n1_
                       have HB := n2_
                       clear n0_ n1_ n2_
                       have p485 : 0 ≤ ((ji62) : Int) := of_decide_eq_true (by first | (with_reducible assumption) | assumption)
                       have q485 : (ji62) < (l0.length : Int) := of_decide_eq_true (by first | (with_reducible assumption) | assumption)
                       obtain ⟨ad485, e485, hx485_0⟩ := Kd.at_int HR0.out (ji62) p485 q485
                       have hw485_0 := hx485_0
                       obtain rfl : ad472 = ad485 := (by injection e485)
                       replace hx485_0 := (HB.out.cell (World.block_lt_of_cell? w _ hx485_0)).trans hx485_0
                       replace p485 := eq_true p485
                       replace q485 := eq_true q485
                       have p486 : 0 ≤ ((ji65) : Int) := of_decide_eq_true (by first | (with_reducible assumption) | assumption)
                       have q486 : (ji65) < (l0.length : Int) := of_decide_eq_true (by first | (with_reducible assumption) | assumption)
                       obtain ⟨ad486, e486, hx486_0⟩ := Kd.at_int HR0.out (ji65) p486 q486
                       have hw486_0 := hx486_0
                       obtain rfl : ad472 = ad486 := (by injection e486)
                       replace hx486_0 := (HB.out.cell (World.block_lt_of_cell? w _ hx486_0)).trans hx486_0
                       replace p486 := eq_true p486
                       replace q486 := eq_true q486
                       refine start_ (n := 17) (S := fun w' => w'.cell? (ad472.add ((ji62)).toNat) = some (.int .u8 (rd l0 (ji62))) ∧ w'.cell? (ad472.add ((ji65)).toNat) = some (.int .u8 (rd l0 (ji65)))) (ds := []) #[false, false, false, false, false, false, false, false, false, false, false, false, false, false, false, false, false] (by kernel_rfl) rfl rfl ⟨((HB.out.cell (World.block_lt_of_cell? w _ hw485_0)).trans hw485_0), ((HB.out.cell (World.block_lt_of_cell? w _ hw486_0)).trans hw486_0)⟩ (fun hHeld => ?_); refine with_tabW bailiwickref6_Quote.tab16 bailiwickref6_Quote.bits16 (fun HT_ HW_ => ?_)
                       generalize wc.drew = w68 at BK469 BK478 HB hx485_0 hx486_0 hHeld ⊢
                       refine pure_ (i := 0) (N := some 120) (v := ?_) (a' := ?_) #[true, false, false, false, false, false, false, false, false, false, false, false, false, false, false, false, false] rfl rfl (any_of HT_.out (by kernel_rfl)) (fun _ _ _ h => h) (Or.inl ⟨by rfl, ?_⟩) ?_ ?_
                       rotate_left
                       ·intro w'
                        go_simp
                        with_reducible rfl
                       rotate_left
                       ·simp only [Act.put, List.setIfInBounds_toArray, List.set_cons_zero, List.set_cons_succ, i64_w, i32_w]
                        rfl
                       refine pure_ (i := 1) (N := some 121) (v := ?_) (a' := ?_) #[true, true, false, false, false, false, false, false, false, false, false, false, false, false, false, false, false] rfl rfl (any_of HT_.out (by kernel_rfl)) (fun _ _ _ h => h) (Or.inl ⟨by rfl, ?_⟩) ?_ ?_
                       rotate_left
                       ·intro w'
                        go_simp
                        with_reducible rfl
                       rotate_left
                       ·simp only [Act.put, List.setIfInBounds_toArray, List.set_cons_zero, List.set_cons_succ, i64_w, i32_w]
                        rfl
                       refine pure_ (i := 2) (N := some 122) (v := ?_) (a' := ?_) #[true, true, true, false, false, false, false, false, false, false, false, false, false, false, false, false, false] rfl rfl (any_of HT_.out (by kernel_rfl)) (fun _ _ _ h => h) (Or.inl ⟨by rfl, ?_⟩) ?_ ?_
                       rotate_left
                       ·intro w'
                        go_simp
                        with_reducible rfl
                       rotate_left
                       ·simp only [Act.put, List.setIfInBounds_toArray, List.set_cons_zero, List.set_cons_succ, i64_w, i32_w]
                        rfl
                       refine pure_ (i := 3) (N := some 123) (v := ?_) (a' := ?_) #[true, true, true, true, false, false, false, false, false, false, false, false, false, false, false, false, false] rfl rfl (any_of HT_.out (by kernel_rfl)) (fun _ _ _ h => h) (Or.inl ⟨by rfl, ?_⟩) ?_ ?_
                       rotate_left
                       ·intro w'
                        go_simp
                        with_reducible rfl
                       rotate_left
                       ·simp only [Act.put, List.setIfInBounds_toArray, List.set_cons_zero, List.set_cons_succ, i64_w, i32_w]
                        rfl
                       refine pure_ (i := 7) (N := some 127) (v := ?_) (a' := ?_) #[true, true, true, true, false, false, false, true, false, false, false, false, false, false, false, false, false] rfl rfl (any_of HT_.out (by kernel_rfl)) (fun _ _ _ h => h) (Or.inl ⟨by rfl, ?_⟩) ?_ ?_
                       rotate_left
                       ·intro w'
                        go_simp
                        with_reducible rfl
                       rotate_left
                       ·simp only [Act.put, List.setIfInBounds_toArray, List.set_cons_zero, List.set_cons_succ, i64_w, i32_w]
                        rfl
                       refine pure_ (i := 8) (N := some 128) (v := ?_) (a' := ?_) #[true, true, true, true, false, false, false, true, true, false, false, false, false, false, false, false, false] rfl rfl (any_of HT_.out (by kernel_rfl)) (fun _ _ _ h => h) (Or.inl ⟨by rfl, ?_⟩) ?_ ?_
                       rotate_left
                       ·intro w'
                        go_simp
                        with_reducible rfl
                       rotate_left
                       ·simp only [Act.put, List.setIfInBounds_toArray, List.set_cons_zero, List.set_cons_succ, i64_w, i32_w]
                        rfl
                       refine pure_ (i := 9) (N := some 129) (v := ?_) (a' := ?_) #[true, true, true, true, false, false, false, true, true, true, false, false, false, false, false, false, false] rfl rfl (any_of HT_.out (by kernel_rfl)) (fun _ _ _ h => h) (Or.inl ⟨by rfl, ?_⟩) ?_ ?_
                       rotate_left
                       ·intro w'
                        go_simp
                        with_reducible rfl
                       rotate_left
                       ·simp only [Act.put, List.setIfInBounds_toArray, List.set_cons_zero, List.set_cons_succ, i64_w, i32_w]
                        rfl
                       refine pure_ (i := 10) (N := some 130) (v := ?_) (a' := ?_) #[true, true, true, true, false, false, false, true, true, true, true, false, false, false, false, false, false] rfl rfl (any_of HT_.out (by kernel_rfl)) (fun _ _ _ h => h) (Or.inl ⟨by rfl, ?_⟩) ?_ ?_
                       rotate_left
                       ·intro w'
                        go_simp
                        with_reducible rfl
                       rotate_left
                       ·simp only [Act.put, List.setIfInBounds_toArray, List.set_cons_zero, List.set_cons_succ, i64_w, i32_w]
                        rfl
                       refine take_ (i := 4) (N := some 124) (v := ?_) (a' := ?_) #[true, true, true, true, true, false, false, true, true, true, true, false, false, false, false, false, false] rfl rfl (take_ofW HT_.out HW_.out (by kernel_rfl)) (fun _ _ _ h => h) (Or.inl ⟨by rfl, ?_⟩) hHeld ?_ ?_
                       rotate_left
                       ·rintro w' ⟨s0, s1⟩
                        go_simp
                        with_reducible rfl
                       rotate_left
                       ·simp only [Act.put, List.setIfInBounds_toArray, List.set_cons_zero, List.set_cons_succ, i64_w, i32_w]
                        rfl
                       refine pure_ (i := 5) (N := some 125) (v := ?_) (a' := ?_) #[true, true, true, true, true, true, false, true, true, true, true, false, false, false, false, false, false] rfl rfl (any_of HT_.out (by kernel_rfl)) (fun _ _ _ h => h) (Or.inl ⟨by rfl, ?_⟩) ?_ ?_
                       rotate_left
                       ·intro w'
                        go_simp
                        with_reducible rfl
                       rotate_left
                       ·simp only [Act.put, List.setIfInBounds_toArray, List.set_cons_zero, List.set_cons_succ, i64_w, i32_w]
                        rfl
                       refine pure_ (i := 6) (N := some 126) (v := ?_) (a' := ?_) #[true, true, true, true, true, true, true, true, true, true, true, false, false, false, false, false, false] rfl rfl (any_of HT_.out (by kernel_rfl)) (fun _ _ _ h => h) (Or.inl ⟨by rfl, ?_⟩) ?_ ?_
                       rotate_left
                       ·intro w'
                        go_simp
                        with_reducible rfl
                       rotate_left
                       ·simp only [Act.put, List.setIfInBounds_toArray, List.set_cons_zero, List.set_cons_succ, i64_w, i32_w]
                        rfl
                       refine take_ (i := 11) (N := some 131) (v := ?_) (a' := ?_) #[true, true, true, true, true, true, true, true, true, true, true, true, false, false, false, false, false] rfl rfl (take_ofW HT_.out HW_.out (by kernel_rfl)) (fun _ _ _ h => h) (Or.inl ⟨by rfl, ?_⟩) hHeld ?_ ?_
                       rotate_left
                       ·rintro w' ⟨s0, s1⟩
                        go_simp
                        with_reducible rfl
                       rotate_left
                       ·simp only [Act.put, List.setIfInBounds_toArray, List.set_cons_zero, List.set_cons_succ, i64_w, i32_w]
                        rfl
                       refine pure_ (i := 12) (N := some 132) (v := ?_) (a' := ?_) #[true, true, true, true, true, true, true, true, true, true, true, true, true, false, false, false, false] rfl rfl (any_of HT_.out (by kernel_rfl)) (fun _ _ _ h => h) (Or.inl ⟨by rfl, ?_⟩) ?_ ?_
                       rotate_left
                       ·intro w'
                        go_simp
                        with_reducible rfl
                       rotate_left
                       ·simp only [Act.put, List.setIfInBounds_toArray, List.set_cons_zero, List.set_cons_succ, i64_w, i32_w]
                        rfl
                       refine pure_ (i := 13) (N := some 133) (v := ?_) (a' := ?_) #[true, true, true, true, true, true, true, true, true, true, true, true, true, true, false, false, false] rfl rfl (any_of HT_.out (by kernel_rfl)) (fun _ _ _ h => h) (Or.inl ⟨by rfl, ?_⟩) ?_ ?_
                       rotate_left
                       ·intro w'
                        go_simp
                        with_reducible rfl
                       rotate_left
                       ·simp only [Act.put, List.setIfInBounds_toArray, List.set_cons_zero, List.set_cons_succ, i64_w, i32_w]
                        rfl
                       refine pure_ (i := 14) (N := some 134) (v := ?_) (a' := ?_) #[true, true, true, true, true, true, true, true, true, true, true, true, true, true, true, false, false] rfl rfl (any_of HT_.out (by kernel_rfl)) (fun _ _ _ h => h) (Or.inl ⟨by rfl, ?_⟩) ?_ ?_
                       rotate_left
                       ·intro w'
                        go_simp
                        with_reducible rfl
                       rotate_left
                       ·simp only [Act.put, List.setIfInBounds_toArray, List.set_cons_zero, List.set_cons_succ, i64_w, i32_w]
                        rfl
                       refine pure_ (i := 15) (N := some 135) (v := ?_) (a' := ?_) #[true, true, true, true, true, true, true, true, true, true, true, true, true, true, true, true, false] rfl rfl (any_of HT_.out (by kernel_rfl)) (fun _ _ _ h => h) (Or.inl ⟨by rfl, ?_⟩) ?_ ?_
                       rotate_left
                       ·intro w'
                        go_simp
                        with_reducible rfl
                       rotate_left
                       ·simp only [Act.put, List.setIfInBounds_toArray, List.set_cons_zero, List.set_cons_succ, i64_w, i32_w]
                        rfl
                       refine one_ (i := 16) (N := none) #[true, true, true, true, true, true, true, true, true, true, true, true, true, true, true, true, true] rfl rfl (one_of HT_.out (by kernel_rfl)) (by decide) (fun K hK => ?_)
                       have hs69 : w68.cell? ⟨gb478, 2, none⟩ = some (.int .i64 0) := (blk_cell BK478.out 2).trans rfl
                       have hfs69 := blk_frozen BK478.out 2
                       have hns69_0 := NB469_478.out
                       have hms69_0 := NB478_469.out
                       refine skip_ (w1 := ?_) (by rfl) rfl ?_ ?_
                       rotate_left
                       ·go_simp
                        rfl
                       refine hK.out _ _ ⟨((cell_far (p := ⟨gb478, _, none⟩) (by first | exact Nat.ne_of_lt (Nat.lt_of_lt_of_le (by have := World.block_lt_of_cell? _ _ hw485_0; first | rwa [add_block] at this | exact this) GW478.out) | (rw [add_block]; exact Nat.ne_of_lt (Nat.lt_of_lt_of_le (by have := World.block_lt_of_cell? _ _ hw485_0; first | rwa [add_block] at this | exact this) GW478.out)) | (show (Addr.add _ _).block ≠ _; rw [add_block]; exact Nat.ne_of_lt (Nat.lt_of_lt_of_le (by have := World.block_lt_of_cell? _ _ hw485_0; first | rwa [add_block] at this | exact this) GW478.out)) | (dsimp only; exact Nat.ne_of_lt (Nat.lt_of_lt_of_le (by have := World.block_lt_of_cell? _ _ hw485_0; first | rwa [add_block] at this | exact this) GW478.out))) _).trans (hHeld.1)), ((cell_far (p := ⟨gb478, _, none⟩) (by first | exact Nat.ne_of_lt (Nat.lt_of_lt_of_le (by have := World.block_lt_of_cell? _ _ hw486_0; first | rwa [add_block] at this | exact this) GW478.out) | (rw [add_block]; exact Nat.ne_of_lt (Nat.lt_of_lt_of_le (by have := World.block_lt_of_cell? _ _ hw486_0; first | rwa [add_block] at this | exact this) GW478.out)) | (show (Addr.add _ _).block ≠ _; rw [add_block]; exact Nat.ne_of_lt (Nat.lt_of_lt_of_le (by have := World.block_lt_of_cell? _ _ hw486_0; first | rwa [add_block] at this | exact this) GW478.out)) | (dsimp only; exact Nat.ne_of_lt (Nat.lt_of_lt_of_le (by have := World.block_lt_of_cell? _ _ hw486_0; first | rwa [add_block] at this | exact this) GW478.out))) _).trans (hHeld.2))⟩ (fun hHeld => ?_)
                       clear hK K
                       refine done_ (done_of HT_.out (by kernel_rfl)) ?_
                       have hnb70 := NB478_469.out
                       have hnc70 := NB469_478.out
                       have hcz71_0 : w68.cell? ⟨gb478, 0, none⟩ = some (.int .i64 (wrap64 (rd l0 9))) := (blk_cell BK478.out 0).trans rfl
                       have hcz71_1 : w68.cell? ⟨gb478, 1, none⟩ = some (.int .u32 t476) := (blk_cell BK478.out 1).trans rfl
                       have hcz71_2 : w68.cell? ⟨gb478, 2, none⟩ = some (.int .i64 0) := (blk_cell BK478.out 2).trans rfl
                       have hcz71_3 : w68.cell? ⟨gb478, 3, none⟩ = some (.int .u32 t477) := (blk_cell BK478.out 3).trans rfl
                       have hcz71_4 : w68.cell? ⟨gb478, 4, none⟩ = some (.int .i64 0) := (blk_cell BK478.out 4).trans rfl
                       have hfz71_0 := blk_frozen BK478.out 0
                       have hfz71_1 := blk_frozen BK478.out 1
                       have hfz71_2 := blk_frozen BK478.out 2
                       have hfz71_3 := blk_frozen BK478.out 3
                       have hfz71_4 := blk_frozen BK478.out 4
                       have hcz72_0 : w68.cell? ⟨gb469, 0, none⟩ = some (.int .i64 0) := (blk_cell BK469.out 0).trans rfl
                       have hcz72_1 : w68.cell? ⟨gb469, 1, none⟩ = some (.int .u32 0) := (blk_cell BK469.out 1).trans rfl
                       have hcz72_2 : w68.cell? ⟨gb469, 2, none⟩ = some (.int .i64 0) := (blk_cell BK469.out 2).trans rfl
                       have hcz72_3 : w68.cell? ⟨gb469, 3, none⟩ = some (.int .u32 0) := (blk_cell BK469.out 3).trans rfl
                       have hcz72_4 : w68.cell? ⟨gb469, 4, none⟩ = some (.int .i64 0) := (blk_cell BK469.out 4).trans rfl
                       have hfz72_0 := blk_frozen BK469.out 0
                       have hfz72_1 := blk_frozen BK469.out 1
                       have hfz72_2 := blk_frozen BK469.out 2
                       have hfz72_3 := blk_frozen BK469.out 3
                       have hfz72_4 := blk_frozen BK469.out 4
                       try go_wp2
                       refine bodyPost_ret (results_ct rfl _ _ gb469 35 #[.int .i64 (wrap64 (rd l0 9)), .int .u32 t476, .int .i64 (Go.bits .or .i64 (wrap64 ((wrap64 (rd l0 (ji62))) * 256)) (wrap64 (rd l0 (ji65)))), .int .u32 t477, .int .i64 (Go.bits .or .i64 (wrap64 ((wrap64 (rd l0 (ji62))) * 256)) (wrap64 (rd l0 (ji65))))] (0, 0) _ rfl (by (with_reducible repeat (first | refine blk_drewN ?_ _ | refine blk_drew ?_ | refine blk_alloc ?_ _)); refine blk_put (cs := #[.int .i64 (wrap64 (rd l0 9)), .int .u32 t476, .int .i64 (Go.bits .or .i64 (wrap64 ((wrap64 (rd l0 (ji62))) * 256)) (wrap64 (rd l0 (ji65)))), .int .u32 t477, .int .i64 0]) ?_ 4 _ rfl; (with_reducible repeat (first | refine blk_drewN ?_ _ | refine blk_drew ?_ | refine blk_alloc ?_ _)); refine blk_put (cs := #[.int .i64 (wrap64 (rd l0 9)), .int .u32 t476, .int .i64 (Go.bits .or .i64 (wrap64 ((wrap64 (rd l0 (ji62))) * 256)) (wrap64 (rd l0 (ji65)))), .int .u32 0, .int .i64 0]) ?_ 3 _ rfl; (with_reducible repeat (first | refine blk_drewN ?_ _ | refine blk_drew ?_ | refine blk_alloc ?_ _)); refine blk_put (cs := #[.int .i64 (wrap64 (rd l0 9)), .int .u32 t476, .int .i64 0, .int .u32 0, .int .i64 0]) ?_ 2 _ rfl; (with_reducible repeat (first | refine blk_drewN ?_ _ | refine blk_drew ?_ | refine blk_alloc ?_ _)); refine blk_put (cs := #[.int .i64 (wrap64 (rd l0 9)), .int .u32 0, .int .i64 0, .int .u32 0, .int .i64 0]) ?_ 1 _ rfl; (with_reducible repeat (first | refine blk_drewN ?_ _ | refine blk_drew ?_ | refine blk_alloc ?_ _)); refine blk_put (cs := #[.int .i64 0, .int .u32 0, .int .i64 0, .int .u32 0, .int .i64 0]) ?_ 0 _ rfl; (with_reducible repeat (first | refine blk_drewN ?_ _ | refine blk_drew ?_ | refine blk_alloc ?_ _)); refine blk_far ?_ NB469_478.out _; (with_reducible repeat (first | refine blk_drewN ?_ _ | refine blk_drew ?_ | refine blk_alloc ?_ _)); refine blk_far ?_ NB469_478.out _; (with_reducible repeat (first | refine blk_drewN ?_ _ | refine blk_drew ?_ | refine blk_alloc ?_ _)); exact BK469.out) Try.underlying35 rfl (by kernel_rfl)) rfl ?_
                       exact ⟨by first | rfl | (simp [errW_none, errW_some] <;> rfl) | (simp only [← hji54, ← hji58, ← hji62, ← hji65]; first | rfl | (simp [errW_none, errW_some] <;> rfl)) | (simp [*, errW_none, errW_some] <;> rfl), by repeat (first | (with_reducible first | exact HB.out | apply below_alloc | apply pw_below_drewN | apply below_drew1 | refine below_set ?_ GE469.out | refine below_set ?_ GE478.out) | exact HB.out)⟩
                      ·rw [if_neg c67] at H
                       exact absurd H (by simp)
                     ·rw [if_neg c66] at H
                      exact absurd H (by simp)
                    ·rw [if_neg c64] at H
                     exact absurd H (by simp)
                   ·rw [if_neg c63] at H
                    exact absurd H (by simp)
                  ·rw [if_neg c61] at H
                   have c61b0 : ((rd l0 (ji58)) == 0) = false := beq_eq_false_iff_ne.mpr c61
                   have c61b1 : ((rd l0 (ji58)) != 0) = true := bne_iff_ne.mpr c61
                   simp only [Option.some.injEq, Prod.mk.injEq] at H
                   obtain ⟨rfl, rfl, rfl, rfl, rfl, rfl⟩ := H
                   have p483 : 0 ≤ ((ji54) : Int) := of_decide_eq_true (by first | (with_reducible assumption) | assumption)
                   have q483 : (ji54) < (l0.length : Int) := of_decide_eq_true (by first | (with_reducible assumption) | assumption)
                   obtain ⟨ad483, e483, hx483_0⟩ := Kd.at_int HR0.out (ji54) p483 q483
                   obtain rfl : ad472 = ad483 := (by injection e483)
                   replace hx483_0 := (HB.out.cell (World.block_lt_of_cell? w _ hx483_0)).trans hx483_0
                   replace p483 := eq_true p483
                   replace q483 := eq_true q483
                   have p484 : 0 ≤ ((ji58) : Int) := of_decide_eq_true (by first | (with_reducible assumption) | assumption)
                   have q484 : (ji58) < (l0.length : Int) := of_decide_eq_true (by first | (with_reducible assumption) | assumption)
                   obtain ⟨ad484, e484, hx484_0⟩ := Kd.at_int HR0.out (ji58) p484 q484
                   obtain rfl : ad472 = ad484 := (by injection e484)
                   replace hx484_0 := (HB.out.cell (World.block_lt_of_cell? w _ hx484_0)).trans hx484_0
                   replace p484 := eq_true p484
                   replace q484 := eq_true q484
                   have hnb73 := NB469_478.out
                   have hnc73 := NB478_469.out
                   have hcz74_0 : wc.cell? ⟨gb469, 0, none⟩ = some (.int .i64 0) := (blk_cell BK469.out 0).trans rfl
                   have hcz74_1 : wc.cell? ⟨gb469, 1, none⟩ = some (.int .u32 0) := (blk_cell BK469.out 1).trans rfl
                   have hcz74_2 : wc.cell? ⟨gb469, 2, none⟩ = some (.int .i64 0) := (blk_cell BK469.out 2).trans rfl
                   have hcz74_3 : wc.cell? ⟨gb469, 3, none⟩ = some (.int .u32 0) := (blk_cell BK469.out 3).trans rfl
                   have hcz74_4 : wc.cell? ⟨gb469, 4, none⟩ = some (.int .i64 0) := (blk_cell BK469.out 4).trans rfl
                   have hfz74_0 := blk_frozen BK469.out 0
                   have hfz74_1 := blk_frozen BK469.out 1
                   have hfz74_2 := blk_frozen BK469.out 2
                   have hfz74_3 := blk_frozen BK469.out 3
                   have hfz74_4 := blk_frozen BK469.out 4
                   go_wp2
                   refine bodyPost_ret (results_ct rfl _ _ gb469 35 #[.int .i64 0, .int .u32 0, .int .i64 0, .int .u32 0, .int .i64 0] (0, 0) _ rfl (by (with_reducible repeat (first | refine blk_drewN ?_ _ | refine blk_drew ?_ | refine blk_alloc ?_ _)); refine blk_put (cs := #[.int .i64 0, .int .u32 0, .int .i64 0, .int .u32 0, .int .i64 0]) ?_ 4 _ rfl; (with_reducible repeat (first | refine blk_drewN ?_ _ | refine blk_drew ?_ | refine blk_alloc ?_ _)); refine blk_put (cs := #[.int .i64 0, .int .u32 0, .int .i64 0, .int .u32 0, .int .i64 0]) ?_ 3 _ rfl; (with_reducible repeat (first | refine blk_drewN ?_ _ | refine blk_drew ?_ | refine blk_alloc ?_ _)); refine blk_put (cs := #[.int .i64 0, .int .u32 0, .int .i64 0, .int .u32 0, .int .i64 0]) ?_ 2 _ rfl; (with_reducible repeat (first | refine blk_drewN ?_ _ | refine blk_drew ?_ | refine blk_alloc ?_ _)); refine blk_put (cs := #[.int .i64 0, .int .u32 0, .int .i64 0, .int .u32 0, .int .i64 0]) ?_ 1 _ rfl; (with_reducible repeat (first | refine blk_drewN ?_ _ | refine blk_drew ?_ | refine blk_alloc ?_ _)); refine blk_put (cs := #[.int .i64 0, .int .u32 0, .int .i64 0, .int .u32 0, .int .i64 0]) ?_ 0 _ rfl; (with_reducible repeat (first | refine blk_drewN ?_ _ | refine blk_drew ?_ | refine blk_alloc ?_ _)); exact BK469.out) Try.underlying35 rfl (by kernel_rfl)) rfl ?_
                   exact ⟨by first | rfl | (simp [errW_none, errW_some] <;> rfl) | (simp only [← hji54, ← hji58]; first | rfl | (simp [errW_none, errW_some] <;> rfl)) | (simp [*, errW_none, errW_some] <;> rfl), by repeat (first | (with_reducible first | exact HB.out | apply below_alloc | apply pw_below_drewN | apply below_drew1 | refine below_set ?_ GE469.out | refine below_set ?_ GE478.out) | exact HB.out)⟩
                 ·rw [if_neg c60] at H
                  exact absurd H (by simp)
                ·rw [if_neg c59] at H
                 exact absurd H (by simp)
               ·rw [if_neg c57] at H
                have c57b0 : ((rd l0 (ji54)) == 8) = false := beq_eq_false_iff_ne.mpr c57
                have c57b1 : ((rd l0 (ji54)) != 8) = true := bne_iff_ne.mpr c57
                by_cases c75 : (rd l0 (ji54)) = 0
                ·rw [if_pos c75] at H
                 have c75b0 : ((rd l0 (ji54)) == 0) = true := beq_iff_eq.mpr c75
                 have c75b1 : ((rd l0 (ji54)) != 0) = false := bne_eq_false_iff_eq.mpr c75
                 clear c75
                 obtain ⟨ji76, hji76⟩ : ∃ j_ : Int, (wrap64 ((ji54) + 1)) = j_ := ⟨_, rfl⟩
                 replace H : (if 0 ≤ (ji76) then (if (ji76) < (l0.length : Int) then (if (rd l0 (ji76)) = 0 then (if 0 ≤ (wrap64 ((ji54) + 4)) then (if (wrap64 ((ji54) + 4)) < (l0.length : Int) then (if 0 ≤ (wrap64 ((ji54) + 5)) then (if (wrap64 ((ji54) + 5)) < (l0.length : Int) then (some ((wrap64 (rd l0 9)), t476, Go.bits .or .i64 (wrap64 ((wrap64 (rd l0 (wrap64 ((ji54) + 4)))) * 256)) (wrap64 (rd l0 (wrap64 ((ji54) + 5)))), t477, Go.bits .or .i64 (wrap64 ((wrap64 (rd l0 (wrap64 ((ji54) + 4)))) * 256)) (wrap64 (rd l0 (wrap64 ((ji54) + 5)))), true)) else (none)) else (none)) else (none)) else (none)) else (some (0, 0, 0, 0, 0, false))) else (none)) else (none)) = some (r1, r2, r3, r4, r5, r6) := by first | (rw [hji76] at H; exact H) | (simp only [hji76] at H ⊢; exact H)
                 have hji76w : (IntKind.i64.wrap ((ji54) + 1)) = ji76 := (i64_w _).trans hji76
                 by_cases c77 : 0 ≤ (ji76)
                 ·rw [if_pos c77] at H
                  have c77b0 : decide (0 ≤ (ji76)) = true := decide_eq_true c77
                  clear c77
                  by_cases c78 : (ji76) < (l0.length : Int)
                  ·rw [if_pos c78] at H
                   have c78b0 : decide ((ji76) < (l0.length : Int)) = true := decide_eq_true c78
                   clear c78
                   by_cases c79 : (rd l0 (ji76)) = 0
                   ·rw [if_pos c79] at H
                    have c79b0 : ((rd l0 (ji76)) == 0) = true := beq_iff_eq.mpr c79
                    have c79b1 : ((rd l0 (ji76)) != 0) = false := bne_eq_false_iff_eq.mpr c79
                    clear c79
                    obtain ⟨ji80, hji80⟩ : ∃ j_ : Int, (wrap64 ((ji54) + 4)) = j_ := ⟨_, rfl⟩
                    replace H : (if 0 ≤ (ji80) then (if (ji80) < (l0.length : Int) then (if 0 ≤ (wrap64 ((ji54) + 5)) then (if (wrap64 ((ji54) + 5)) < (l0.length : Int) then (some ((wrap64 (rd l0 9)), t476, Go.bits .or .i64 (wrap64 ((wrap64 (rd l0 (ji80))) * 256)) (wrap64 (rd l0 (wrap64 ((ji54) + 5)))), t477, Go.bits .or .i64 (wrap64 ((wrap64 (rd l0 (ji80))) * 256)) (wrap64 (rd l0 (wrap64 ((ji54) + 5)))), true)) else (none)) else (none)) else (none)) else (none)) = some (r1, r2, r3, r4, r5, r6) := by first | (rw [hji80] at H; exact H) | (simp only [hji80] at H ⊢; exact H)
                    have hji80w : (IntKind.i64.wrap ((ji54) + 4)) = ji80 := (i64_w _).trans hji80
                    by_cases c81 : 0 ≤ (ji80)
                    ·rw [if_pos c81] at H
                     have c81b0 : decide (0 ≤ (ji80)) = true := decide_eq_true c81
                     clear c81
                     by_cases c82 : (ji80) < (l0.length : Int)
                     ·rw [if_pos c82] at H
                      have c82b0 : decide ((ji80) < (l0.length : Int)) = true := decide_eq_true c82
                      clear c82
                      obtain ⟨ji83, hji83⟩ : ∃ j_ : Int, (wrap64 ((ji54) + 5)) = j_ := ⟨_, rfl⟩
                      replace H : (if 0 ≤ (ji83) then (if (ji83) < (l0.length : Int) then (some ((wrap64 (rd l0 9)), t476, Go.bits .or .i64 (wrap64 ((wrap64 (rd l0 (ji80))) * 256)) (wrap64 (rd l0 (ji83))), t477, Go.bits .or .i64 (wrap64 ((wrap64 (rd l0 (ji80))) * 256)) (wrap64 (rd l0 (ji83))), true)) else (none)) else (none)) = some (r1, r2, r3, r4, r5, r6) := by first | (rw [hji83] at H; exact H) | (simp only [hji83] at H ⊢; exact H)
                      have hji83w : (IntKind.i64.wrap ((ji54) + 5)) = ji83 := (i64_w _).trans hji83
                      by_cases c84 : 0 ≤ (ji83)
                      ·rw [if_pos c84] at H
                       have c84b0 : decide (0 ≤ (ji83)) = true := decide_eq_true c84
                       clear c84
                       by_cases c85 : (ji83) < (l0.length : Int)
                       ·rw [if_pos c85] at H
                        have c85b0 : decide ((ji83) < (l0.length : Int)) = true := decide_eq_true c85
                        clear c85
                        simp only [Option.some.injEq, Prod.mk.injEq] at H
                        obtain ⟨rfl, rfl, rfl, rfl, rfl, rfl⟩ := H
                        have p483 : 0 ≤ ((ji54) : Int) := of_decide_eq_true (by first | (with_reducible assumption) | assumption)
                        have q483 : (ji54) < (l0.length : Int) := of_decide_eq_true (by first | (with_reducible assumption) | assumption)
                        obtain ⟨ad483, e483, hx483_0⟩ := Kd.at_int HR0.out (ji54) p483 q483
                        obtain rfl : ad472 = ad483 := (by injection e483)
                        replace hx483_0 := (HB.out.cell (World.block_lt_of_cell? w _ hx483_0)).trans hx483_0
                        replace p483 := eq_true p483
                        replace q483 := eq_true q483
                        have p487 : 0 ≤ ((ji54) : Int) := of_decide_eq_true (by first | (with_reducible assumption) | assumption)
                        have q487 : (ji54) < (l0.length : Int) := of_decide_eq_true (by first | (with_reducible assumption) | assumption)
                        obtain ⟨ad487, e487, hx487_0⟩ := Kd.at_int HR0.out (ji54) p487 q487
                        obtain rfl : ad472 = ad487 := (by injection e487)
                        replace hx487_0 := (HB.out.cell (World.block_lt_of_cell? w _ hx487_0)).trans hx487_0
                        replace p487 := eq_true p487
                        replace q487 := eq_true q487
                        have p488 : 0 ≤ ((ji76) : Int) := of_decide_eq_true (by first | (with_reducible assumption) | assumption)
                        have q488 : (ji76) < (l0.length : Int) := of_decide_eq_true (by first | (with_reducible assumption) | assumption)
                        obtain ⟨ad488, e488, hx488_0⟩ := Kd.at_int HR0.out (ji76) p488 q488
                        obtain rfl : ad472 = ad488 := (by injection e488)
                        replace hx488_0 := (HB.out.cell (World.block_lt_of_cell? w _ hx488_0)).trans hx488_0
                        replace p488 := eq_true p488
                        replace q488 := eq_true q488
                        try go_wp2
                        have n0_ := Aside0.mk (blk_drew BK469.out)
                        have n1_ := Aside0.mk (blk_drew BK478.out)
                        have n2_ := Aside0.mk (below_drew1 HB.out)
                        clear BK469
                        clear BK478
                        clear HB
                        have BK469 := n0_
                        have BK478 := n1_
                        have HB := n2_
                        clear n0_ n1_ n2_
                        have p489 : 0 ≤ ((ji80) : Int) := of_decide_eq_true (by first | (with_reducible assumption) | assumption)
                        have q489 : (ji80) < (l0.length : Int) := of_decide_eq_true (by first | (with_reducible assumption) | assumption)
                        obtain ⟨ad489, e489, hx489_0⟩ := Kd.at_int HR0.out (ji80) p489 q489
                        have hw489_0 := hx489_0
                        obtain rfl : ad472 = ad489 := (by injection e489)
                        replace hx489_0 := (HB.out.cell (World.block_lt_of_cell? w _ hx489_0)).trans hx489_0
                        replace p489 := eq_true p489
                        replace q489 := eq_true q489
                        have p490 : 0 ≤ ((ji83) : Int) := of_decide_eq_true (by first | (with_reducible assumption) | assumption)
                        have q490 : (ji83) < (l0.length : Int) := of_decide_eq_true (by first | (with_reducible assumption) | assumption)
                        obtain ⟨ad490, e490, hx490_0⟩ := Kd.at_int HR0.out (ji83) p490 q490
                        have hw490_0 := hx490_0
                        obtain rfl : ad472 = ad490 := (by injection e490)
                        replace hx490_0 := (HB.out.cell (World.block_lt_of_cell? w _ hx490_0)).trans hx490_0
                        replace p490 := eq_true p490
                        replace q490 := eq_true q490
                        refine start_ (n := 17) (S := fun w' => w'.cell? (ad472.add ((ji80)).toNat) = some (.int .u8 (rd l0 (ji80))) ∧ w'.cell? (ad472.add ((ji83)).toNat) = some (.int .u8 (rd l0 (ji83)))) (ds := []) #[false, false, false, false, false, false, false, false, false, false, false, false, false, false, false, false, false] (by kernel_rfl) rfl rfl ⟨((HB.out.cell (World.block_lt_of_cell? w _ hw489_0)).trans hw489_0), ((HB.out.cell (World.block_lt_of_cell? w _ hw490_0)).trans hw490_0)⟩ (fun hHeld => ?_); refine with_tabW bailiwickref6_Quote.tab16 bailiwickref6_Quote.bits16 (fun HT_ HW_ => ?_)
                        generalize wc.drew = w86 at BK469 BK478 HB hx489_0 hx490_0 hHeld ⊢
                        refine pure_ (i := 0) (N := some 120) (v := ?_) (a' := ?_) #[true, false, false, false, false, false, false, false, false, false, false, false, false, false, false, false, false] rfl rfl (any_of HT_.out (by kernel_rfl)) (fun _ _ _ h => h) (Or.inl ⟨by rfl, ?_⟩) ?_ ?_
                        rotate_left
                        ·intro w'
                         go_simp
                         with_reducible rfl
                        rotate_left
                        ·simp only [Act.put, List.setIfInBounds_toArray, List.set_cons_zero, List.set_cons_succ, i64_w, i32_w]
                         rfl
                        refine pure_ (i := 1) (N := some 121) (v := ?_) (a' := ?_) #[true, true, false, false, false, false, false, false, false, false, false, false, false, false, false, false, false] rfl rfl (any_of HT_.out (by kernel_rfl)) (fun _ _ _ h => h) (Or.inl ⟨by rfl, ?_⟩) ?_ ?_
                        rotate_left
                        ·intro w'
                         go_simp
                         with_reducible rfl
                        rotate_left
                        ·simp only [Act.put, List.setIfInBounds_toArray, List.set_cons_zero, List.set_cons_succ, i64_w, i32_w]
                         rfl
                        refine pure_ (i := 2) (N := some 122) (v := ?_) (a' := ?_) #[true, true, true, false, false, false, false, false, false, false, false, false, false, false, false, false, false] rfl rfl (any_of HT_.out (by kernel_rfl)) (fun _ _ _ h => h) (Or.inl ⟨by rfl, ?_⟩) ?_ ?_
                        rotate_left
                        ·intro w'
                         go_simp
                         with_reducible rfl
                        rotate_left
                        ·simp only [Act.put, List.setIfInBounds_toArray, List.set_cons_zero, List.set_cons_succ, i64_w, i32_w]
                         rfl
                        refine pure_ (i := 3) (N := some 123) (v := ?_) (a' := ?_) #[true, true, true, true, false, false, false, false, false, false, false, false, false, false, false, false, false] rfl rfl (any_of HT_.out (by kernel_rfl)) (fun _ _ _ h => h) (Or.inl ⟨by rfl, ?_⟩) ?_ ?_
                        rotate_left
                        ·intro w'
                         go_simp
                         with_reducible rfl
                        rotate_left
                        ·simp only [Act.put, List.setIfInBounds_toArray, List.set_cons_zero, List.set_cons_succ, i64_w, i32_w]
                         rfl
                        refine pure_ (i := 7) (N := some 127) (v := ?_) (a' := ?_) #[true, true, true, true, false, false, false, true, false, false, false, false, false, false, false, false, false] rfl rfl (any_of HT_.out (by kernel_rfl)) (fun _ _ _ h => h) (Or.inl ⟨by rfl, ?_⟩) ?_ ?_
                        rotate_left
                        ·intro w'
                         go_simp
                         with_reducible rfl
                        rotate_left
                        ·simp only [Act.put, List.setIfInBounds_toArray, List.set_cons_zero, List.set_cons_succ, i64_w, i32_w]
                         rfl
                        refine pure_ (i := 8) (N := some 128) (v := ?_) (a' := ?_) #[true, true, true, true, false, false, false, true, true, false, false, false, false, false, false, false, false] rfl rfl (any_of HT_.out (by kernel_rfl)) (fun _ _ _ h => h) (Or.inl ⟨by rfl, ?_⟩) ?_ ?_
                        rotate_left
                        ·intro w'
                         go_simp
                         with_reducible rfl
                        rotate_left
                        ·simp only [Act.put, List.setIfInBounds_toArray, List.set_cons_zero, List.set_cons_succ, i64_w, i32_w]
                         rfl
                        refine pure_ (i := 9) (N := some 129) (v := ?_) (a' := ?_) #[true, true, true, true, false, false, false, true, true, true, false, false, false, false, false, false, false] rfl rfl (any_of HT_.out (by kernel_rfl)) (fun _ _ _ h => h) (Or.inl ⟨by rfl, ?_⟩) ?_ ?_
                        rotate_left
                        ·intro w'
                         go_simp
                         with_reducible rfl
                        rotate_left
                        ·simp only [Act.put, List.setIfInBounds_toArray, List.set_cons_zero, List.set_cons_succ, i64_w, i32_w]
                         rfl
                        refine pure_ (i := 10) (N := some 130) (v := ?_) (a' := ?_) #[true, true, true, true, false, false, false, true, true, true, true, false, false, false, false, false, false] rfl rfl (any_of HT_.out (by kernel_rfl)) (fun _ _ _ h => h) (Or.inl ⟨by rfl, ?_⟩) ?_ ?_
                        rotate_left
                        ·intro w'
                         go_simp
                         with_reducible rfl
                        rotate_left
                        ·simp only [Act.put, List.setIfInBounds_toArray, List.set_cons_zero, List.set_cons_succ, i64_w, i32_w]
                         rfl
                        refine take_ (i := 4) (N := some 124) (v := ?_) (a' := ?_) #[true, true, true, true, true, false, false, true, true, true, true, false, false, false, false, false, false] rfl rfl (take_ofW HT_.out HW_.out (by kernel_rfl)) (fun _ _ _ h => h) (Or.inl ⟨by rfl, ?_⟩) hHeld ?_ ?_
                        rotate_left
                        ·rintro w' ⟨s0, s1⟩
                         go_simp
                         with_reducible rfl
                        rotate_left
                        ·simp only [Act.put, List.setIfInBounds_toArray, List.set_cons_zero, List.set_cons_succ, i64_w, i32_w]
                         rfl
                        refine pure_ (i := 5) (N := some 125) (v := ?_) (a' := ?_) #[true, true, true, true, true, true, false, true, true, true, true, false, false, false, false, false, false] rfl rfl (any_of HT_.out (by kernel_rfl)) (fun _ _ _ h => h) (Or.inl ⟨by rfl, ?_⟩) ?_ ?_
                        rotate_left
                        ·intro w'
                         go_simp
                         with_reducible rfl
                        rotate_left
                        ·simp only [Act.put, List.setIfInBounds_toArray, List.set_cons_zero, List.set_cons_succ, i64_w, i32_w]
                         rfl
                        refine pure_ (i := 6) (N := some 126) (v := ?_) (a' := ?_) #[true, true, true, true, true, true, true, true, true, true, true, false, false, false, false, false, false] rfl rfl (any_of HT_.out (by kernel_rfl)) (fun _ _ _ h => h) (Or.inl ⟨by rfl, ?_⟩) ?_ ?_
                        rotate_left
                        ·intro w'
                         go_simp
                         with_reducible rfl
                        rotate_left
                        ·simp only [Act.put, List.setIfInBounds_toArray, List.set_cons_zero, List.set_cons_succ, i64_w, i32_w]
                         rfl
                        refine take_ (i := 11) (N := some 131) (v := ?_) (a' := ?_) #[true, true, true, true, true, true, true, true, true, true, true, true, false, false, false, false, false] rfl rfl (take_ofW HT_.out HW_.out (by kernel_rfl)) (fun _ _ _ h => h) (Or.inl ⟨by rfl, ?_⟩) hHeld ?_ ?_
                        rotate_left
                        ·rintro w' ⟨s0, s1⟩
                         go_simp
                         with_reducible rfl
                        rotate_left
                        ·simp only [Act.put, List.setIfInBounds_toArray, List.set_cons_zero, List.set_cons_succ, i64_w, i32_w]
                         rfl
                        refine pure_ (i := 12) (N := some 132) (v := ?_) (a' := ?_) #[true, true, true, true, true, true, true, true, true, true, true, true, true, false, false, false, false] rfl rfl (any_of HT_.out (by kernel_rfl)) (fun _ _ _ h => h) (Or.inl ⟨by rfl, ?_⟩) ?_ ?_
                        rotate_left
                        ·intro w'
                         go_simp
                         with_reducible rfl
                        rotate_left
                        ·simp only [Act.put, List.setIfInBounds_toArray, List.set_cons_zero, List.set_cons_succ, i64_w, i32_w]
                         rfl
                        refine pure_ (i := 13) (N := some 133) (v := ?_) (a' := ?_) #[true, true, true, true, true, true, true, true, true, true, true, true, true, true, false, false, false] rfl rfl (any_of HT_.out (by kernel_rfl)) (fun _ _ _ h => h) (Or.inl ⟨by rfl, ?_⟩) ?_ ?_
                        rotate_left
                        ·intro w'
                         go_simp
                         with_reducible rfl
                        rotate_left
                        ·simp only [Act.put, List.setIfInBounds_toArray, List.set_cons_zero, List.set_cons_succ, i64_w, i32_w]
                         rfl
                        refine pure_ (i := 14) (N := some 134) (v := ?_) (a' := ?_) #[true, true, true, true, true, true, true, true, true, true, true, true, true, true, true, false, false] rfl rfl (any_of HT_.out (by kernel_rfl)) (fun _ _ _ h => h) (Or.inl ⟨by rfl, ?_⟩) ?_ ?_
                        rotate_left
                        ·intro w'
                         go_simp
                         with_reducible rfl
                        rotate_left
                        ·simp only [Act.put, List.setIfInBounds_toArray, List.set_cons_zero, List.set_cons_succ, i64_w, i32_w]
                         rfl
                        refine pure_ (i := 15) (N := some 135) (v := ?_) (a' := ?_) #[true, true, true, true, true, true, true, true, true, true, true, true, true, true, true, true, false] rfl rfl (any_of HT_.out (by kernel_rfl)) (fun _ _ _ h => h) (Or.inl ⟨by rfl, ?_⟩) ?_ ?_
                        rotate_left
                        ·intro w'
                         go_simp
                         with_reducible rfl
                        rotate_left
                        ·simp only [Act.put, List.setIfInBounds_toArray, List.set_cons_zero, List.set_cons_succ, i64_w, i32_w]
                         rfl
                        refine one_ (i := 16) (N := none) #[true, true, true, true, true, true, true, true, true, true, true, true, true, true, true, true, true] rfl rfl (one_of HT_.out (by kernel_rfl)) (by decide) (fun K hK => ?_)
                        have hs87 : w86.cell? ⟨gb478, 2, none⟩ = some (.int .i64 0) := (blk_cell BK478.out 2).trans rfl
                        have hfs87 := blk_frozen BK478.out 2
                        have hns87_0 := NB469_478.out
                        have hms87_0 := NB478_469.out
                        refine skip_ (w1 := ?_) (by rfl) rfl ?_ ?_
                        rotate_left
                        ·go_simp
                         rfl
                        refine hK.out _ _ ⟨((cell_far (p := ⟨gb478, _, none⟩) (by first | exact Nat.ne_of_lt (Nat.lt_of_lt_of_le (by have := World.block_lt_of_cell? _ _ hw489_0; first | rwa [add_block] at this | exact this) GW478.out) | (rw [add_block]; exact Nat.ne_of_lt (Nat.lt_of_lt_of_le (by have := World.block_lt_of_cell? _ _ hw489_0; first | rwa [add_block] at this | exact this) GW478.out)) | (show (Addr.add _ _).block ≠ _; rw [add_block]; exact Nat.ne_of_lt (Nat.lt_of_lt_of_le (by have := World.block_lt_of_cell? _ _ hw489_0; first | rwa [add_block] at this | exact this) GW478.out)) | (dsimp only; exact Nat.ne_of_lt (Nat.lt_of_lt_of_le (by have := World.block_lt_of_cell? _ _ hw489_0; first | rwa [add_block] at this | exact this) GW478.out))) _).trans (hHeld.1)), ((cell_far (p := ⟨gb478, _, none⟩) (by first | exact Nat.ne_of_lt (Nat.lt_of_lt_of_le (by have := World.block_lt_of_cell? _ _ hw490_0; first | rwa [add_block] at this | exact this) GW478.out) | (rw [add_block]; exact Nat.ne_of_lt (Nat.lt_of_lt_of_le (by have := World.block_lt_of_cell? _ _ hw490_0; first | rwa [add_block] at this | exact this) GW478.out)) | (show (Addr.add _ _).block ≠ _; rw [add_block]; exact Nat.ne_of_lt (Nat.lt_of_lt_of_le (by have := World.block_lt_of_cell? _ _ hw490_0; first | rwa [add_block] at this | exact this) GW478.out)) | (dsimp only; exact Nat.ne_of_lt (Nat.lt_of_lt_of_le (by have := World.block_lt_of_cell? _ _ hw490_0; first | rwa [add_block] at this | exact this) GW478.out))) _).trans (hHeld.2))⟩ (fun hHeld => ?_)
                        clear hK K
                        refine done_ (done_of HT_.out (by kernel_rfl)) ?_
                        have hnb88 := NB478_469.out
                        have hnc88 := NB469_478.out
                        have hcz89_0 : w86.cell? ⟨gb478, 0, none⟩ = some (.int .i64 (wrap64 (rd l0 9))) := (blk_cell BK478.out 0).trans rfl
                        have hcz89_1 : w86.cell? ⟨gb478, 1, none⟩ = some (.int .u32 t476) := (blk_cell BK478.out 1).trans rfl
                        have hcz89_2 : w86.cell? ⟨gb478, 2, none⟩ = some (.int .i64 0) := (blk_cell BK478.out 2).trans rfl
                        have hcz89_3 : w86.cell? ⟨gb478, 3, none⟩ = some (.int .u32 t477) := (blk_cell BK478.out 3).trans rfl
                        have hcz89_4 : w86.cell? ⟨gb478, 4, none⟩ = some (.int .i64 0) := (blk_cell BK478.out 4).trans rfl
                        have hfz89_0 := blk_frozen BK478.out 0
                        have hfz89_1 := blk_frozen BK478.out 1
                        have hfz89_2 := blk_frozen BK478.out 2
                        have hfz89_3 := blk_frozen BK478.out 3
                        have hfz89_4 := blk_frozen BK478.out 4
                        have hcz90_0 : w86.cell? ⟨gb469, 0, none⟩ = some (.int .i64 0) := (blk_cell BK469.out 0).trans rfl
                        have hcz90_1 : w86.cell? ⟨gb469, 1, none⟩ = some (.int .u32 0) := (blk_cell BK469.out 1).trans rfl
                        have hcz90_2 : w86.cell? ⟨gb469, 2, none⟩ = some (.int .i64 0) := (blk_cell BK469.out 2).trans rfl
                        have hcz90_3 : w86.cell? ⟨gb469, 3, none⟩ = some (.int .u32 0) := (blk_cell BK469.out 3).trans rfl
                        have hcz90_4 : w86.cell? ⟨gb469, 4, none⟩ = some (.int .i64 0) := (blk_cell BK469.out 4).trans rfl
                        have hfz90_0 := blk_frozen BK469.out 0
                        have hfz90_1 := blk_frozen BK469.out 1
                        have hfz90_2 := blk_frozen BK469.out 2
                        have hfz90_3 := blk_frozen BK469.out 3
                        have hfz90_4 := blk_frozen BK469.out 4
                        try go_wp2
                        refine bodyPost_ret (results_ct rfl _ _ gb469 35 #[.int .i64 (wrap64 (rd l0 9)), .int .u32 t476, .int .i64 (Go.bits .or .i64 (wrap64 ((wrap64 (rd l0 (ji80))) * 256)) (wrap64 (rd l0 (ji83)))), .int .u32 t477, .int .i64 (Go.bits .or .i64 (wrap64 ((wrap64 (rd l0 (ji80))) * 256)) (wrap64 (rd l0 (ji83))))] (0, 0) _ rfl (by (with_reducible repeat (first | refine blk_drewN ?_ _ | refine blk_drew ?_ | refine blk_alloc ?_ _)); refine blk_put (cs := #[.int .i64 (wrap64 (rd l0 9)), .int .u32 t476, .int .i64 (Go.bits .or .i64 (wrap64 ((wrap64 (rd l0 (ji80))) * 256)) (wrap64 (rd l0 (ji83)))), .int .u32 t477, .int .i64 0]) ?_ 4 _ rfl; (with_reducible repeat (first | refine blk_drewN ?_ _ | refine blk_drew ?_ | refine blk_alloc ?_ _)); refine blk_put (cs := #[.int .i64 (wrap64 (rd l0 9)), .int .u32 t476, .int .i64 (Go.bits .or .i64 (wrap64 ((wrap64 (rd l0 (ji80))) * 256)) (wrap64 (rd l0 (ji83)))), .int .u32 0, .int .i64 0]) ?_ 3 _ rfl; (with_reducible repeat (first | refine blk_drewN ?_ _ | refine blk_drew ?_ | refine blk_alloc ?_ _)); refine blk_put (cs := #[.int .i64 (wrap64 (rd l0 9)), .int .u32 t476, .int .i64 0, .int .u32 0, .int .i64 0]) ?_ 2 _ rfl; (with_reducible repeat (first | refine blk_drewN ?_ _ | refine blk_drew ?_ | refine blk_alloc ?_ _)); refine blk_put (cs := #[.int .i64 (wrap64 (rd l0 9)), .int .u32 0, .int .i64 0, .int .u32 0, .int .i64 0]) ?_ 1 _ rfl; (with_reducible repeat (first | refine blk_drewN ?_ _ | refine blk_drew ?_ | refine blk_alloc ?_ _)); refine blk_put (cs := #[.int .i64 0, .int .u32 0, .int .i64 0, .int .u32 0, .int .i64 0]) ?_ 0 _ rfl; (with_reducible repeat (first | refine blk_drewN ?_ _ | refine blk_drew ?_ | refine blk_alloc ?_ _)); refine blk_far ?_ NB469_478.out _; (with_reducible repeat (first | refine blk_drewN ?_ _ | refine blk_drew ?_ | refine blk_alloc ?_ _)); refine blk_far ?_ NB469_478.out _; (with_reducible repeat (first | refine blk_drewN ?_ _ | refine blk_drew ?_ | refine blk_alloc ?_ _)); exact BK469.out) Try.underlying35 rfl (by kernel_rfl)) rfl ?_
                        exact ⟨by first | rfl | (simp [errW_none, errW_some] <;> rfl) | (simp only [← hji54, ← hji76, ← hji80, ← hji83]; first | rfl | (simp [errW_none, errW_some] <;> rfl)) | (simp [*, errW_none, errW_some] <;> rfl), by repeat (first | (with_reducible first | exact HB.out | apply below_alloc | apply pw_below_drewN | apply below_drew1 | refine below_set ?_ GE469.out | refine below_set ?_ GE478.out) | exact HB.out)⟩
                       ·rw [if_neg c85] at H
                        exact absurd H (by simp)
                      ·rw [if_neg c84] at H
                       exact absurd H (by simp)
                     ·rw [if_neg c82] at H
                      exact absurd H (by simp)
                    ·rw [if_neg c81] at H
                     exact absurd H (by simp)
                   ·rw [if_neg c79] at H
                    have c79b0 : ((rd l0 (ji76)) == 0) = false := beq_eq_false_iff_ne.mpr c79
                    have c79b1 : ((rd l0 (ji76)) != 0) = true := bne_iff_ne.mpr c79
                    simp only [Option.some.injEq, Prod.mk.injEq] at H
                    obtain ⟨rfl, rfl, rfl, rfl, rfl, rfl⟩ := H
                    have p483 : 0 ≤ ((ji54) : Int) := of_decide_eq_true (by first | (with_reducible assumption) | assumption)
                    have q483 : (ji54) < (l0.length : Int) := of_decide_eq_true (by first | (with_reducible assumption) | assumption)
                    obtain ⟨ad483, e483, hx483_0⟩ := Kd.at_int HR0.out (ji54) p483 q483
                    obtain rfl : ad472 = ad483 := (by injection e483)
                    replace hx483_0 := (HB.out.cell (World.block_lt_of_cell? w _ hx483_0)).trans hx483_0
                    replace p483 := eq_true p483
                    replace q483 := eq_true q483
                    have p487 : 0 ≤ ((ji54) : Int) := of_decide_eq_true (by first | (with_reducible assumption) | assumption)
                    have q487 : (ji54) < (l0.length : Int) := of_decide_eq_true (by first | (with_reducible assumption) | assumption)
                    obtain ⟨ad487, e487, hx487_0⟩ := Kd.at_int HR0.out (ji54) p487 q487
                    obtain rfl : ad472 = ad487 := (by injection e487)
                    replace hx487_0 := (HB.out.cell (World.block_lt_of_cell? w _ hx487_0)).trans hx487_0
                    replace p487 := eq_true p487
                    replace q487 := eq_true q487
                    have p488 : 0 ≤ ((ji76) : Int) := of_decide_eq_true (by first | (with_reducible assumption) | assumption)
                    have q488 : (ji76) < (l0.length : Int) := of_decide_eq_true (by first | (with_reducible assumption) | assumption)
                    obtain ⟨ad488, e488, hx488_0⟩ := Kd.at_int HR0.out (ji76) p488 q488
                    obtain rfl : ad472 = ad488 := (by injection e488)
                    replace hx488_0 := (HB.out.cell (World.block_lt_of_cell? w _ hx488_0)).trans hx488_0
                    replace p488 := eq_true p488
                    replace q488 := eq_true q488
                    have hnb91 := NB469_478.out
                    have hnc91 := NB478_469.out
                    have hcz92_0 : wc.cell? ⟨gb469, 0, none⟩ = some (.int .i64 0) := (blk_cell BK469.out 0).trans rfl
                    have hcz92_1 : wc.cell? ⟨gb469, 1, none⟩ = some (.int .u32 0) := (blk_cell BK469.out 1).trans rfl
                    have hcz92_2 : wc.cell? ⟨gb469, 2, none⟩ = some (.int .i64 0) := (blk_cell BK469.out 2).trans rfl
                    have hcz92_3 : wc.cell? ⟨gb469, 3, none⟩ = some (.int .u32 0) := (blk_cell BK469.out 3).trans rfl
                    have hcz92_4 : wc.cell? ⟨gb469, 4, none⟩ = some (.int .i64 0) := (blk_cell BK469.out 4).trans rfl
                    have hfz92_0 := blk_frozen BK469.out 0
                    have hfz92_1 := blk_frozen BK469.out 1
                    have hfz92_2 := blk_frozen BK469.out 2
                    have hfz92_3 := blk_frozen BK469.out 3
                    have hfz92_4 := blk_frozen BK469.out 4
                    go_wp2
                    refine bodyPost_ret (results_ct rfl _ _ gb469 35 #[.int .i64 0, .int .u32 0, .int .i64 0, .int .u32 0, .int .i64 0] (0, 0) _ rfl (by (with_reducible repeat (first | refine blk_drewN ?_ _ | refine blk_drew ?_ | refine blk_alloc ?_ _)); refine blk_put (cs := #[.int .i64 0, .int .u32 0, .int .i64 0, .int .u32 0, .int .i64 0]) ?_ 4 _ rfl; (with_reducible repeat (first | refine blk_drewN ?_ _ | refine blk_drew ?_ | refine blk_alloc ?_ _)); refine blk_put (cs := #[.int .i64 0, .int .u32 0, .int .i64 0, .int .u32 0, .int .i64 0]) ?_ 3 _ rfl; (with_reducible repeat (first | refine blk_drewN ?_ _ | refine blk_drew ?_ | refine blk_alloc ?_ _)); refine blk_put (cs := #[.int .i64 0, .int .u32 0, .int .i64 0, .int .u32 0, .int .i64 0]) ?_ 2 _ rfl; (with_reducible repeat (first | refine blk_drewN ?_ _ | refine blk_drew ?_ | refine blk_alloc ?_ _)); refine blk_put (cs := #[.int .i64 0, .int .u32 0, .int .i64 0, .int .u32 0, .int .i64 0]) ?_ 1 _ rfl; (with_reducible repeat (first | refine blk_drewN ?_ _ | refine blk_drew ?_ | refine blk_alloc ?_ _)); refine blk_put (cs := #[.int .i64 0, .int .u32 0, .int .i64 0, .int .u32 0, .int .i64 0]) ?_ 0 _ rfl; (with_reducible repeat (first | refine blk_drewN ?_ _ | refine blk_drew ?_ | refine blk_alloc ?_ _)); exact BK469.out) Try.underlying35 rfl (by kernel_rfl)) rfl ?_
                    exact ⟨by first | rfl | (simp [errW_none, errW_some] <;> rfl) | (simp only [← hji54, ← hji76]; first | rfl | (simp [errW_none, errW_some] <;> rfl)) | (simp [*, errW_none, errW_some] <;> rfl), by repeat (first | (with_reducible first | exact HB.out | apply below_alloc | apply pw_below_drewN | apply below_drew1 | refine below_set ?_ GE469.out | refine below_set ?_ GE478.out) | exact HB.out)⟩
                  ·rw [if_neg c78] at H
                   exact absurd H (by simp)
                 ·rw [if_neg c77] at H
                  exact absurd H (by simp)
                ·rw [if_neg c75] at H
                 have c75b0 : ((rd l0 (ji54)) == 0) = false := beq_eq_false_iff_ne.mpr c75
                 have c75b1 : ((rd l0 (ji54)) != 0) = true := bne_iff_ne.mpr c75
                 simp only [Option.some.injEq, Prod.mk.injEq] at H
                 obtain ⟨rfl, rfl, rfl, rfl, rfl, rfl⟩ := H
                 have p483 : 0 ≤ ((ji54) : Int) := of_decide_eq_true (by first | (with_reducible assumption) | assumption)
                 have q483 : (ji54) < (l0.length : Int) := of_decide_eq_true (by first | (with_reducible assumption) | assumption)
                 obtain ⟨ad483, e483, hx483_0⟩ := Kd.at_int HR0.out (ji54) p483 q483
                 obtain rfl : ad472 = ad483 := (by injection e483)
                 replace hx483_0 := (HB.out.cell (World.block_lt_of_cell? w _ hx483_0)).trans hx483_0
                 replace p483 := eq_true p483
                 replace q483 := eq_true q483
                 have p487 : 0 ≤ ((ji54) : Int) := of_decide_eq_true (by first | (with_reducible assumption) | assumption)
                 have q487 : (ji54) < (l0.length : Int) := of_decide_eq_true (by first | (with_reducible assumption) | assumption)
                 obtain ⟨ad487, e487, hx487_0⟩ := Kd.at_int HR0.out (ji54) p487 q487
                 obtain rfl : ad472 = ad487 := (by injection e487)
                 replace hx487_0 := (HB.out.cell (World.block_lt_of_cell? w _ hx487_0)).trans hx487_0
                 replace p487 := eq_true p487
                 replace q487 := eq_true q487
                 have hnb93 := NB469_478.out
                 have hnc93 := NB478_469.out
                 have hcz94_0 : wc.cell? ⟨gb469, 0, none⟩ = some (.int .i64 0) := (blk_cell BK469.out 0).trans rfl
                 have hcz94_1 : wc.cell? ⟨gb469, 1, none⟩ = some (.int .u32 0) := (blk_cell BK469.out 1).trans rfl
                 have hcz94_2 : wc.cell? ⟨gb469, 2, none⟩ = some (.int .i64 0) := (blk_cell BK469.out 2).trans rfl
                 have hcz94_3 : wc.cell? ⟨gb469, 3, none⟩ = some (.int .u32 0) := (blk_cell BK469.out 3).trans rfl
                 have hcz94_4 : wc.cell? ⟨gb469, 4, none⟩ = some (.int .i64 0) := (blk_cell BK469.out 4).trans rfl
                 have hfz94_0 := blk_frozen BK469.out 0
                 have hfz94_1 := blk_frozen BK469.out 1
                 have hfz94_2 := blk_frozen BK469.out 2
                 have hfz94_3 := blk_frozen BK469.out 3
                 have hfz94_4 := blk_frozen BK469.out 4
                 go_wp2
                 refine bodyPost_ret (results_ct rfl _ _ gb469 35 #[.int .i64 0, .int .u32 0, .int .i64 0, .int .u32 0, .int .i64 0] (0, 0) _ rfl (by (with_reducible repeat (first | refine blk_drewN ?_ _ | refine blk_drew ?_ | refine blk_alloc ?_ _)); refine blk_put (cs := #[.int .i64 0, .int .u32 0, .int .i64 0, .int .u32 0, .int .i64 0]) ?_ 4 _ rfl; (with_reducible repeat (first | refine blk_drewN ?_ _ | refine blk_drew ?_ | refine blk_alloc ?_ _)); refine blk_put (cs := #[.int .i64 0, .int .u32 0, .int .i64 0, .int .u32 0, .int .i64 0]) ?_ 3 _ rfl; (with_reducible repeat (first | refine blk_drewN ?_ _ | refine blk_drew ?_ | refine blk_alloc ?_ _)); refine blk_put (cs := #[.int .i64 0, .int .u32 0, .int .i64 0, .int .u32 0, .int .i64 0]) ?_ 2 _ rfl; (with_reducible repeat (first | refine blk_drewN ?_ _ | refine blk_drew ?_ | refine blk_alloc ?_ _)); refine blk_put (cs := #[.int .i64 0, .int .u32 0, .int .i64 0, .int .u32 0, .int .i64 0]) ?_ 1 _ rfl; (with_reducible repeat (first | refine blk_drewN ?_ _ | refine blk_drew ?_ | refine blk_alloc ?_ _)); refine blk_put (cs := #[.int .i64 0, .int .u32 0, .int .i64 0, .int .u32 0, .int .i64 0]) ?_ 0 _ rfl; (with_reducible repeat (first | refine blk_drewN ?_ _ | refine blk_drew ?_ | refine blk_alloc ?_ _)); exact BK469.out) Try.underlying35 rfl (by kernel_rfl)) rfl ?_
                 exact ⟨by first | rfl | (simp [errW_none, errW_some] <;> rfl) | (simp only [← hji54]; first | rfl | (simp [errW_none, errW_some] <;> rfl)) | (simp [*, errW_none, errW_some] <;> rfl), by repeat (first | (with_reducible first | exact HB.out | apply below_alloc | apply pw_below_drewN | apply below_drew1 | refine below_set ?_ GE469.out | refine below_set ?_ GE478.out) | exact HB.out)⟩
              ·rw [if_neg c56] at H
               exact absurd H (by simp)
             ·rw [if_neg c55] at H
              exact absurd H (by simp)
            ·rw [if_neg c53] at H
             have c53b0 : ((wrap64 (rd l0 9)) == 1) = false := beq_eq_false_iff_ne.mpr c53
             have c53b1 : ((wrap64 (rd l0 9)) != 1) = true := bne_iff_ne.mpr c53
             simp only [Option.some.injEq, Prod.mk.injEq] at H
             obtain ⟨rfl, rfl, rfl, rfl, rfl, rfl⟩ := H
             have hnb95 := NB469_478.out
             have hnc95 := NB478_469.out
             have hcz96_0 : wc.cell? ⟨gb469, 0, none⟩ = some (.int .i64 0) := (blk_cell BK469.out 0).trans rfl
             have hcz96_1 : wc.cell? ⟨gb469, 1, none⟩ = some (.int .u32 0) := (blk_cell BK469.out 1).trans rfl
             have hcz96_2 : wc.cell? ⟨gb469, 2, none⟩ = some (.int .i64 0) := (blk_cell BK469.out 2).trans rfl
             have hcz96_3 : wc.cell? ⟨gb469, 3, none⟩ = some (.int .u32 0) := (blk_cell BK469.out 3).trans rfl
             have hcz96_4 : wc.cell? ⟨gb469, 4, none⟩ = some (.int .i64 0) := (blk_cell BK469.out 4).trans rfl
             have hfz96_0 := blk_frozen BK469.out 0
             have hfz96_1 := blk_frozen BK469.out 1
             have hfz96_2 := blk_frozen BK469.out 2
             have hfz96_3 := blk_frozen BK469.out 3
             have hfz96_4 := blk_frozen BK469.out 4
             go_wp2
             refine bodyPost_ret (results_ct rfl _ _ gb469 35 #[.int .i64 0, .int .u32 0, .int .i64 0, .int .u32 0, .int .i64 0] (0, 0) _ rfl (by (with_reducible repeat (first | refine blk_drewN ?_ _ | refine blk_drew ?_ | refine blk_alloc ?_ _)); refine blk_put (cs := #[.int .i64 0, .int .u32 0, .int .i64 0, .int .u32 0, .int .i64 0]) ?_ 4 _ rfl; (with_reducible repeat (first | refine blk_drewN ?_ _ | refine blk_drew ?_ | refine blk_alloc ?_ _)); refine blk_put (cs := #[.int .i64 0, .int .u32 0, .int .i64 0, .int .u32 0, .int .i64 0]) ?_ 3 _ rfl; (with_reducible repeat (first | refine blk_drewN ?_ _ | refine blk_drew ?_ | refine blk_alloc ?_ _)); refine blk_put (cs := #[.int .i64 0, .int .u32 0, .int .i64 0, .int .u32 0, .int .i64 0]) ?_ 2 _ rfl; (with_reducible repeat (first | refine blk_drewN ?_ _ | refine blk_drew ?_ | refine blk_alloc ?_ _)); refine blk_put (cs := #[.int .i64 0, .int .u32 0, .int .i64 0, .int .u32 0, .int .i64 0]) ?_ 1 _ rfl; (with_reducible repeat (first | refine blk_drewN ?_ _ | refine blk_drew ?_ | refine blk_alloc ?_ _)); refine blk_put (cs := #[.int .i64 0, .int .u32 0, .int .i64 0, .int .u32 0, .int .i64 0]) ?_ 0 _ rfl; (with_reducible repeat (first | refine blk_drewN ?_ _ | refine blk_drew ?_ | refine blk_alloc ?_ _)); exact BK469.out) Try.underlying35 rfl (by kernel_rfl)) rfl ?_
             exact ⟨by first | rfl | (simp [errW_none, errW_some] <;> rfl) | (simp [*, errW_none, errW_some] <;> rfl), by repeat (first | (with_reducible first | exact HB.out | apply below_alloc | apply pw_below_drewN | apply below_drew1 | refine below_set ?_ GE469.out | refine below_set ?_ GE478.out) | exact HB.out)⟩
        ·rw [if_neg c17] at H
         exact absurd H (by simp)
    ·rw [if_neg c9] at H
     exact absurd H (by simp)

end Go.Proofs.Ytljnnhloinbjhaa.P
