-- Laid by a program (wip/tools/myprint.py) out of the translation. Not trusted: Lean checks it.
import Derived.Test.YtdppnkgblklmmaaP0
import Derived.Test.YtdppnkgblklmmaaPoctet
import Derived.Test.YtdppnkgblklmmaaPudp
import Derived.Test.YtdppnkgblklmmaaPbailiwickref1
import Derived.Test.YtdppnkgblklmmaaPbailiwicklaw3
import Derived.Test.YtdppnkgblklmmaaPbailiwickref3SameDatagram
namespace Go.Proofs.Ytdppnkgblklmmaa.P
open Go.RowKit Go.Proofs.YtdppnkgblklmmaaW.PrintWords Go.Proofs.YtdppnkgblklmmaaW.PrintLast Go.Proofs.YtdppnkgblklmmaaW.PrintMore
attribute [local go_sem] max2_int min2_int max_two min_two max_three min_three max_four min_four   -- for this text's walks alone
set_option linter.unusedVariables false
set_option linter.unusedSimpArgs false

/-! ### bailiwicklaw3_UdpBack: function 16 -/
def bailiwicklaw3_UdpBack.j0 : Nat → List Int → Int → Bool → Int → Int → Int → Int → Bool → List Int → Option (Bool)
 | 0, _, _, _, _, _, _, _, _, _ => none
 | k + 1, x1, x2, x26, x531000, x531001, x531002, x531003, x531004, x531005 => if x26 = true then (some true) else ((udp_Build.f k x531000 x531001 x531002 x531003 x531004 x531005).bind fun bt532 => (if bt532.2 = 0 then ((bailiwickref1_Copy.f k bt532.1).bind fun t536 => (if t536.length + x1.length < 140737488355328 then ((udp_Parse.f k x531000 x531001 (t536 ++ x1)).bind fun bt542 => ((udp_Parse.f k x531000 x2 bt532.1).bind fun bt550 => ((udp_Pseudo.f k x531000 x531001 17 (bt532.1.length : Int)).bind fun t558 => ((octet_Sum.f (([t558] : List (List Int)))).bind fun t565 => ((udp_Pseudo.f k x531000 x2 17 (bt532.1.length : Int)).bind fun t566 => ((octet_Sum.f (([t566] : List (List Int)))).bind fun t573 => (if bt542.2.2.2.2 = 0 then ((bailiwickref3_SameDatagram.f k bt542.1 bt542.2.1 bt542.2.2.1 bt542.2.2.2.1 x531002 x531003 x531004 x531005).bind fun t574 => (if t574 = true then (if x531004 = true then (some ((bt550.2.2.2.2 == 0) == true)) else (some ((bt550.2.2.2.2 == 0) == (t565 == t573)))) else (some false))) else (some false)))))))) else (none))) else (some true)))
def bailiwicklaw3_UdpBack.f (k : Nat) (a0_0 : Int) (a0_1 : Int) (a0_2 : Int) (a0_3 : Int) (a0_4 : Bool) (l0_5 : List Int) (l1 : List Int) (a2 : Int) : Option (Bool) := (bailiwicklaw3_awake.f).bind fun t531 => (if t531 = true then (if (l0_5.length : Int) > 5000 then (bailiwicklaw3_UdpBack.j0 k l1 a2 true a0_0 a0_1 a0_2 a0_3 a0_4 l0_5) else (bailiwicklaw3_UdpBack.j0 k l1 a2 (decide ((l1.length : Int) > 5000)) a0_0 a0_1 a0_2 a0_3 a0_4 l0_5)) else (some false))
theorem bailiwicklaw3_UdpBack.mono_l : ∀ k, (∀ y0 y1 y2 y3 y4 y5 y6 y7 y8, LeO (bailiwicklaw3_UdpBack.j0 k y0 y1 y2 y3 y4 y5 y6 y7 y8) (bailiwicklaw3_UdpBack.j0 (k + 1) y0 y1 y2 y3 y4 y5 y6 y7 y8))
 | 0 => fun _ _ _ _ _ _ _ _ _ r h => by simp [bailiwicklaw3_UdpBack.j0] at h
 | k + 1 => by
  have ih0 := bailiwicklaw3_UdpBack.mono_l k
  ·intro y0 y1 y2 y3 y4 y5 y6 y7 y8
   unfold bailiwicklaw3_UdpBack.j0
   repeat' first
   | (with_reducible exact ih0 _ _ _ _ _ _ _ _ _)
   | (with_reducible exact bailiwickref1_Copy.mono _ _)
   | (with_reducible exact bailiwickref3_SameDatagram.mono _ _ _ _ _ _ _ _ _)
   | (with_reducible exact udp_Build.mono _ _ _ _ _ _ _)
   | (with_reducible exact udp_Parse.mono _ _ _ _)
   | (with_reducible exact udp_Pseudo.mono _ _ _ _ _)
   | (with_reducible exact LeO.refl _)
   | (with_reducible exact LeO.none _)
   | (with_reducible refine LeO.ite ?_ ?_)
   | (with_reducible refine LeO.bind ?_ (fun _ => ?_))
   | exact ih0 _ _ _ _ _ _ _ _ _
   | exact bailiwickref1_Copy.mono _ _
   | exact bailiwickref3_SameDatagram.mono _ _ _ _ _ _ _ _ _
   | exact udp_Build.mono _ _ _ _ _ _ _
   | exact udp_Parse.mono _ _ _ _
   | exact udp_Pseudo.mono _ _ _ _ _
   | exact LeO.none _
   | refine LeO.ite ?_ ?_
   | refine LeO.bind ?_ (fun _ => ?_)
theorem bailiwicklaw3_UdpBack.mono : ∀ a0 a1 a2 a3 a4 a5 a6 a7 k, LeO (bailiwicklaw3_UdpBack.f k a0 a1 a2 a3 a4 a5 a6 a7) (bailiwicklaw3_UdpBack.f (k + 1) a0 a1 a2 a3 a4 a5 a6 a7) := by
 intro a0 a1 a2 a3 a4 a5 a6 a7 k
 have ih0 := bailiwicklaw3_UdpBack.mono_l k
 unfold bailiwicklaw3_UdpBack.f
 repeat' first
   | (with_reducible exact ih0 _ _ _ _ _ _ _ _ _)
   | (with_reducible exact bailiwickref1_Copy.mono _ _)
   | (with_reducible exact bailiwickref3_SameDatagram.mono _ _ _ _ _ _ _ _ _)
   | (with_reducible exact udp_Build.mono _ _ _ _ _ _ _)
   | (with_reducible exact udp_Parse.mono _ _ _ _)
   | (with_reducible exact udp_Pseudo.mono _ _ _ _ _)
   | (with_reducible exact LeO.refl _)
   | (with_reducible exact LeO.none _)
   | (with_reducible refine LeO.ite ?_ ?_)
   | (with_reducible refine LeO.bind ?_ (fun _ => ?_))
   | exact ih0 _ _ _ _ _ _ _ _ _
   | exact bailiwickref1_Copy.mono _ _
   | exact bailiwickref3_SameDatagram.mono _ _ _ _ _ _ _ _ _
   | exact udp_Build.mono _ _ _ _ _ _ _
   | exact udp_Parse.mono _ _ _ _
   | exact udp_Pseudo.mono _ _ _ _ _
   | exact LeO.none _
   | refine LeO.ite ?_ ?_
   | refine LeO.bind ?_ (fun _ => ?_)
def bailiwicklaw3_UdpBack.T8 : Bool × List (List Nat × List Nat) := (true, [([], []), ([0], [0]), ([], []), ([2], [2]), ([], []), ([4], [4]), ([], []), ([5, 6, 5], [5, 6]), ([1, 3, 7, 7], [1, 3, 7]), ([8], [8]), ([9], [9]), ([9], [9]), ([], []), ([12, 10, 8, 0, 1, 2, 3, 4, 5, 6, 7, 8, 9, 10, 12], [10, 12]), ([11, 13, 0, 1, 2, 3, 4, 5, 6, 7, 8, 9, 10, 11, 12, 13], [11])])
def bailiwicklaw3_UdpBack.B8 : List Nat := [0, 1, 0, 4, 0, 16, 0, 112, 255, 511, 1023, 1023, 0, 6143, 16383]
theorem bailiwicklaw3_UdpBack.tab8 : rtab .any (opsOf Try.f16 8) = bailiwicklaw3_UdpBack.T8 := by kernel_rfl
theorem bailiwicklaw3_UdpBack.bits8 : waitsOk bailiwicklaw3_UdpBack.T8.2 bailiwicklaw3_UdpBack.B8 = true := by kernel_rfl
set_option maxHeartbeats 8000000 in
set_option maxRecDepth 100000 in
theorem bailiwicklaw3_UdpBack.calls (k : Nat) (a0_0 : Int) (a0_1 : Int) (a0_2 : Int) (a0_3 : Int) (a0_4 : Bool) (A0_5 : Option Addr) (c0_5 : Nat) (l0_5 : List Int) (A1 : Option Addr) (c1 : Nat) (l1 : List Int) (a2 : Int) (r : Bool) (hT : r = true) (w : World) (hr0_5 : Kd.C (Kd.int .u8) w A0_5 l0_5.length l0_5) (hc0_5 : l0_5.length ≤ c0_5) (hr1 : Kd.C (Kd.int .u8) w A1 l1.length l1) (hc1 : l1.length ≤ c1) (h : bailiwicklaw3_UdpBack.f k a0_0 a0_1 a0_2 a0_3 a0_4 l0_5 l1 a2 = some r) :
  Calls Try.prog 16 #[.agg #[.int .u32 a0_0, .int .u32 a0_1, .int .i64 a0_2, .int .i64 a0_3, .bool a0_4, .slice A0_5 l0_5.length c0_5], .slice A1 l1.length c1, .int .u32 a2] w fun e w' => e = .returned (.bool r) ∧ Below w.heap.size w w' := by
 have hu49 := Try.underlying49
 have hu47 := Try.underlying47
 have HR0_5 := Aside0.mk hr0_5
 have HC0_5 := Aside0.mk hc0_5
 clear hr0_5 hc0_5
 have HR1 := Aside0.mk hr1
 have HC1 := Aside0.mk hc1
 clear hr1 hc1
 have HB := Aside0.mk (Below.refl w.heap.size w)
 have H : ((bailiwicklaw3_awake.f).bind fun t531 => (if t531 = true then (if (l0_5.length : Int) > 5000 then (bailiwicklaw3_UdpBack.j0 k l1 a2 true a0_0 a0_1 a0_2 a0_3 a0_4 l0_5) else (bailiwicklaw3_UdpBack.j0 k l1 a2 (decide ((l1.length : Int) > 5000)) a0_0 a0_1 a0_2 a0_3 a0_4 l0_5)) else (some false))) = some r := h
 clear h
 replace H := Option.bind_eq_some_iff.mp H
 obtain ⟨t531, A40, H⟩ := H
 replace H : (if t531 = true then (if (l0_5.length : Int) > 5000 then (bailiwicklaw3_UdpBack.j0 k l1 a2 true a0_0 a0_1 a0_2 a0_3 a0_4 l0_5) else (bailiwicklaw3_UdpBack.j0 k l1 a2 (decide ((l1.length : Int) > 5000)) a0_0 a0_1 a0_2 a0_3 a0_4 l0_5)) else (some false)) = some r := H
 have A4 := Aside0.mk A40
 clear A40
 by_cases c5 : t531 = true
 ·subst c5
  have H1 : (if (l0_5.length : Int) > 5000 then (bailiwicklaw3_UdpBack.j0 k l1 a2 true a0_0 a0_1 a0_2 a0_3 a0_4 l0_5) else (bailiwicklaw3_UdpBack.j0 k l1 a2 (decide ((l1.length : Int) > 5000)) a0_0 a0_1 a0_2 a0_3 a0_4 l0_5)) = some r := by rw [if_pos rfl] at H; exact H
  clear H
  have H := H1
  clear H1
  have HC6 := Aside0.mk H
  clear H
  go_enter Try.func16, Try.ntmps16
  go_upto_region 3 with (first | ((with_reducible refine gate_dst (N := 3) rfl ?_); (try (refine gate_guard (by rfl) ?_; dsimp only)); refine box_event ?hg (N := 3) ?hd (cs := #[.int .u32 a0_0, .int .u32 a0_1, .int .i64 a0_2, .int .i64 a0_3, .bool a0_4, .slice A0_5 l0_5.length c0_5]) (t := 49) ?hr ?_; (case hd => rfl); (case hg => rfl); (case hr => first | (go_simp; done) | (go_simp; rfl)); intro gb530 hg w7 hbox hb; have n0_ := Aside0.mk (below_step (by repeat (first | (with_reducible first | exact HB.out | apply below_alloc | apply pw_below_drewN | apply below_drew1) | exact HB.out)) hb); have n1_ := Aside0.mk (hbox); have n2_ := Aside0.mk ((by rw [hg]; exact (below_size (by repeat (first | (with_reducible first | exact HB.out | apply below_alloc | apply pw_below_drewN | apply below_drew1) | exact HB.out))) : w.heap.size ≤ gb530)); have n3_ := Aside0.mk ((by rw [hg]; exact (below_size (by repeat (first | (with_reducible first | exact HB.out | apply below_alloc | apply pw_below_drewN | apply below_drew1) | exact HB.out))) : w.heap.size ≤ gb530)); clear HB; have HB := n0_; have BK530 := n1_; have GW530 := n2_; have GE530 := n3_; clear n0_ n1_ n2_ n3_; clear hb hbox hg) | ((with_reducible refine gate_callee (f := 38) rfl ?_); refine goesL_ (some 15) rfl rfl Try.func38 (by kernel_rfl) rfl #[] rfl (by (try simp only [List.map_toArray, List.map_cons, List.map_nil]); first | done | rfl | (simp only [List.length_drop, List.length_take]; rfl)) ?_; (with_reducible refine (bailiwicklaw3_awake.calls  true _ A4.out).mono ?_); rintro e w8 ⟨rfl, hb⟩; refine ⟨_, rfl, ?_⟩; have n0_ := Aside0.mk (blk_below (g := gb530) (o := .cells #[.int .u32 a0_0, .int .u32 a0_1, .int .i64 a0_2, .int .i64 a0_3, .bool a0_4, .slice A0_5 l0_5.length c0_5] 49 (0, 0)) (by (with_reducible repeat (first | refine blk_drewN ?_ _ | refine blk_drew ?_ | refine blk_alloc ?_ _)); exact BK530.out) hb); have n1_ := Aside0.mk (below_step (by repeat (first | (with_reducible first | exact HB.out | apply below_alloc | apply pw_below_drewN | apply below_drew1 | refine below_set ?_ GE530.out) | exact HB.out)) hb); clear BK530; clear HB; have BK530 := n0_; have HB := n1_; clear n0_ n1_; (try clear hb); (try clear hb2); (try clear hk); (try clear hi)))
  (try simp only [Act.put, List.setIfInBounds_toArray, List.set_cons_zero, List.set_cons_succ])
  go_cut [26] (fun v26 wc => ∃ (kq : Nat) (x26_5 : Bool), v26 = .bool x26_5 ∧ Aside0 (bailiwicklaw3_UdpBack.j0 kq l1 a2 x26_5 a0_0 a0_1 a0_2 a0_3 a0_4 l0_5 = some r) ∧ Aside0 (kq ≤ k) ∧ Aside0 (wc.heap[gb530]? = some (.cells #[.int .u32 a0_0, .int .u32 a0_1, .int .i64 a0_2, .int .i64 a0_3, .bool a0_4, (.slice A0_5 l0_5.length c0_5)] 49 (0, 0))) ∧ Aside0 (Below w.heap.size w wc))
  case first =>
   have H := HC6.out
   clear HC6
   by_cases c9 : (l0_5.length : Int) > 5000
   ·rw [if_pos c9] at H
    have c9b0 : decide (5000 < (l0_5.length : Int)) = true := decide_eq_true c9
    have c9b1 : decide (5000 < l0_5.length) = true := decide_eq_true (by omega)
    clear c9
    (first | rw [c9b0] | (simp only [i64_w, i32_w]; rw [c9b0]) | skip)
    have H' := Aside0.mk H
    clear H
    have hcz10_0 : w8.cell? ⟨gb530, 0, none⟩ = some (.int .u32 a0_0) := (blk_cell BK530.out 0).trans rfl
    have hcz10_1 : w8.cell? ⟨gb530, 1, none⟩ = some (.int .u32 a0_1) := (blk_cell BK530.out 1).trans rfl
    have hcz10_2 : w8.cell? ⟨gb530, 2, none⟩ = some (.int .i64 a0_2) := (blk_cell BK530.out 2).trans rfl
    have hcz10_3 : w8.cell? ⟨gb530, 3, none⟩ = some (.int .i64 a0_3) := (blk_cell BK530.out 3).trans rfl
    have hcz10_4 : w8.cell? ⟨gb530, 4, none⟩ = some (.bool a0_4) := (blk_cell BK530.out 4).trans rfl
    have hcz10_5 : w8.cell? ⟨gb530, 5, none⟩ = some (.slice A0_5 l0_5.length c0_5) := (blk_cell BK530.out 5).trans rfl
    have hfz10_0 := blk_frozen BK530.out 0
    have hfz10_1 := blk_frozen BK530.out 1
    have hfz10_2 := blk_frozen BK530.out 2
    have hfz10_3 := blk_frozen BK530.out 3
    have hfz10_4 := blk_frozen BK530.out 4
    have hfz10_5 := blk_frozen BK530.out 5
    go_wp2
    go_meet
    case rel => exact ⟨_, (true), (by first | rfl | (simp; done) | (simp [*]; done)), H', ⟨by first | omega | exact Nat.le_refl _⟩, ⟨by (with_reducible repeat (first | refine blk_drewN ?_ _ | refine blk_drew ?_ | refine blk_alloc ?_ _)); exact BK530.out⟩, ⟨by repeat (first | (with_reducible first | exact HB.out | apply below_alloc | apply pw_below_drewN | apply below_drew1 | refine below_set ?_ GE530.out) | exact HB.out)⟩⟩
   ·rw [if_neg c9] at H
    have c9b0 : decide (5000 < (l0_5.length : Int)) = false := decide_eq_false c9
    have c9b1 : decide (5000 < l0_5.length) = false := decide_eq_false (by omega)
    clear c9
    (first | rw [c9b0] | (simp only [i64_w, i32_w]; rw [c9b0]) | skip)
    have H' := Aside0.mk H
    clear H
    have hcz11_0 : w8.cell? ⟨gb530, 0, none⟩ = some (.int .u32 a0_0) := (blk_cell BK530.out 0).trans rfl
    have hcz11_1 : w8.cell? ⟨gb530, 1, none⟩ = some (.int .u32 a0_1) := (blk_cell BK530.out 1).trans rfl
    have hcz11_2 : w8.cell? ⟨gb530, 2, none⟩ = some (.int .i64 a0_2) := (blk_cell BK530.out 2).trans rfl
    have hcz11_3 : w8.cell? ⟨gb530, 3, none⟩ = some (.int .i64 a0_3) := (blk_cell BK530.out 3).trans rfl
    have hcz11_4 : w8.cell? ⟨gb530, 4, none⟩ = some (.bool a0_4) := (blk_cell BK530.out 4).trans rfl
    have hcz11_5 : w8.cell? ⟨gb530, 5, none⟩ = some (.slice A0_5 l0_5.length c0_5) := (blk_cell BK530.out 5).trans rfl
    have hfz11_0 := blk_frozen BK530.out 0
    have hfz11_1 := blk_frozen BK530.out 1
    have hfz11_2 := blk_frozen BK530.out 2
    have hfz11_3 := blk_frozen BK530.out 3
    have hfz11_4 := blk_frozen BK530.out 4
    have hfz11_5 := blk_frozen BK530.out 5
    go_wp2
    go_meet
    case rel => exact ⟨_, (decide ((l1.length : Int) > 5000)), (by first | rfl | (simp; done) | (simp [*]; done)), H', ⟨by first | omega | exact Nat.le_refl _⟩, ⟨by (with_reducible repeat (first | refine blk_drewN ?_ _ | refine blk_drew ?_ | refine blk_alloc ?_ _)); exact BK530.out⟩, ⟨by repeat (first | (with_reducible first | exact HB.out | apply below_alloc | apply pw_below_drewN | apply below_drew1 | refine below_set ?_ GE530.out) | exact HB.out)⟩⟩
  case rest =>
   clear HC6
   try clear c1
   try clear p2
   try clear c3
   try clear c5
   try clear c9
   try clear c9b0
   try clear c9b1
   try clear hcz10_0
   try clear hcz10_1
   try clear hcz10_2
   try clear hcz10_3
   try clear hcz10_4
   try clear hcz10_5
   try clear hcz11_0
   try clear hcz11_1
   try clear hcz11_2
   try clear hcz11_3
   try clear hcz11_4
   try clear hcz11_5
   try clear hfz10_0
   try clear hfz10_1
   try clear hfz10_2
   try clear hfz10_3
   try clear hfz10_4
   try clear hfz10_5
   try clear hfz11_0
   try clear hfz11_1
   try clear hfz11_2
   try clear hfz11_3
   try clear hfz11_4
   try clear hfz11_5
   obtain ⟨kq, x26_5, rfl, HA, HJ5, BK530, HB⟩ := hcut
   cases kq with
   | zero => exact absurd HA.out (by simp [bailiwicklaw3_UdpBack.j0])
   | succ kj5 =>
    have H := HA.out
    clear HA
    simp only [bailiwicklaw3_UdpBack.j0] at H
    by_cases c12 : x26_5 = true
    ·subst c12
     have H1 : (some true) = some r := by rw [if_pos rfl] at H; exact H
     clear H
     have H := H1
     clear H1
     obtain rfl := Option.some.inj H
     go_wp2
     go_ret
     exact ⟨by first | rfl | (simp [errW_none, errW_some] <;> rfl) | (simp [*, errW_none, errW_some] <;> rfl), by repeat (first | (with_reducible first | exact HB.out | apply below_alloc | apply pw_below_drewN | apply below_drew1 | refine below_set ?_ GE530.out) | exact HB.out)⟩
    ·replace c12 := Bool.eq_false_iff.mpr c12
     subst c12
     have H1 : ((udp_Build.f kj5 a0_0 a0_1 a0_2 a0_3 a0_4 l0_5).bind fun bt532 => (if bt532.2 = 0 then ((bailiwickref1_Copy.f kj5 bt532.1).bind fun t536 => (if t536.length + l1.length < 140737488355328 then ((udp_Parse.f kj5 a0_0 a0_1 (t536 ++ l1)).bind fun bt542 => ((udp_Parse.f kj5 a0_0 a2 bt532.1).bind fun bt550 => ((udp_Pseudo.f kj5 a0_0 a0_1 17 (bt532.1.length : Int)).bind fun t558 => ((octet_Sum.f (([t558] : List (List Int)))).bind fun t565 => ((udp_Pseudo.f kj5 a0_0 a2 17 (bt532.1.length : Int)).bind fun t566 => ((octet_Sum.f (([t566] : List (List Int)))).bind fun t573 => (if bt542.2.2.2.2 = 0 then ((bailiwickref3_SameDatagram.f kj5 bt542.1 bt542.2.1 bt542.2.2.1 bt542.2.2.2.1 a0_2 a0_3 a0_4 l0_5).bind fun t574 => (if t574 = true then (if a0_4 = true then (some ((bt550.2.2.2.2 == 0) == true)) else (some ((bt550.2.2.2.2 == 0) == (t565 == t573)))) else (some false))) else (some false)))))))) else (none))) else (some true))) = some r := by rw [if_neg (show ¬ (false = true) by decide)] at H; exact H
     clear H
     have H := H1
     clear H1
     replace H := Option.bind_eq_some_iff.mp H
     obtain ⟨⟨t532, t535⟩, A130, H⟩ := H
     replace H : (if t535 = 0 then ((bailiwickref1_Copy.f kj5 t532).bind fun t536 => (if t536.length + l1.length < 140737488355328 then ((udp_Parse.f kj5 a0_0 a0_1 (t536 ++ l1)).bind fun bt542 => ((udp_Parse.f kj5 a0_0 a2 t532).bind fun bt550 => ((udp_Pseudo.f kj5 a0_0 a0_1 17 (t532.length : Int)).bind fun t558 => ((octet_Sum.f (([t558] : List (List Int)))).bind fun t565 => ((udp_Pseudo.f kj5 a0_0 a2 17 (t532.length : Int)).bind fun t566 => ((octet_Sum.f (([t566] : List (List Int)))).bind fun t573 => (if bt542.2.2.2.2 = 0 then ((bailiwickref3_SameDatagram.f kj5 bt542.1 bt542.2.1 bt542.2.2.1 bt542.2.2.2.1 a0_2 a0_3 a0_4 l0_5).bind fun t574 => (if t574 = true then (if a0_4 = true then (some ((bt550.2.2.2.2 == 0) == true)) else (some ((bt550.2.2.2.2 == 0) == (t565 == t573)))) else (some false))) else (some false)))))))) else (none))) else (some true)) = some r := H
     have A13 := Aside0.mk A130
     clear A130
     by_cases c14 : t535 = 0
     ·rw [if_pos c14] at H
      have c14b0 : (t535 == 0) = true := beq_iff_eq.mpr c14
      have c14b1 : (t535 != 0) = false := bne_eq_false_iff_eq.mpr c14
      clear c14
      replace H := Option.bind_eq_some_iff.mp H
      obtain ⟨t536, A150, H⟩ := H
      replace H : (if t536.length + l1.length < 140737488355328 then ((udp_Parse.f kj5 a0_0 a0_1 (t536 ++ l1)).bind fun bt542 => ((udp_Parse.f kj5 a0_0 a2 t532).bind fun bt550 => ((udp_Pseudo.f kj5 a0_0 a0_1 17 (t532.length : Int)).bind fun t558 => ((octet_Sum.f (([t558] : List (List Int)))).bind fun t565 => ((udp_Pseudo.f kj5 a0_0 a2 17 (t532.length : Int)).bind fun t566 => ((octet_Sum.f (([t566] : List (List Int)))).bind fun t573 => (if bt542.2.2.2.2 = 0 then ((bailiwickref3_SameDatagram.f kj5 bt542.1 bt542.2.1 bt542.2.2.1 bt542.2.2.2.1 a0_2 a0_3 a0_4 l0_5).bind fun t574 => (if t574 = true then (if a0_4 = true then (some ((bt550.2.2.2.2 == 0) == true)) else (some ((bt550.2.2.2.2 == 0) == (t565 == t573)))) else (some false))) else (some false)))))))) else (none)) = some r := H
      have A15 := Aside0.mk A150
      clear A150
      by_cases c16 : t536.length + l1.length < 140737488355328
      ·rw [if_pos c16] at H
       have LMc16 := Aside0.mk c16
       clear c16
       obtain ⟨y539, hy539⟩ : ∃ y_ : List Int, y_ = (t536 ++ l1) := ⟨_, rfl⟩
       replace H : ((udp_Parse.f kj5 a0_0 a0_1 y539).bind fun bt542 => ((udp_Parse.f kj5 a0_0 a2 t532).bind fun bt550 => ((udp_Pseudo.f kj5 a0_0 a0_1 17 (t532.length : Int)).bind fun t558 => ((octet_Sum.f (([t558] : List (List Int)))).bind fun t565 => ((udp_Pseudo.f kj5 a0_0 a2 17 (t532.length : Int)).bind fun t566 => ((octet_Sum.f (([t566] : List (List Int)))).bind fun t573 => (if bt542.2.2.2.2 = 0 then ((bailiwickref3_SameDatagram.f kj5 bt542.1 bt542.2.1 bt542.2.2.1 bt542.2.2.2.1 a0_2 a0_3 a0_4 l0_5).bind fun t574 => (if t574 = true then (if a0_4 = true then (some ((bt550.2.2.2.2 == 0) == true)) else (some ((bt550.2.2.2.2 == 0) == (t565 == t573)))) else (some false))) else (some false)))))))) = some r := by first | (rw [hy539]; with_reducible exact H) | (have H2_ := (Option.bind_some _ _).symm.trans H; rw [hy539]; with_reducible exact H2_) | (have H2_ := (Option.bind_some _ _).symm.trans H; with_reducible exact H2_) | with_reducible exact H | (rw [hy539]; exact H) | exact H
       have Ny539 := Aside0.mk hy539
       clear hy539
       replace H := Option.bind_eq_some_iff.mp H
       obtain ⟨⟨t542, t543, t544, t545, t548⟩, A170, H⟩ := H
       replace H : ((udp_Parse.f kj5 a0_0 a2 t532).bind fun bt550 => ((udp_Pseudo.f kj5 a0_0 a0_1 17 (t532.length : Int)).bind fun t558 => ((octet_Sum.f (([t558] : List (List Int)))).bind fun t565 => ((udp_Pseudo.f kj5 a0_0 a2 17 (t532.length : Int)).bind fun t566 => ((octet_Sum.f (([t566] : List (List Int)))).bind fun t573 => (if t548 = 0 then ((bailiwickref3_SameDatagram.f kj5 t542 t543 t544 t545 a0_2 a0_3 a0_4 l0_5).bind fun t574 => (if t574 = true then (if a0_4 = true then (some ((bt550.2.2.2.2 == 0) == true)) else (some ((bt550.2.2.2.2 == 0) == (t565 == t573)))) else (some false))) else (some false))))))) = some r := H
       have A17 := Aside0.mk A170
       clear A170
       replace H := Option.bind_eq_some_iff.mp H
       obtain ⟨⟨t550, t551, t552, t553, t556⟩, A180, H⟩ := H
       replace H : ((udp_Pseudo.f kj5 a0_0 a0_1 17 (t532.length : Int)).bind fun t558 => ((octet_Sum.f (([t558] : List (List Int)))).bind fun t565 => ((udp_Pseudo.f kj5 a0_0 a2 17 (t532.length : Int)).bind fun t566 => ((octet_Sum.f (([t566] : List (List Int)))).bind fun t573 => (if t548 = 0 then ((bailiwickref3_SameDatagram.f kj5 t542 t543 t544 t545 a0_2 a0_3 a0_4 l0_5).bind fun t574 => (if t574 = true then (if a0_4 = true then (some ((t556 == 0) == true)) else (some ((t556 == 0) == (t565 == t573)))) else (some false))) else (some false)))))) = some r := H
       have A18 := Aside0.mk A180
       clear A180
       replace H := Option.bind_eq_some_iff.mp H
       obtain ⟨t558, A190, H⟩ := H
       replace H : ((octet_Sum.f (([t558] : List (List Int)))).bind fun t565 => ((udp_Pseudo.f kj5 a0_0 a2 17 (t532.length : Int)).bind fun t566 => ((octet_Sum.f (([t566] : List (List Int)))).bind fun t573 => (if t548 = 0 then ((bailiwickref3_SameDatagram.f kj5 t542 t543 t544 t545 a0_2 a0_3 a0_4 l0_5).bind fun t574 => (if t574 = true then (if a0_4 = true then (some ((t556 == 0) == true)) else (some ((t556 == 0) == (t565 == t573)))) else (some false))) else (some false))))) = some r := H
       have A19 := Aside0.mk A190
       clear A190
       obtain ⟨y561, hy561⟩ : ∃ y_ : List (List Int), y_ = (([t558] : List (List Int))) := ⟨_, rfl⟩
       replace H : ((octet_Sum.f y561).bind fun t565 => ((udp_Pseudo.f kj5 a0_0 a2 17 (t532.length : Int)).bind fun t566 => ((octet_Sum.f (([t566] : List (List Int)))).bind fun t573 => (if t548 = 0 then ((bailiwickref3_SameDatagram.f kj5 t542 t543 t544 t545 a0_2 a0_3 a0_4 l0_5).bind fun t574 => (if t574 = true then (if a0_4 = true then (some ((t556 == 0) == true)) else (some ((t556 == 0) == (t565 == t573)))) else (some false))) else (some false))))) = some r := by first | (rw [hy561]; with_reducible exact H) | (have H2_ := (Option.bind_some _ _).symm.trans H; rw [hy561]; with_reducible exact H2_) | (have H2_ := (Option.bind_some _ _).symm.trans H; with_reducible exact H2_) | with_reducible exact H | (rw [hy561]; exact H) | exact H
       have Ny561 := Aside0.mk hy561
       clear hy561
       replace H := Option.bind_eq_some_iff.mp H
       obtain ⟨t565, A200, H⟩ := H
       replace H : ((udp_Pseudo.f kj5 a0_0 a2 17 (t532.length : Int)).bind fun t566 => ((octet_Sum.f (([t566] : List (List Int)))).bind fun t573 => (if t548 = 0 then ((bailiwickref3_SameDatagram.f kj5 t542 t543 t544 t545 a0_2 a0_3 a0_4 l0_5).bind fun t574 => (if t574 = true then (if a0_4 = true then (some ((t556 == 0) == true)) else (some ((t556 == 0) == (t565 == t573)))) else (some false))) else (some false)))) = some r := H
       have A20 := Aside0.mk A200
       clear A200
       replace H := Option.bind_eq_some_iff.mp H
       obtain ⟨t566, A210, H⟩ := H
       replace H : ((octet_Sum.f (([t566] : List (List Int)))).bind fun t573 => (if t548 = 0 then ((bailiwickref3_SameDatagram.f kj5 t542 t543 t544 t545 a0_2 a0_3 a0_4 l0_5).bind fun t574 => (if t574 = true then (if a0_4 = true then (some ((t556 == 0) == true)) else (some ((t556 == 0) == (t565 == t573)))) else (some false))) else (some false))) = some r := H
       have A21 := Aside0.mk A210
       clear A210
       obtain ⟨y569, hy569⟩ : ∃ y_ : List (List Int), y_ = (([t566] : List (List Int))) := ⟨_, rfl⟩
       replace H : ((octet_Sum.f y569).bind fun t573 => (if t548 = 0 then ((bailiwickref3_SameDatagram.f kj5 t542 t543 t544 t545 a0_2 a0_3 a0_4 l0_5).bind fun t574 => (if t574 = true then (if a0_4 = true then (some ((t556 == 0) == true)) else (some ((t556 == 0) == (t565 == t573)))) else (some false))) else (some false))) = some r := by first | (rw [hy569]; with_reducible exact H) | (have H2_ := (Option.bind_some _ _).symm.trans H; rw [hy569]; with_reducible exact H2_) | (have H2_ := (Option.bind_some _ _).symm.trans H; with_reducible exact H2_) | with_reducible exact H | (rw [hy569]; exact H) | exact H
       have Ny569 := Aside0.mk hy569
       clear hy569
       replace H := Option.bind_eq_some_iff.mp H
       obtain ⟨t573, A220, H⟩ := H
       replace H : (if t548 = 0 then ((bailiwickref3_SameDatagram.f kj5 t542 t543 t544 t545 a0_2 a0_3 a0_4 l0_5).bind fun t574 => (if t574 = true then (if a0_4 = true then (some ((t556 == 0) == true)) else (some ((t556 == 0) == (t565 == t573)))) else (some false))) else (some false)) = some r := H
       have A22 := Aside0.mk A220
       clear A220
       by_cases c23 : t548 = 0
       ·rw [if_pos c23] at H
        have c23b0 : (t548 == 0) = true := beq_iff_eq.mpr c23
        have c23b1 : (t548 != 0) = false := bne_eq_false_iff_eq.mpr c23
        clear c23
        replace H := Option.bind_eq_some_iff.mp H
        obtain ⟨t574, A240, H⟩ := H
        replace H : (if t574 = true then (if a0_4 = true then (some ((t556 == 0) == true)) else (some ((t556 == 0) == (t565 == t573)))) else (some false)) = some r := H
        have A24 := Aside0.mk A240
        clear A240
        by_cases c25 : t574 = true
        ·subst c25
         have H1 : (if a0_4 = true then (some ((t556 == 0) == true)) else (some ((t556 == 0) == (t565 == t573)))) = some r := by rw [if_pos rfl] at H; exact H
         clear H
         have H := H1
         clear H1
         by_cases c26 : a0_4 = true
         ·subst c26
          have H1 : (some ((t556 == 0) == true)) = some r := by rw [if_pos rfl] at H; exact H
          clear H
          have H := H1
          clear H1
          obtain rfl := Option.some.inj H
          have hcz27_0 : wc.cell? ⟨gb530, 0, none⟩ = some (.int .u32 a0_0) := (blk_cell BK530.out 0).trans rfl
          have hcz27_1 : wc.cell? ⟨gb530, 1, none⟩ = some (.int .u32 a0_1) := (blk_cell BK530.out 1).trans rfl
          have hcz27_2 : wc.cell? ⟨gb530, 2, none⟩ = some (.int .i64 a0_2) := (blk_cell BK530.out 2).trans rfl
          have hcz27_3 : wc.cell? ⟨gb530, 3, none⟩ = some (.int .i64 a0_3) := (blk_cell BK530.out 3).trans rfl
          have hcz27_4 : wc.cell? ⟨gb530, 4, none⟩ = some (.bool true) := (blk_cell BK530.out 4).trans rfl
          have hcz27_5 : wc.cell? ⟨gb530, 5, none⟩ = some (.slice A0_5 l0_5.length c0_5) := (blk_cell BK530.out 5).trans rfl
          have hfz27_0 := blk_frozen BK530.out 0
          have hfz27_1 := blk_frozen BK530.out 1
          have hfz27_2 := blk_frozen BK530.out 2
          have hfz27_3 := blk_frozen BK530.out 3
          have hfz27_4 := blk_frozen BK530.out 4
          have hfz27_5 := blk_frozen BK530.out 5
          try go_wp2_with (first | ((with_reducible refine gate_callee (f := 39) rfl ?_); refine goesL_ (some 34) rfl rfl Try.func39 (by kernel_rfl) rfl #[.int .u32 a0_0, .int .u32 a0_1, .agg #[.int .i64 a0_2, .int .i64 a0_3, .bool true, .slice A0_5 l0_5.length c0_5]] rfl (by (try simp only [List.map_toArray, List.map_cons, List.map_nil]); first | done | rfl | (simp only [List.length_drop, List.length_take]; rfl)) ?_; (with_reducible refine (udp_Build.calls kj5 a0_0 a0_1 a0_2 a0_3 true _ _ l0_5 t532 t535 _ ?side1 ?side2 A13.out).mono ?_); (case side1 => repeat (first | exact (Kd.C_below HR0_5.out HB.out) | (with_reducible refine Kd.C_alloc ?_ _) | (with_reducible refine Kd.C_drewN ?_ _) | (with_reducible refine Kd.C_drew ?_))); (case side2 => exact HC0_5.out); rintro e w28 ⟨v533, rfl, ho0, hb⟩; refine ⟨_, rfl, ?_⟩; have n0_ := Aside0.mk (Kd.R_lower ho0 (below_size (by repeat (first | (with_reducible first | exact HB.out | apply below_alloc | apply pw_below_drewN | apply below_drew1 | refine below_set ?_ GE530.out) | exact HB.out)))); have n1_ := Aside0.mk (blk_below (g := gb530) (o := .cells #[.int .u32 a0_0, .int .u32 a0_1, .int .i64 a0_2, .int .i64 a0_3, .bool true, .slice A0_5 l0_5.length c0_5] 49 (0, 0)) (by (with_reducible repeat (first | refine blk_drewN ?_ _ | refine blk_drew ?_ | refine blk_alloc ?_ _)); exact BK530.out) hb); have n2_ := Aside0.mk (below_step (by repeat (first | (with_reducible first | exact HB.out | apply below_alloc | apply pw_below_drewN | apply below_drew1 | refine below_set ?_ GE530.out) | exact HB.out)) hb); clear BK530; clear HB; have HO534 := n0_; have BK530 := n1_; have HB := n2_; clear n0_ n1_ n2_; (try clear hb); (try clear hb2); (try clear hk); (try clear hi); (try clear ho0); obtain ⟨Ao29, co29, eo29⟩ := Kd.R_slice HO534.out; subst eo29))
          have n0_ := Aside0.mk (Kd.R_drew HO534.out)
          have n1_ := Aside0.mk (blk_drew BK530.out)
          have n2_ := Aside0.mk (below_drew1 HB.out)
          clear HO534
          clear BK530
          clear HB
          have HO534 := n0_
          have BK530 := n1_
          have HB := n2_
          clear n0_ n1_ n2_
          refine start_ (n := 15) (S := fun w' => w'.cell? ⟨gb530, 0, none⟩ = some (.int .u32 a0_0) ∧ w'.cell? ⟨gb530, 1, none⟩ = some (.int .u32 a0_1) ∧ w'.cell? ⟨gb530, 2, none⟩ = some (.int .i64 a0_2) ∧ w'.cell? ⟨gb530, 3, none⟩ = some (.int .i64 a0_3) ∧ w'.cell? ⟨gb530, 4, none⟩ = some (.bool true) ∧ w'.cell? ⟨gb530, 5, none⟩ = some (.slice A0_5 l0_5.length c0_5)) (ds := []) #[false, false, false, false, false, false, false, false, false, false, false, false, false, false, false] (by kernel_rfl) rfl rfl ⟨(blk_cell BK530.out 0).trans rfl, (blk_cell BK530.out 1).trans rfl, (blk_cell BK530.out 2).trans rfl, (blk_cell BK530.out 3).trans rfl, (blk_cell BK530.out 4).trans rfl, (blk_cell BK530.out 5).trans rfl⟩ (fun hHeld => ?_); refine with_tabW bailiwicklaw3_UdpBack.tab8 bailiwicklaw3_UdpBack.bits8 (fun HT_ HW_ => ?_)
          generalize w28.drew = w30 at HO534 BK530 HB hHeld ⊢
          refine pure_ (i := 0) (N := some 40) (v := ?_) (a' := ?_) #[true, false, false, false, false, false, false, false, false, false, false, false, false, false, false] rfl rfl (any_of HT_.out (by kernel_rfl)) (fun _ _ _ h => h) (Or.inl ⟨by rfl, ?_⟩) ?_ ?_
          rotate_left
          ·intro w'
           go_simp
           with_reducible rfl
          rotate_left
          ·simp only [Act.put, List.setIfInBounds_toArray, List.set_cons_zero, List.set_cons_succ, i64_w, i32_w]
           rfl
          refine pure_ (i := 2) (N := some 42) (v := ?_) (a' := ?_) #[true, false, true, false, false, false, false, false, false, false, false, false, false, false, false] rfl rfl (any_of HT_.out (by kernel_rfl)) (fun _ _ _ h => h) (Or.inl ⟨by rfl, ?_⟩) ?_ ?_
          rotate_left
          ·intro w'
           go_simp
           with_reducible rfl
          rotate_left
          ·simp only [Act.put, List.setIfInBounds_toArray, List.set_cons_zero, List.set_cons_succ, i64_w, i32_w]
           rfl
          refine pure_ (i := 4) (N := some 44) (v := ?_) (a' := ?_) #[true, false, true, false, true, false, false, false, false, false, false, false, false, false, false] rfl rfl (any_of HT_.out (by kernel_rfl)) (fun _ _ _ h => h) (Or.inl ⟨by rfl, ?_⟩) ?_ ?_
          rotate_left
          ·intro w'
           go_simp
           with_reducible rfl
          rotate_left
          ·simp only [Act.put, List.setIfInBounds_toArray, List.set_cons_zero, List.set_cons_succ, i64_w, i32_w]
           rfl
          refine pure_ (i := 6) (N := some 46) (v := ?_) (a' := ?_) #[true, false, true, false, true, false, true, false, false, false, false, false, false, false, false] rfl rfl (any_of HT_.out (by kernel_rfl)) (fun _ _ _ h => h) (Or.inl ⟨by rfl, ?_⟩) ?_ ?_
          rotate_left
          ·intro w'
           go_simp
           with_reducible rfl
          rotate_left
          ·simp only [Act.put, List.setIfInBounds_toArray, List.set_cons_zero, List.set_cons_succ, i64_w, i32_w]
           rfl
          refine take_ (i := 1) (N := some 41) (v := ?_) (a' := ?_) #[true, true, true, false, true, false, true, false, false, false, false, false, false, false, false] rfl rfl (take_ofW HT_.out HW_.out (by kernel_rfl)) (fun _ _ _ h => h) (Or.inl ⟨by rfl, ?_⟩) hHeld ?_ ?_
          rotate_left
          ·rintro w' ⟨s0, s1, s2, s3, s4, s5⟩
           go_simp
           with_reducible rfl
          rotate_left
          ·simp only [Act.put, List.setIfInBounds_toArray, List.set_cons_zero, List.set_cons_succ, i64_w, i32_w]
           rfl
          refine take_ (i := 3) (N := some 43) (v := ?_) (a' := ?_) #[true, true, true, true, true, false, true, false, false, false, false, false, false, false, false] rfl rfl (take_ofW HT_.out HW_.out (by kernel_rfl)) (fun _ _ _ h => h) (Or.inl ⟨by rfl, ?_⟩) hHeld ?_ ?_
          rotate_left
          ·rintro w' ⟨s0, s1, s2, s3, s4, s5⟩
           go_simp
           with_reducible rfl
          rotate_left
          ·simp only [Act.put, List.setIfInBounds_toArray, List.set_cons_zero, List.set_cons_succ, i64_w, i32_w]
           rfl
          refine join_ (σ := Value × Value × Value × Nat) 2 #[true, true, true, true, true, true, true, true, true, true, true, true, true, false, false] (fun s_ => [(45, s_.1), (47, s_.2.1), (48, .tuple #[.agg #[.int .i64 t542, .int .i64 t543, .bool t544, s_.2.2.1], .int .i64 t548]), (9, .pointer (some ⟨s_.2.2.2, 0, none⟩)), (39, .tuple #[.agg #[.int .i64 t542, .int .i64 t543, .bool t544, s_.2.2.1], .int .i64 t548]), (49, .agg #[.int .i64 t542, .int .i64 t543, .bool t544, s_.2.2.1]), (50, .int .i64 t548)]) (fun s_ w' => (w'.cell? ⟨gb530, 0, none⟩ = some (.int .u32 a0_0) ∧ w'.cell? ⟨gb530, 1, none⟩ = some (.int .u32 a0_1) ∧ w'.cell? ⟨gb530, 2, none⟩ = some (.int .i64 a0_2) ∧ w'.cell? ⟨gb530, 3, none⟩ = some (.int .i64 a0_3) ∧ w'.cell? ⟨gb530, 4, none⟩ = some (.bool true) ∧ w'.cell? ⟨gb530, 5, none⟩ = some (.slice A0_5 l0_5.length c0_5)) ∧ (Kd.R (Kd.int .u8) 5 w' w.heap.size (fun k_ => some k_ ≠ (s_.2.1 : Value).ownBlock ∧ some k_ ≠ (s_.2.2.1 : Value).ownBlock) (.slice Ao29 t532.length co29) t532) ∧ (Kd.R (Kd.int .u8) 5 w' w.heap.size (fun k_ => some k_ ≠ (.slice Ao29 t532.length co29 : Value).ownBlock ∧ some k_ ≠ (s_.2.2.1 : Value).ownBlock) s_.2.1 y539) ∧ (Kd.R (Kd.int .u8) 5 w' w.heap.size (fun k_ => some k_ ≠ (.slice Ao29 t532.length co29 : Value).ownBlock ∧ some k_ ≠ (s_.2.1 : Value).ownBlock) s_.2.2.1 t545) ∧ (w'.heap[gb530]? = some (.cells #[.int .u32 a0_0, .int .u32 a0_1, .int .i64 a0_2, .int .i64 a0_3, .bool true, .slice A0_5 l0_5.length c0_5] 49 (0, 0))) ∧ (w'.heap[s_.2.2.2]? = some (.cells #[.int .i64 0, .int .i64 0, .bool false, .slice none 0 0] 47 (0, 0))) ∧ (w.heap.size ≤ s_.2.2.2) ∧ (w.heap.size ≤ s_.2.2.2) ∧ (gb530 ≠ s_.2.2.2) ∧ (s_.2.2.2 ≠ gb530) ∧ (Below w.heap.size w w')) ?_ ?_
          rotate_left
          ·intro hCont
           refine two_ (i := 5) (j := 12) (Ni := some 45) (Nj := some 9) #[true, true, true, true, true, true, true, false, false, false, false, false, false, false, false] #[true, true, true, true, true, false, true, false, false, false, false, false, true, false, false] rfl rfl rfl rfl (two_of HT_.out (by kernel_rfl)) (by decide) (by decide) (fun K hK => ?_) (fun K hK => ?_)
           ·skip
            refine goes_ Try.func25 (by kernel_rfl) rfl #[.slice Ao29 t532.length co29] (by rfl) rfl rfl (by (try simp only [List.map_toArray, List.map_cons, List.map_nil]); first | done | rfl | (simp only [List.length_drop, List.length_take]; rfl)) ?_
            with_reducible refine (bailiwickref1_Copy.calls kj5 _ _ t532 t536 _ ?side1 ?side2 A15.out).mono ?_
            (case side1 => repeat (first | exact (Kd.R_reads' HO534.out).2.2 | (with_reducible refine Kd.C_alloc ?_ _) | (with_reducible refine Kd.C_drewN ?_ _) | (with_reducible refine Kd.C_drew ?_)))
            (case side2 => exact (Kd.R_reads' HO534.out).2.1)
            rintro e w31 ⟨v537, rfl, ho0, hb⟩
            refine ⟨_, rfl, ?_⟩
            have n0_ := Aside0.mk (Kd.R_elder' (by (with_reducible repeat (first | apply Kd.R_alloc | apply Kd.R_drewN | apply Kd.R_drew)); exact HO534.out) (Kd.R_base ho0) hb)
            have n1_ := Aside0.mk (Kd.R_lower (Kd.R_new' ho0 (Kd.R_lt (by (with_reducible repeat (first | apply Kd.R_alloc | apply Kd.R_drewN | apply Kd.R_drew)); exact HO534.out))) (below_size (by repeat (first | (with_reducible first | exact HB.out | apply below_alloc | apply pw_below_drewN | apply below_drew1 | refine below_set ?_ GE530.out) | exact HB.out))))
            have n2_ := Aside0.mk (blk_below (g := gb530) (o := .cells #[.int .u32 a0_0, .int .u32 a0_1, .int .i64 a0_2, .int .i64 a0_3, .bool true, .slice A0_5 l0_5.length c0_5] 49 (0, 0)) (by (with_reducible repeat (first | refine blk_drewN ?_ _ | refine blk_drew ?_ | refine blk_alloc ?_ _)); exact BK530.out) hb)
            have n3_ := Aside0.mk (below_step (by repeat (first | (with_reducible first | exact HB.out | apply below_alloc | apply pw_below_drewN | apply below_drew1 | refine below_set ?_ GE530.out) | exact HB.out)) hb)
            clear HO534
            clear BK530
            clear HB
            have HO534 := n0_
            have HO538 := n1_
            have BK530 := n2_
            have HB := n3_
            clear n0_ n1_ n2_ n3_
            (try clear hb)
            (try clear hb2)
            (try clear hk)
            (try clear hi)
            (try clear ho0)
            refine hK.out _ _ ⟨(blk_cell BK530.out 0).trans rfl, (blk_cell BK530.out 1).trans rfl, (blk_cell BK530.out 2).trans rfl, (blk_cell BK530.out 3).trans rfl, (blk_cell BK530.out 4).trans rfl, (blk_cell BK530.out 5).trans rfl⟩ (fun hHeld => ?_)
            clear hK K
            refine norm_ (a' := ?_) ?_ ?_
            rotate_left
            ·show Act.put _ (some 45) _ = _
             simp only [Act.put, List.setIfInBounds_toArray, List.set_cons_zero, List.set_cons_succ, i64_w, i32_w]
             rfl
            refine two_ (i := 7) (j := 12) (Ni := some 47) (Nj := some 9) #[true, true, true, true, true, true, true, true, false, false, false, false, false, false, false] #[true, true, true, true, true, true, true, false, false, false, false, false, true, false, false] rfl rfl rfl rfl (two_of HT_.out (by kernel_rfl)) (by decide) (by decide) (fun K hK => ?_) (fun K hK => ?_)
            ·skip
             refine Kd.R_append_rows_step (Kd.int .u8) (w0 := w) w.heap.size (by rfl) (.tmp 45) (.tmp 46) 22 5 (.int .u8 0) 1 rfl Try.underlying22 info5 rfl (by decide) (by omega) v537 t536 l1 _ _ _ (fun k_ => some k_ ≠ (.slice Ao29 t532.length co29 : Value).ownBlock) (fun _ => False) rfl rfl ?aO ?aR (fun _ _ h => h) (fun _ h => h.elim) ?aF ?aB ?aS ?aL ?_
             (case aR => repeat (first | exact (Kd.C_below HR1.out HB.out) | (with_reducible refine Kd.C_alloc ?_ _) | (with_reducible refine Kd.C_drewN ?_ _) | (with_reducible refine Kd.C_drew ?_)))
             (case aB => exact (by repeat (first | (with_reducible first | exact HB.out | apply below_alloc | apply pw_below_drewN | apply below_drew1 | refine below_set ?_ GE530.out) | exact HB.out)))
             (case aF => exact (fun k_ hk => Kd.fresh' (Kd.R_lt (by (with_reducible repeat (first | apply Kd.R_alloc | apply Kd.R_drewN | apply Kd.R_drew)); exact HO534.out)) k_ hk))
             (case aO => exact (by (with_reducible repeat (first | apply Kd.R_alloc | apply Kd.R_drewN | apply Kd.R_drew)); exact Kd.R_mono HO538.out (fun _ hk => hk.2)))
             (case aS => exact (below_size (by repeat (first | (with_reducible first | exact HB.out | apply below_alloc | apply pw_below_drewN | apply below_drew1 | refine below_set ?_ GE530.out) | exact HB.out))))
             (case aL => have := LMc16.out; omega)
             intro v540 w32 ho hb hg hat
             rw [← Ny539.out] at ho
             have n0_ := Aside0.mk (blk_grown (g := gb530) (o := .cells #[.int .u32 a0_0, .int .u32 a0_1, .int .i64 a0_2, .int .i64 a0_3, .bool true, .slice A0_5 l0_5.length c0_5] 49 (0, 0)) (by (with_reducible repeat (first | refine blk_drewN ?_ _ | refine blk_drew ?_ | refine blk_alloc ?_ _)); exact BK530.out) hg (Kd.R_ne HO538.out BK530.out (by decide)))
             have n1_ := Aside0.mk (Kd.R_after (ok := (fun _ => True)) (by (with_reducible repeat (first | apply Kd.R_alloc | apply Kd.R_drewN | apply Kd.R_drew)); exact HO534.out) hg hat)
             have n2_ := Aside0.mk (hb)
             have n3_ := Aside0.mk (ho)
             clear BK530
             clear HO534
             clear HB
             clear HO538
             have BK530 := n0_
             have HO534 := n1_
             have HB := n2_
             have HO541 := n3_
             clear n0_ n1_ n2_ n3_
             clear ho hb hg hat
             obtain ⟨Ao33, co33, eo33⟩ := Kd.R_slice HO541.out
             (first | subst eo33 | (injection eo33 with f1_ f2_ f3_; have f4_ := f1_.symm; have f5_ := f3_.symm; clear f1_ f2_ f3_; subst f4_; subst f5_))
             refine hK.out _ _ ⟨(blk_cell BK530.out 0).trans rfl, (blk_cell BK530.out 1).trans rfl, (blk_cell BK530.out 2).trans rfl, (blk_cell BK530.out 3).trans rfl, (blk_cell BK530.out 4).trans rfl, (blk_cell BK530.out 5).trans rfl⟩ (fun hHeld => ?_)
             clear hK K
             refine norm_ (a' := ?_) ?_ ?_
             rotate_left
             ·show Act.put _ (some 47) _ = _
              simp only [Act.put, List.setIfInBounds_toArray, List.set_cons_zero, List.set_cons_succ, i64_w, i32_w]
              rfl
             refine two_ (i := 8) (j := 12) (Ni := some 48) (Nj := some 9) #[true, true, true, true, true, true, true, true, true, false, false, false, false, false, false] #[true, true, true, true, true, true, true, true, false, false, false, false, true, false, false] rfl rfl rfl rfl (two_of HT_.out (by kernel_rfl)) (by decide) (by decide) (fun K hK => ?_) (fun K hK => ?_)
             ·skip
              refine goes_ Try.func43 (by kernel_rfl) rfl #[.int .u32 a0_0, .int .u32 a0_1, .slice Ao33 y539.length co33] (by rfl) rfl rfl (by (try simp only [List.map_toArray, List.map_cons, List.map_nil]); first | done | rfl | (simp only [List.length_drop, List.length_take]; rfl)) ?_
              with_reducible refine (udp_Parse.calls kj5 a0_0 a0_1 _ _ y539 t542 t543 t544 t545 t548 _ ?side1 ?side2 A17.out).mono ?_
              (case side1 => repeat (first | exact (Kd.R_reads' HO541.out).2.2 | (with_reducible refine Kd.C_alloc ?_ _) | (with_reducible refine Kd.C_drewN ?_ _) | (with_reducible refine Kd.C_drew ?_)))
              (case side2 => exact (Kd.R_reads' HO541.out).2.1)
              rintro e w34 ⟨v546, rfl, ho0, hb⟩
              refine ⟨_, rfl, ?_⟩
              have n0_ := Aside0.mk (Kd.R_elder' (by (with_reducible repeat (first | apply Kd.R_alloc | apply Kd.R_drewN | apply Kd.R_drew)); exact HO534.out) (Kd.R_base ho0) hb)
              have n1_ := Aside0.mk (Kd.R_elder' (by (with_reducible repeat (first | apply Kd.R_alloc | apply Kd.R_drewN | apply Kd.R_drew)); exact HO541.out) (Kd.R_base ho0) hb)
              have n2_ := Aside0.mk (Kd.R_lower (Kd.R_new' (Kd.R_new' ho0 (Kd.R_lt (by (with_reducible repeat (first | apply Kd.R_alloc | apply Kd.R_drewN | apply Kd.R_drew)); exact HO534.out))) (Kd.R_lt (by (with_reducible repeat (first | apply Kd.R_alloc | apply Kd.R_drewN | apply Kd.R_drew)); exact HO541.out))) (below_size (by repeat (first | (with_reducible first | exact HB.out | apply below_alloc | apply pw_below_drewN | apply below_drew1 | refine below_set ?_ GE530.out) | exact HB.out))))
              have n3_ := Aside0.mk (blk_below (g := gb530) (o := .cells #[.int .u32 a0_0, .int .u32 a0_1, .int .i64 a0_2, .int .i64 a0_3, .bool true, .slice A0_5 l0_5.length c0_5] 49 (0, 0)) (by (with_reducible repeat (first | refine blk_drewN ?_ _ | refine blk_drew ?_ | refine blk_alloc ?_ _)); exact BK530.out) hb)
              have n4_ := Aside0.mk (below_step (by repeat (first | (with_reducible first | exact HB.out | apply below_alloc | apply pw_below_drewN | apply below_drew1 | refine below_set ?_ GE530.out) | exact HB.out)) hb)
              clear HO534
              clear HO541
              clear BK530
              clear HB
              have HO534 := n0_
              have HO541 := n1_
              have HO547 := n2_
              have BK530 := n3_
              have HB := n4_
              clear n0_ n1_ n2_ n3_ n4_
              (try clear hb)
              (try clear hb2)
              (try clear hk)
              (try clear hi)
              (try clear ho0)
              refine hK.out _ _ ⟨(blk_cell BK530.out 0).trans rfl, (blk_cell BK530.out 1).trans rfl, (blk_cell BK530.out 2).trans rfl, (blk_cell BK530.out 3).trans rfl, (blk_cell BK530.out 4).trans rfl, (blk_cell BK530.out 5).trans rfl⟩ (fun hHeld => ?_)
              clear hK K
              refine norm_ (a' := ?_) ?_ ?_
              rotate_left
              ·show Act.put _ (some 48) _ = _
               simp only [Act.put, List.setIfInBounds_toArray, List.set_cons_zero, List.set_cons_succ, i64_w, i32_w]
               rfl
              refine pure_ (i := 9) (N := some 39) (v := ?_) (a' := ?_) #[true, true, true, true, true, true, true, true, true, true, false, false, false, false, false] rfl rfl (any_of HT_.out (by kernel_rfl)) (fun _ _ _ h => h) (Or.inl ⟨by rfl, ?_⟩) ?_ ?_
              rotate_left
              ·intro w'
               go_simp
               with_reducible rfl
              rotate_left
              ·simp only [Act.put, List.setIfInBounds_toArray, List.set_cons_zero, List.set_cons_succ, i64_w, i32_w]
               rfl
              refine pure_ (i := 10) (N := some 49) (v := ?_) (a' := ?_) #[true, true, true, true, true, true, true, true, true, true, true, false, false, false, false] rfl rfl (any_of HT_.out (by kernel_rfl)) (fun _ _ _ h => h) (Or.inl ⟨by rfl, ?_⟩) ?_ ?_
              rotate_left
              ·intro w'
               go_simp
               with_reducible rfl
              rotate_left
              ·simp only [Act.put, List.setIfInBounds_toArray, List.set_cons_zero, List.set_cons_succ, i64_w, i32_w]
               rfl
              refine pure_ (i := 11) (N := some 50) (v := ?_) (a' := ?_) #[true, true, true, true, true, true, true, true, true, true, true, true, false, false, false] rfl rfl (any_of HT_.out (by kernel_rfl)) (fun _ _ _ h => h) (Or.inl ⟨by rfl, ?_⟩) ?_ ?_
              rotate_left
              ·intro w'
               go_simp
               with_reducible rfl
              rotate_left
              ·simp only [Act.put, List.setIfInBounds_toArray, List.set_cons_zero, List.set_cons_succ, i64_w, i32_w]
               rfl
              refine one_ (i := 12) (N := some 9) #[true, true, true, true, true, true, true, true, true, true, true, true, true, false, false] rfl rfl (one_of HT_.out (by kernel_rfl)) (by decide) (fun K hK => ?_)
              refine box_step ?hg (N := 9) ?hd (cs := #[.int .i64 0, .int .i64 0, .bool false, .slice none 0 0]) (t := 47) ?hr ?_; (case hd => rfl); (case hg => rfl); (case hr => first | (go_simp; done) | (go_simp; rfl))
              intro gb549 hg w35 hbox hb
              have n0_ := Aside0.mk (Kd.R_below (by (with_reducible repeat (first | apply Kd.R_alloc | apply Kd.R_drewN | apply Kd.R_drew)); exact HO534.out) hb)
              have n1_ := Aside0.mk (Kd.R_below (by (with_reducible repeat (first | apply Kd.R_alloc | apply Kd.R_drewN | apply Kd.R_drew)); exact HO541.out) hb)
              have n2_ := Aside0.mk (Kd.R_below (by (with_reducible repeat (first | apply Kd.R_alloc | apply Kd.R_drewN | apply Kd.R_drew)); exact HO547.out) hb)
              have n3_ := Aside0.mk (blk_below (g := gb530) (o := .cells #[.int .u32 a0_0, .int .u32 a0_1, .int .i64 a0_2, .int .i64 a0_3, .bool true, .slice A0_5 l0_5.length c0_5] 49 (0, 0)) (by (with_reducible repeat (first | refine blk_drewN ?_ _ | refine blk_drew ?_ | refine blk_alloc ?_ _)); exact BK530.out) hb)
              have n4_ := Aside0.mk (below_step (by repeat (first | (with_reducible first | exact HB.out | apply below_alloc | apply pw_below_drewN | apply below_drew1 | refine below_set ?_ GE530.out) | exact HB.out)) hb)
              have n5_ := Aside0.mk (hbox)
              have n6_ := Aside0.mk ((by rw [hg]; exact (below_size (by repeat (first | (with_reducible first | exact HB.out | apply below_alloc | apply pw_below_drewN | apply below_drew1 | refine below_set ?_ GE530.out) | exact HB.out))) : w.heap.size ≤ gb549))
              have n7_ := Aside0.mk ((by rw [hg]; exact (below_size (by repeat (first | (with_reducible first | exact HB.out | apply below_alloc | apply pw_below_drewN | apply below_drew1 | refine below_set ?_ GE530.out) | exact HB.out))) : w.heap.size ≤ gb549))
              have n8_ := Aside0.mk ((by rw [hg]; exact Nat.ne_of_lt (blk_lt (g := gb530) (o := .cells #[.int .u32 a0_0, .int .u32 a0_1, .int .i64 a0_2, .int .i64 a0_3, .bool true, .slice A0_5 l0_5.length c0_5] 49 (0, 0)) (by (with_reducible repeat (first | refine blk_drewN ?_ _ | refine blk_drew ?_ | refine blk_alloc ?_ _)); exact BK530.out)) : gb530 ≠ gb549))
              have n9_ := Aside0.mk ((by rw [hg]; exact Nat.ne_of_gt (blk_lt (g := gb530) (o := .cells #[.int .u32 a0_0, .int .u32 a0_1, .int .i64 a0_2, .int .i64 a0_3, .bool true, .slice A0_5 l0_5.length c0_5] 49 (0, 0)) (by (with_reducible repeat (first | refine blk_drewN ?_ _ | refine blk_drew ?_ | refine blk_alloc ?_ _)); exact BK530.out)) : gb549 ≠ gb530))
              clear HO534
              clear HO541
              clear HO547
              clear BK530
              clear HB
              have HO534 := n0_
              have HO541 := n1_
              have HO547 := n2_
              have BK530 := n3_
              have HB := n4_
              have BK549 := n5_
              have GW549 := n6_
              have GE549 := n7_
              have NB530_549 := n8_
              have NB549_530 := n9_
              clear n0_ n1_ n2_ n3_ n4_ n5_ n6_ n7_ n8_ n9_
              clear hb hbox hg
              refine hK.out _ _ ⟨(blk_cell BK530.out 0).trans rfl, (blk_cell BK530.out 1).trans rfl, (blk_cell BK530.out 2).trans rfl, (blk_cell BK530.out 3).trans rfl, (blk_cell BK530.out 4).trans rfl, (blk_cell BK530.out 5).trans rfl⟩ (fun hHeld => ?_)
              clear hK K
              refine norm_ (a' := ?_) ?_ ?_
              rotate_left
              ·show Act.put _ (some 9) _ = _
               simp only [Act.put, List.setIfInBounds_toArray, List.set_cons_zero, List.set_cons_succ, i64_w, i32_w]
               rfl
              exact norm_ (by simp only [putAll, Act.put, List.setIfInBounds_toArray, List.set_cons_zero, List.set_cons_succ]) (hCont (v537, .slice Ao33 y539.length co33, v546, gb549) _ ⟨hHeld, (by (with_reducible repeat (first | apply Kd.R_alloc | apply Kd.R_drewN | apply Kd.R_drew)); exact Kd.R_mono HO534.out (fun _ hk => ⟨hk.1.2, hk.2⟩)), (by (with_reducible repeat (first | apply Kd.R_alloc | apply Kd.R_drewN | apply Kd.R_drew)); exact HO541.out), (by (with_reducible repeat (first | apply Kd.R_alloc | apply Kd.R_drewN | apply Kd.R_drew)); exact Kd.R_mono HO547.out (fun _ hk => ⟨hk.1.2, hk.2⟩)), (by (with_reducible repeat (first | refine blk_drewN ?_ _ | refine blk_drew ?_ | refine blk_alloc ?_ _)); exact BK530.out), (by (with_reducible repeat (first | refine blk_drewN ?_ _ | refine blk_drew ?_ | refine blk_alloc ?_ _)); exact BK549.out), GW549.out, GE549.out, NB530_549.out, NB549_530.out, (by repeat (first | (with_reducible first | exact HB.out | apply below_alloc | apply pw_below_drewN | apply below_drew1 | refine below_set ?_ GE530.out | refine below_set ?_ GE549.out) | exact HB.out))⟩)
             ·skip
              refine box_step ?hg (N := 9) ?hd (cs := #[.int .i64 0, .int .i64 0, .bool false, .slice none 0 0]) (t := 47) ?hr ?_; (case hd => rfl); (case hg => rfl); (case hr => first | (go_simp; done) | (go_simp; rfl))
              intro gb549 hg w33 hbox hb
              have n0_ := Aside0.mk (Kd.R_below (by (with_reducible repeat (first | apply Kd.R_alloc | apply Kd.R_drewN | apply Kd.R_drew)); exact HO534.out) hb)
              have n1_ := Aside0.mk (Kd.R_below (by (with_reducible repeat (first | apply Kd.R_alloc | apply Kd.R_drewN | apply Kd.R_drew)); exact HO541.out) hb)
              have n2_ := Aside0.mk (blk_below (g := gb530) (o := .cells #[.int .u32 a0_0, .int .u32 a0_1, .int .i64 a0_2, .int .i64 a0_3, .bool true, .slice A0_5 l0_5.length c0_5] 49 (0, 0)) (by (with_reducible repeat (first | refine blk_drewN ?_ _ | refine blk_drew ?_ | refine blk_alloc ?_ _)); exact BK530.out) hb)
              have n3_ := Aside0.mk (below_step (by repeat (first | (with_reducible first | exact HB.out | apply below_alloc | apply pw_below_drewN | apply below_drew1 | refine below_set ?_ GE530.out) | exact HB.out)) hb)
              have n4_ := Aside0.mk (hbox)
              have n5_ := Aside0.mk ((by rw [hg]; exact (below_size (by repeat (first | (with_reducible first | exact HB.out | apply below_alloc | apply pw_below_drewN | apply below_drew1 | refine below_set ?_ GE530.out) | exact HB.out))) : w.heap.size ≤ gb549))
              have n6_ := Aside0.mk ((by rw [hg]; exact (below_size (by repeat (first | (with_reducible first | exact HB.out | apply below_alloc | apply pw_below_drewN | apply below_drew1 | refine below_set ?_ GE530.out) | exact HB.out))) : w.heap.size ≤ gb549))
              have n7_ := Aside0.mk ((by rw [hg]; exact Nat.ne_of_lt (blk_lt (g := gb530) (o := .cells #[.int .u32 a0_0, .int .u32 a0_1, .int .i64 a0_2, .int .i64 a0_3, .bool true, .slice A0_5 l0_5.length c0_5] 49 (0, 0)) (by (with_reducible repeat (first | refine blk_drewN ?_ _ | refine blk_drew ?_ | refine blk_alloc ?_ _)); exact BK530.out)) : gb530 ≠ gb549))
              have n8_ := Aside0.mk ((by rw [hg]; exact Nat.ne_of_gt (blk_lt (g := gb530) (o := .cells #[.int .u32 a0_0, .int .u32 a0_1, .int .i64 a0_2, .int .i64 a0_3, .bool true, .slice A0_5 l0_5.length c0_5] 49 (0, 0)) (by (with_reducible repeat (first | refine blk_drewN ?_ _ | refine blk_drew ?_ | refine blk_alloc ?_ _)); exact BK530.out)) : gb549 ≠ gb530))
              clear HO534
              clear HO541
              clear BK530
              clear HB
              have HO534 := n0_
              have HO541 := n1_
              have BK530 := n2_
              have HB := n3_
              have BK549 := n4_
              have GW549 := n5_
              have GE549 := n6_
              have NB530_549 := n7_
              have NB549_530 := n8_
              clear n0_ n1_ n2_ n3_ n4_ n5_ n6_ n7_ n8_
              clear hb hbox hg
              obtain ⟨Ao34, co34, eo34⟩ := Kd.R_slice HO541.out
              (first | subst eo34 | (injection eo34 with f1_ f2_ f3_; have f4_ := f1_.symm; have f5_ := f3_.symm; clear f1_ f2_ f3_; subst f4_; subst f5_))
              refine hK.out _ _ ⟨(blk_cell BK530.out 0).trans rfl, (blk_cell BK530.out 1).trans rfl, (blk_cell BK530.out 2).trans rfl, (blk_cell BK530.out 3).trans rfl, (blk_cell BK530.out 4).trans rfl, (blk_cell BK530.out 5).trans rfl⟩ (fun hHeld => ?_)
              clear hK K
              refine norm_ (a' := ?_) ?_ ?_
              rotate_left
              ·show Act.put _ (some 9) _ = _
               simp only [Act.put, List.setIfInBounds_toArray, List.set_cons_zero, List.set_cons_succ, i64_w, i32_w]
               rfl
              refine one_ (i := 8) (N := some 48) #[true, true, true, true, true, true, true, true, true, false, false, false, true, false, false] rfl rfl (one_of HT_.out (by kernel_rfl)) (by decide) (fun K hK => ?_)
              refine goes_ Try.func43 (by kernel_rfl) rfl #[.int .u32 a0_0, .int .u32 a0_1, .slice Ao34 y539.length co34] (by rfl) rfl rfl (by (try simp only [List.map_toArray, List.map_cons, List.map_nil]); first | done | rfl | (simp only [List.length_drop, List.length_take]; rfl)) ?_
              with_reducible refine (udp_Parse.calls kj5 a0_0 a0_1 _ _ y539 t542 t543 t544 t545 t548 _ ?side1 ?side2 A17.out).mono ?_
              (case side1 => repeat (first | exact (Kd.R_reads' HO541.out).2.2 | (with_reducible refine Kd.C_alloc ?_ _) | (with_reducible refine Kd.C_drewN ?_ _) | (with_reducible refine Kd.C_drew ?_)))
              (case side2 => exact (Kd.R_reads' HO541.out).2.1)
              rintro e w35 ⟨v546, rfl, ho0, hb⟩
              refine ⟨_, rfl, ?_⟩
              have n0_ := Aside0.mk (Kd.R_elder' (by (with_reducible repeat (first | apply Kd.R_alloc | apply Kd.R_drewN | apply Kd.R_drew)); exact HO534.out) (Kd.R_base ho0) hb)
              have n1_ := Aside0.mk (Kd.R_elder' (by (with_reducible repeat (first | apply Kd.R_alloc | apply Kd.R_drewN | apply Kd.R_drew)); exact HO541.out) (Kd.R_base ho0) hb)
              have n2_ := Aside0.mk (Kd.R_lower (Kd.R_new' (Kd.R_new' ho0 (Kd.R_lt (by (with_reducible repeat (first | apply Kd.R_alloc | apply Kd.R_drewN | apply Kd.R_drew)); exact HO534.out))) (Kd.R_lt (by (with_reducible repeat (first | apply Kd.R_alloc | apply Kd.R_drewN | apply Kd.R_drew)); exact HO541.out))) (below_size (by repeat (first | (with_reducible first | exact HB.out | apply below_alloc | apply pw_below_drewN | apply below_drew1 | refine below_set ?_ GE530.out | refine below_set ?_ GE549.out) | exact HB.out))))
              have n3_ := Aside0.mk (blk_below (g := gb530) (o := .cells #[.int .u32 a0_0, .int .u32 a0_1, .int .i64 a0_2, .int .i64 a0_3, .bool true, .slice A0_5 l0_5.length c0_5] 49 (0, 0)) (by (with_reducible repeat (first | refine blk_drewN ?_ _ | refine blk_drew ?_ | refine blk_alloc ?_ _)); exact BK530.out) hb)
              have n4_ := Aside0.mk (blk_below (g := gb549) (o := .cells #[.int .i64 0, .int .i64 0, .bool false, .slice none 0 0] 47 (0, 0)) (by (with_reducible repeat (first | refine blk_drewN ?_ _ | refine blk_drew ?_ | refine blk_alloc ?_ _)); exact BK549.out) hb)
              have n5_ := Aside0.mk (below_step (by repeat (first | (with_reducible first | exact HB.out | apply below_alloc | apply pw_below_drewN | apply below_drew1 | refine below_set ?_ GE530.out | refine below_set ?_ GE549.out) | exact HB.out)) hb)
              clear HO534
              clear HO541
              clear BK530
              clear BK549
              clear HB
              have HO534 := n0_
              have HO541 := n1_
              have HO547 := n2_
              have BK530 := n3_
              have BK549 := n4_
              have HB := n5_
              clear n0_ n1_ n2_ n3_ n4_ n5_
              (try clear hb)
              (try clear hb2)
              (try clear hk)
              (try clear hi)
              (try clear ho0)
              refine hK.out _ _ ⟨(blk_cell BK530.out 0).trans rfl, (blk_cell BK530.out 1).trans rfl, (blk_cell BK530.out 2).trans rfl, (blk_cell BK530.out 3).trans rfl, (blk_cell BK530.out 4).trans rfl, (blk_cell BK530.out 5).trans rfl⟩ (fun hHeld => ?_)
              clear hK K
              refine norm_ (a' := ?_) ?_ ?_
              rotate_left
              ·show Act.put _ (some 48) _ = _
               simp only [Act.put, List.setIfInBounds_toArray, List.set_cons_zero, List.set_cons_succ, i64_w, i32_w]
               rfl
              refine pure_ (i := 9) (N := some 39) (v := ?_) (a' := ?_) #[true, true, true, true, true, true, true, true, true, true, false, false, true, false, false] rfl rfl (any_of HT_.out (by kernel_rfl)) (fun _ _ _ h => h) (Or.inl ⟨by rfl, ?_⟩) ?_ ?_
              rotate_left
              ·intro w'
               go_simp
               with_reducible rfl
              rotate_left
              ·simp only [Act.put, List.setIfInBounds_toArray, List.set_cons_zero, List.set_cons_succ, i64_w, i32_w]
               rfl
              refine pure_ (i := 10) (N := some 49) (v := ?_) (a' := ?_) #[true, true, true, true, true, true, true, true, true, true, true, false, true, false, false] rfl rfl (any_of HT_.out (by kernel_rfl)) (fun _ _ _ h => h) (Or.inl ⟨by rfl, ?_⟩) ?_ ?_
              rotate_left
              ·intro w'
               go_simp
               with_reducible rfl
              rotate_left
              ·simp only [Act.put, List.setIfInBounds_toArray, List.set_cons_zero, List.set_cons_succ, i64_w, i32_w]
               rfl
              refine pure_ (i := 11) (N := some 50) (v := ?_) (a' := ?_) #[true, true, true, true, true, true, true, true, true, true, true, true, true, false, false] rfl rfl (any_of HT_.out (by kernel_rfl)) (fun _ _ _ h => h) (Or.inl ⟨by rfl, ?_⟩) ?_ ?_
              rotate_left
              ·intro w'
               go_simp
               with_reducible rfl
              rotate_left
              ·simp only [Act.put, List.setIfInBounds_toArray, List.set_cons_zero, List.set_cons_succ, i64_w, i32_w]
               rfl
              exact norm_ (by simp only [putAll, Act.put, List.setIfInBounds_toArray, List.set_cons_zero, List.set_cons_succ]) (hCont (v537, .slice Ao34 y539.length co34, v546, gb549) _ ⟨hHeld, (by (with_reducible repeat (first | apply Kd.R_alloc | apply Kd.R_drewN | apply Kd.R_drew)); exact Kd.R_mono HO534.out (fun _ hk => ⟨hk.1.2, hk.2⟩)), (by (with_reducible repeat (first | apply Kd.R_alloc | apply Kd.R_drewN | apply Kd.R_drew)); exact HO541.out), (by (with_reducible repeat (first | apply Kd.R_alloc | apply Kd.R_drewN | apply Kd.R_drew)); exact Kd.R_mono HO547.out (fun _ hk => ⟨hk.1.2, hk.2⟩)), (by (with_reducible repeat (first | refine blk_drewN ?_ _ | refine blk_drew ?_ | refine blk_alloc ?_ _)); exact BK530.out), (by (with_reducible repeat (first | refine blk_drewN ?_ _ | refine blk_drew ?_ | refine blk_alloc ?_ _)); exact BK549.out), GW549.out, GE549.out, NB530_549.out, NB549_530.out, (by repeat (first | (with_reducible first | exact HB.out | apply below_alloc | apply pw_below_drewN | apply below_drew1 | refine below_set ?_ GE530.out | refine below_set ?_ GE549.out) | exact HB.out))⟩)
            ·skip
             refine box_step ?hg (N := 9) ?hd (cs := #[.int .i64 0, .int .i64 0, .bool false, .slice none 0 0]) (t := 47) ?hr ?_; (case hd => rfl); (case hg => rfl); (case hr => first | (go_simp; done) | (go_simp; rfl))
             intro gb549 hg w32 hbox hb
             have n0_ := Aside0.mk (Kd.R_below (by (with_reducible repeat (first | apply Kd.R_alloc | apply Kd.R_drewN | apply Kd.R_drew)); exact HO534.out) hb)
             have n1_ := Aside0.mk (Kd.R_below (by (with_reducible repeat (first | apply Kd.R_alloc | apply Kd.R_drewN | apply Kd.R_drew)); exact HO538.out) hb)
             have n2_ := Aside0.mk (blk_below (g := gb530) (o := .cells #[.int .u32 a0_0, .int .u32 a0_1, .int .i64 a0_2, .int .i64 a0_3, .bool true, .slice A0_5 l0_5.length c0_5] 49 (0, 0)) (by (with_reducible repeat (first | refine blk_drewN ?_ _ | refine blk_drew ?_ | refine blk_alloc ?_ _)); exact BK530.out) hb)
             have n3_ := Aside0.mk (below_step (by repeat (first | (with_reducible first | exact HB.out | apply below_alloc | apply pw_below_drewN | apply below_drew1 | refine below_set ?_ GE530.out) | exact HB.out)) hb)
             have n4_ := Aside0.mk (hbox)
             have n5_ := Aside0.mk ((by rw [hg]; exact (below_size (by repeat (first | (with_reducible first | exact HB.out | apply below_alloc | apply pw_below_drewN | apply below_drew1 | refine below_set ?_ GE530.out) | exact HB.out))) : w.heap.size ≤ gb549))
             have n6_ := Aside0.mk ((by rw [hg]; exact (below_size (by repeat (first | (with_reducible first | exact HB.out | apply below_alloc | apply pw_below_drewN | apply below_drew1 | refine below_set ?_ GE530.out) | exact HB.out))) : w.heap.size ≤ gb549))
             have n7_ := Aside0.mk ((by rw [hg]; exact Nat.ne_of_lt (blk_lt (g := gb530) (o := .cells #[.int .u32 a0_0, .int .u32 a0_1, .int .i64 a0_2, .int .i64 a0_3, .bool true, .slice A0_5 l0_5.length c0_5] 49 (0, 0)) (by (with_reducible repeat (first | refine blk_drewN ?_ _ | refine blk_drew ?_ | refine blk_alloc ?_ _)); exact BK530.out)) : gb530 ≠ gb549))
             have n8_ := Aside0.mk ((by rw [hg]; exact Nat.ne_of_gt (blk_lt (g := gb530) (o := .cells #[.int .u32 a0_0, .int .u32 a0_1, .int .i64 a0_2, .int .i64 a0_3, .bool true, .slice A0_5 l0_5.length c0_5] 49 (0, 0)) (by (with_reducible repeat (first | refine blk_drewN ?_ _ | refine blk_drew ?_ | refine blk_alloc ?_ _)); exact BK530.out)) : gb549 ≠ gb530))
             clear HO534
             clear HO538
             clear BK530
             clear HB
             have HO534 := n0_
             have HO538 := n1_
             have BK530 := n2_
             have HB := n3_
             have BK549 := n4_
             have GW549 := n5_
             have GE549 := n6_
             have NB530_549 := n7_
             have NB549_530 := n8_
             clear n0_ n1_ n2_ n3_ n4_ n5_ n6_ n7_ n8_
             clear hb hbox hg
             refine hK.out _ _ ⟨(blk_cell BK530.out 0).trans rfl, (blk_cell BK530.out 1).trans rfl, (blk_cell BK530.out 2).trans rfl, (blk_cell BK530.out 3).trans rfl, (blk_cell BK530.out 4).trans rfl, (blk_cell BK530.out 5).trans rfl⟩ (fun hHeld => ?_)
             clear hK K
             refine norm_ (a' := ?_) ?_ ?_
             rotate_left
             ·show Act.put _ (some 9) _ = _
              simp only [Act.put, List.setIfInBounds_toArray, List.set_cons_zero, List.set_cons_succ, i64_w, i32_w]
              rfl
             refine one_ (i := 7) (N := some 47) #[true, true, true, true, true, true, true, true, false, false, false, false, true, false, false] rfl rfl (one_of HT_.out (by kernel_rfl)) (by decide) (fun K hK => ?_)
             refine Kd.R_append_rows_step (Kd.int .u8) (w0 := w) w.heap.size (by rfl) (.tmp 45) (.tmp 46) 22 5 (.int .u8 0) 1 rfl Try.underlying22 info5 rfl (by decide) (by omega) v537 t536 l1 _ _ _ (fun k_ => some k_ ≠ (.slice Ao29 t532.length co29 : Value).ownBlock) (fun _ => False) rfl rfl ?aO ?aR (fun _ _ h => h) (fun _ h => h.elim) ?aF ?aB ?aS ?aL ?_
             (case aR => repeat (first | exact (Kd.C_below HR1.out HB.out) | (with_reducible refine Kd.C_alloc ?_ _) | (with_reducible refine Kd.C_drewN ?_ _) | (with_reducible refine Kd.C_drew ?_)))
             (case aB => exact (by repeat (first | (with_reducible first | exact HB.out | apply below_alloc | apply pw_below_drewN | apply below_drew1 | refine below_set ?_ GE530.out | refine below_set ?_ GE549.out) | exact HB.out)))
             (case aF => exact (fun k_ hk => Kd.fresh' (Kd.R_lt (by (with_reducible repeat (first | apply Kd.R_alloc | apply Kd.R_drewN | apply Kd.R_drew)); exact HO534.out)) k_ hk))
             (case aO => exact (by (with_reducible repeat (first | apply Kd.R_alloc | apply Kd.R_drewN | apply Kd.R_drew)); exact Kd.R_mono HO538.out (fun _ hk => hk.2)))
             (case aS => exact (below_size (by repeat (first | (with_reducible first | exact HB.out | apply below_alloc | apply pw_below_drewN | apply below_drew1 | refine below_set ?_ GE530.out | refine below_set ?_ GE549.out) | exact HB.out))))
             (case aL => have := LMc16.out; omega)
             intro v540 w33 ho hb hg hat
             rw [← Ny539.out] at ho
             have n0_ := Aside0.mk (blk_grown (g := gb530) (o := .cells #[.int .u32 a0_0, .int .u32 a0_1, .int .i64 a0_2, .int .i64 a0_3, .bool true, .slice A0_5 l0_5.length c0_5] 49 (0, 0)) (by (with_reducible repeat (first | refine blk_drewN ?_ _ | refine blk_drew ?_ | refine blk_alloc ?_ _)); exact BK530.out) hg (Kd.R_ne HO538.out BK530.out (by decide)))
             have n1_ := Aside0.mk (Kd.R_after (ok := (fun _ => True)) (by (with_reducible repeat (first | apply Kd.R_alloc | apply Kd.R_drewN | apply Kd.R_drew)); exact HO534.out) hg hat)
             have n2_ := Aside0.mk (blk_grown (g := gb549) (o := .cells #[.int .i64 0, .int .i64 0, .bool false, .slice none 0 0] 47 (0, 0)) (by (with_reducible repeat (first | refine blk_drewN ?_ _ | refine blk_drew ?_ | refine blk_alloc ?_ _)); exact BK549.out) hg (Kd.R_ne HO538.out BK549.out (by decide)))
             have n3_ := Aside0.mk (hb)
             have n4_ := Aside0.mk (ho)
             clear BK530
             clear HO534
             clear BK549
             clear HB
             clear HO538
             have BK530 := n0_
             have HO534 := n1_
             have BK549 := n2_
             have HB := n3_
             have HO541 := n4_
             clear n0_ n1_ n2_ n3_ n4_
             clear ho hb hg hat
             obtain ⟨Ao34, co34, eo34⟩ := Kd.R_slice HO541.out
             (first | subst eo34 | (injection eo34 with f1_ f2_ f3_; have f4_ := f1_.symm; have f5_ := f3_.symm; clear f1_ f2_ f3_; subst f4_; subst f5_))
             refine hK.out _ _ ⟨(blk_cell BK530.out 0).trans rfl, (blk_cell BK530.out 1).trans rfl, (blk_cell BK530.out 2).trans rfl, (blk_cell BK530.out 3).trans rfl, (blk_cell BK530.out 4).trans rfl, (blk_cell BK530.out 5).trans rfl⟩ (fun hHeld => ?_)
             clear hK K
             refine norm_ (a' := ?_) ?_ ?_
             rotate_left
             ·show Act.put _ (some 47) _ = _
              simp only [Act.put, List.setIfInBounds_toArray, List.set_cons_zero, List.set_cons_succ, i64_w, i32_w]
              rfl
             refine one_ (i := 8) (N := some 48) #[true, true, true, true, true, true, true, true, true, false, false, false, true, false, false] rfl rfl (one_of HT_.out (by kernel_rfl)) (by decide) (fun K hK => ?_)
             refine goes_ Try.func43 (by kernel_rfl) rfl #[.int .u32 a0_0, .int .u32 a0_1, .slice Ao34 y539.length co34] (by rfl) rfl rfl (by (try simp only [List.map_toArray, List.map_cons, List.map_nil]); first | done | rfl | (simp only [List.length_drop, List.length_take]; rfl)) ?_
             with_reducible refine (udp_Parse.calls kj5 a0_0 a0_1 _ _ y539 t542 t543 t544 t545 t548 _ ?side1 ?side2 A17.out).mono ?_
             (case side1 => repeat (first | exact (Kd.R_reads' HO541.out).2.2 | (with_reducible refine Kd.C_alloc ?_ _) | (with_reducible refine Kd.C_drewN ?_ _) | (with_reducible refine Kd.C_drew ?_)))
             (case side2 => exact (Kd.R_reads' HO541.out).2.1)
             rintro e w35 ⟨v546, rfl, ho0, hb⟩
             refine ⟨_, rfl, ?_⟩
             have n0_ := Aside0.mk (Kd.R_elder' (by (with_reducible repeat (first | apply Kd.R_alloc | apply Kd.R_drewN | apply Kd.R_drew)); exact HO534.out) (Kd.R_base ho0) hb)
             have n1_ := Aside0.mk (Kd.R_elder' (by (with_reducible repeat (first | apply Kd.R_alloc | apply Kd.R_drewN | apply Kd.R_drew)); exact HO541.out) (Kd.R_base ho0) hb)
             have n2_ := Aside0.mk (Kd.R_lower (Kd.R_new' (Kd.R_new' ho0 (Kd.R_lt (by (with_reducible repeat (first | apply Kd.R_alloc | apply Kd.R_drewN | apply Kd.R_drew)); exact HO534.out))) (Kd.R_lt (by (with_reducible repeat (first | apply Kd.R_alloc | apply Kd.R_drewN | apply Kd.R_drew)); exact HO541.out))) (below_size (by repeat (first | (with_reducible first | exact HB.out | apply below_alloc | apply pw_below_drewN | apply below_drew1 | refine below_set ?_ GE530.out | refine below_set ?_ GE549.out) | exact HB.out))))
             have n3_ := Aside0.mk (blk_below (g := gb530) (o := .cells #[.int .u32 a0_0, .int .u32 a0_1, .int .i64 a0_2, .int .i64 a0_3, .bool true, .slice A0_5 l0_5.length c0_5] 49 (0, 0)) (by (with_reducible repeat (first | refine blk_drewN ?_ _ | refine blk_drew ?_ | refine blk_alloc ?_ _)); exact BK530.out) hb)
             have n4_ := Aside0.mk (blk_below (g := gb549) (o := .cells #[.int .i64 0, .int .i64 0, .bool false, .slice none 0 0] 47 (0, 0)) (by (with_reducible repeat (first | refine blk_drewN ?_ _ | refine blk_drew ?_ | refine blk_alloc ?_ _)); exact BK549.out) hb)
             have n5_ := Aside0.mk (below_step (by repeat (first | (with_reducible first | exact HB.out | apply below_alloc | apply pw_below_drewN | apply below_drew1 | refine below_set ?_ GE530.out | refine below_set ?_ GE549.out) | exact HB.out)) hb)
             clear HO534
             clear HO541
             clear BK530
             clear BK549
             clear HB
             have HO534 := n0_
             have HO541 := n1_
             have HO547 := n2_
             have BK530 := n3_
             have BK549 := n4_
             have HB := n5_
             clear n0_ n1_ n2_ n3_ n4_ n5_
             (try clear hb)
             (try clear hb2)
             (try clear hk)
             (try clear hi)
             (try clear ho0)
             refine hK.out _ _ ⟨(blk_cell BK530.out 0).trans rfl, (blk_cell BK530.out 1).trans rfl, (blk_cell BK530.out 2).trans rfl, (blk_cell BK530.out 3).trans rfl, (blk_cell BK530.out 4).trans rfl, (blk_cell BK530.out 5).trans rfl⟩ (fun hHeld => ?_)
             clear hK K
             refine norm_ (a' := ?_) ?_ ?_
             rotate_left
             ·show Act.put _ (some 48) _ = _
              simp only [Act.put, List.setIfInBounds_toArray, List.set_cons_zero, List.set_cons_succ, i64_w, i32_w]
              rfl
             refine pure_ (i := 9) (N := some 39) (v := ?_) (a' := ?_) #[true, true, true, true, true, true, true, true, true, true, false, false, true, false, false] rfl rfl (any_of HT_.out (by kernel_rfl)) (fun _ _ _ h => h) (Or.inl ⟨by rfl, ?_⟩) ?_ ?_
             rotate_left
             ·intro w'
              go_simp
              with_reducible rfl
             rotate_left
             ·simp only [Act.put, List.setIfInBounds_toArray, List.set_cons_zero, List.set_cons_succ, i64_w, i32_w]
              rfl
             refine pure_ (i := 10) (N := some 49) (v := ?_) (a' := ?_) #[true, true, true, true, true, true, true, true, true, true, true, false, true, false, false] rfl rfl (any_of HT_.out (by kernel_rfl)) (fun _ _ _ h => h) (Or.inl ⟨by rfl, ?_⟩) ?_ ?_
             rotate_left
             ·intro w'
              go_simp
              with_reducible rfl
             rotate_left
             ·simp only [Act.put, List.setIfInBounds_toArray, List.set_cons_zero, List.set_cons_succ, i64_w, i32_w]
              rfl
             refine pure_ (i := 11) (N := some 50) (v := ?_) (a' := ?_) #[true, true, true, true, true, true, true, true, true, true, true, true, true, false, false] rfl rfl (any_of HT_.out (by kernel_rfl)) (fun _ _ _ h => h) (Or.inl ⟨by rfl, ?_⟩) ?_ ?_
             rotate_left
             ·intro w'
              go_simp
              with_reducible rfl
             rotate_left
             ·simp only [Act.put, List.setIfInBounds_toArray, List.set_cons_zero, List.set_cons_succ, i64_w, i32_w]
              rfl
             exact norm_ (by simp only [putAll, Act.put, List.setIfInBounds_toArray, List.set_cons_zero, List.set_cons_succ]) (hCont (v537, .slice Ao34 y539.length co34, v546, gb549) _ ⟨hHeld, (by (with_reducible repeat (first | apply Kd.R_alloc | apply Kd.R_drewN | apply Kd.R_drew)); exact Kd.R_mono HO534.out (fun _ hk => ⟨hk.1.2, hk.2⟩)), (by (with_reducible repeat (first | apply Kd.R_alloc | apply Kd.R_drewN | apply Kd.R_drew)); exact HO541.out), (by (with_reducible repeat (first | apply Kd.R_alloc | apply Kd.R_drewN | apply Kd.R_drew)); exact Kd.R_mono HO547.out (fun _ hk => ⟨hk.1.2, hk.2⟩)), (by (with_reducible repeat (first | refine blk_drewN ?_ _ | refine blk_drew ?_ | refine blk_alloc ?_ _)); exact BK530.out), (by (with_reducible repeat (first | refine blk_drewN ?_ _ | refine blk_drew ?_ | refine blk_alloc ?_ _)); exact BK549.out), GW549.out, GE549.out, NB530_549.out, NB549_530.out, (by repeat (first | (with_reducible first | exact HB.out | apply below_alloc | apply pw_below_drewN | apply below_drew1 | refine below_set ?_ GE530.out | refine below_set ?_ GE549.out) | exact HB.out))⟩)
           ·skip
            refine box_step ?hg (N := 9) ?hd (cs := #[.int .i64 0, .int .i64 0, .bool false, .slice none 0 0]) (t := 47) ?hr ?_; (case hd => rfl); (case hg => rfl); (case hr => first | (go_simp; done) | (go_simp; rfl))
            intro gb549 hg w31 hbox hb
            have n0_ := Aside0.mk (Kd.R_below (by (with_reducible repeat (first | apply Kd.R_alloc | apply Kd.R_drewN | apply Kd.R_drew)); exact HO534.out) hb)
            have n1_ := Aside0.mk (blk_below (g := gb530) (o := .cells #[.int .u32 a0_0, .int .u32 a0_1, .int .i64 a0_2, .int .i64 a0_3, .bool true, .slice A0_5 l0_5.length c0_5] 49 (0, 0)) (by (with_reducible repeat (first | refine blk_drewN ?_ _ | refine blk_drew ?_ | refine blk_alloc ?_ _)); exact BK530.out) hb)
            have n2_ := Aside0.mk (below_step (by repeat (first | (with_reducible first | exact HB.out | apply below_alloc | apply pw_below_drewN | apply below_drew1 | refine below_set ?_ GE530.out) | exact HB.out)) hb)
            have n3_ := Aside0.mk (hbox)
            have n4_ := Aside0.mk ((by rw [hg]; exact (below_size (by repeat (first | (with_reducible first | exact HB.out | apply below_alloc | apply pw_below_drewN | apply below_drew1 | refine below_set ?_ GE530.out) | exact HB.out))) : w.heap.size ≤ gb549))
            have n5_ := Aside0.mk ((by rw [hg]; exact (below_size (by repeat (first | (with_reducible first | exact HB.out | apply below_alloc | apply pw_below_drewN | apply below_drew1 | refine below_set ?_ GE530.out) | exact HB.out))) : w.heap.size ≤ gb549))
            have n6_ := Aside0.mk ((by rw [hg]; exact Nat.ne_of_lt (blk_lt (g := gb530) (o := .cells #[.int .u32 a0_0, .int .u32 a0_1, .int .i64 a0_2, .int .i64 a0_3, .bool true, .slice A0_5 l0_5.length c0_5] 49 (0, 0)) (by (with_reducible repeat (first | refine blk_drewN ?_ _ | refine blk_drew ?_ | refine blk_alloc ?_ _)); exact BK530.out)) : gb530 ≠ gb549))
            have n7_ := Aside0.mk ((by rw [hg]; exact Nat.ne_of_gt (blk_lt (g := gb530) (o := .cells #[.int .u32 a0_0, .int .u32 a0_1, .int .i64 a0_2, .int .i64 a0_3, .bool true, .slice A0_5 l0_5.length c0_5] 49 (0, 0)) (by (with_reducible repeat (first | refine blk_drewN ?_ _ | refine blk_drew ?_ | refine blk_alloc ?_ _)); exact BK530.out)) : gb549 ≠ gb530))
            clear HO534
            clear BK530
            clear HB
            have HO534 := n0_
            have BK530 := n1_
            have HB := n2_
            have BK549 := n3_
            have GW549 := n4_
            have GE549 := n5_
            have NB530_549 := n6_
            have NB549_530 := n7_
            clear n0_ n1_ n2_ n3_ n4_ n5_ n6_ n7_
            clear hb hbox hg
            refine hK.out _ _ ⟨(blk_cell BK530.out 0).trans rfl, (blk_cell BK530.out 1).trans rfl, (blk_cell BK530.out 2).trans rfl, (blk_cell BK530.out 3).trans rfl, (blk_cell BK530.out 4).trans rfl, (blk_cell BK530.out 5).trans rfl⟩ (fun hHeld => ?_)
            clear hK K
            refine norm_ (a' := ?_) ?_ ?_
            rotate_left
            ·show Act.put _ (some 9) _ = _
             simp only [Act.put, List.setIfInBounds_toArray, List.set_cons_zero, List.set_cons_succ, i64_w, i32_w]
             rfl
            refine one_ (i := 5) (N := some 45) #[true, true, true, true, true, true, true, false, false, false, false, false, true, false, false] rfl rfl (one_of HT_.out (by kernel_rfl)) (by decide) (fun K hK => ?_)
            refine goes_ Try.func25 (by kernel_rfl) rfl #[.slice Ao29 t532.length co29] (by rfl) rfl rfl (by (try simp only [List.map_toArray, List.map_cons, List.map_nil]); first | done | rfl | (simp only [List.length_drop, List.length_take]; rfl)) ?_
            with_reducible refine (bailiwickref1_Copy.calls kj5 _ _ t532 t536 _ ?side1 ?side2 A15.out).mono ?_
            (case side1 => repeat (first | exact (Kd.R_reads' HO534.out).2.2 | (with_reducible refine Kd.C_alloc ?_ _) | (with_reducible refine Kd.C_drewN ?_ _) | (with_reducible refine Kd.C_drew ?_)))
            (case side2 => exact (Kd.R_reads' HO534.out).2.1)
            rintro e w32 ⟨v537, rfl, ho0, hb⟩
            refine ⟨_, rfl, ?_⟩
            have n0_ := Aside0.mk (Kd.R_elder' (by (with_reducible repeat (first | apply Kd.R_alloc | apply Kd.R_drewN | apply Kd.R_drew)); exact HO534.out) (Kd.R_base ho0) hb)
            have n1_ := Aside0.mk (Kd.R_lower (Kd.R_new' ho0 (Kd.R_lt (by (with_reducible repeat (first | apply Kd.R_alloc | apply Kd.R_drewN | apply Kd.R_drew)); exact HO534.out))) (below_size (by repeat (first | (with_reducible first | exact HB.out | apply below_alloc | apply pw_below_drewN | apply below_drew1 | refine below_set ?_ GE530.out | refine below_set ?_ GE549.out) | exact HB.out))))
            have n2_ := Aside0.mk (blk_below (g := gb530) (o := .cells #[.int .u32 a0_0, .int .u32 a0_1, .int .i64 a0_2, .int .i64 a0_3, .bool true, .slice A0_5 l0_5.length c0_5] 49 (0, 0)) (by (with_reducible repeat (first | refine blk_drewN ?_ _ | refine blk_drew ?_ | refine blk_alloc ?_ _)); exact BK530.out) hb)
            have n3_ := Aside0.mk (blk_below (g := gb549) (o := .cells #[.int .i64 0, .int .i64 0, .bool false, .slice none 0 0] 47 (0, 0)) (by (with_reducible repeat (first | refine blk_drewN ?_ _ | refine blk_drew ?_ | refine blk_alloc ?_ _)); exact BK549.out) hb)
            have n4_ := Aside0.mk (below_step (by repeat (first | (with_reducible first | exact HB.out | apply below_alloc | apply pw_below_drewN | apply below_drew1 | refine below_set ?_ GE530.out | refine below_set ?_ GE549.out) | exact HB.out)) hb)
            clear HO534
            clear BK530
            clear BK549
            clear HB
            have HO534 := n0_
            have HO538 := n1_
            have BK530 := n2_
            have BK549 := n3_
            have HB := n4_
            clear n0_ n1_ n2_ n3_ n4_
            (try clear hb)
            (try clear hb2)
            (try clear hk)
            (try clear hi)
            (try clear ho0)
            refine hK.out _ _ ⟨(blk_cell BK530.out 0).trans rfl, (blk_cell BK530.out 1).trans rfl, (blk_cell BK530.out 2).trans rfl, (blk_cell BK530.out 3).trans rfl, (blk_cell BK530.out 4).trans rfl, (blk_cell BK530.out 5).trans rfl⟩ (fun hHeld => ?_)
            clear hK K
            refine norm_ (a' := ?_) ?_ ?_
            rotate_left
            ·show Act.put _ (some 45) _ = _
             simp only [Act.put, List.setIfInBounds_toArray, List.set_cons_zero, List.set_cons_succ, i64_w, i32_w]
             rfl
            refine one_ (i := 7) (N := some 47) #[true, true, true, true, true, true, true, true, false, false, false, false, true, false, false] rfl rfl (one_of HT_.out (by kernel_rfl)) (by decide) (fun K hK => ?_)
            refine Kd.R_append_rows_step (Kd.int .u8) (w0 := w) w.heap.size (by rfl) (.tmp 45) (.tmp 46) 22 5 (.int .u8 0) 1 rfl Try.underlying22 info5 rfl (by decide) (by omega) v537 t536 l1 _ _ _ (fun k_ => some k_ ≠ (.slice Ao29 t532.length co29 : Value).ownBlock) (fun _ => False) rfl rfl ?aO ?aR (fun _ _ h => h) (fun _ h => h.elim) ?aF ?aB ?aS ?aL ?_
            (case aR => repeat (first | exact (Kd.C_below HR1.out HB.out) | (with_reducible refine Kd.C_alloc ?_ _) | (with_reducible refine Kd.C_drewN ?_ _) | (with_reducible refine Kd.C_drew ?_)))
            (case aB => exact (by repeat (first | (with_reducible first | exact HB.out | apply below_alloc | apply pw_below_drewN | apply below_drew1 | refine below_set ?_ GE530.out | refine below_set ?_ GE549.out) | exact HB.out)))
            (case aF => exact (fun k_ hk => Kd.fresh' (Kd.R_lt (by (with_reducible repeat (first | apply Kd.R_alloc | apply Kd.R_drewN | apply Kd.R_drew)); exact HO534.out)) k_ hk))
            (case aO => exact (by (with_reducible repeat (first | apply Kd.R_alloc | apply Kd.R_drewN | apply Kd.R_drew)); exact Kd.R_mono HO538.out (fun _ hk => hk.2)))
            (case aS => exact (below_size (by repeat (first | (with_reducible first | exact HB.out | apply below_alloc | apply pw_below_drewN | apply below_drew1 | refine below_set ?_ GE530.out | refine below_set ?_ GE549.out) | exact HB.out))))
            (case aL => have := LMc16.out; omega)
            intro v540 w33 ho hb hg hat
            rw [← Ny539.out] at ho
            have n0_ := Aside0.mk (blk_grown (g := gb530) (o := .cells #[.int .u32 a0_0, .int .u32 a0_1, .int .i64 a0_2, .int .i64 a0_3, .bool true, .slice A0_5 l0_5.length c0_5] 49 (0, 0)) (by (with_reducible repeat (first | refine blk_drewN ?_ _ | refine blk_drew ?_ | refine blk_alloc ?_ _)); exact BK530.out) hg (Kd.R_ne HO538.out BK530.out (by decide)))
            have n1_ := Aside0.mk (Kd.R_after (ok := (fun _ => True)) (by (with_reducible repeat (first | apply Kd.R_alloc | apply Kd.R_drewN | apply Kd.R_drew)); exact HO534.out) hg hat)
            have n2_ := Aside0.mk (blk_grown (g := gb549) (o := .cells #[.int .i64 0, .int .i64 0, .bool false, .slice none 0 0] 47 (0, 0)) (by (with_reducible repeat (first | refine blk_drewN ?_ _ | refine blk_drew ?_ | refine blk_alloc ?_ _)); exact BK549.out) hg (Kd.R_ne HO538.out BK549.out (by decide)))
            have n3_ := Aside0.mk (hb)
            have n4_ := Aside0.mk (ho)
            clear BK530
            clear HO534
            clear BK549
            clear HB
            clear HO538
            have BK530 := n0_
            have HO534 := n1_
            have BK549 := n2_
            have HB := n3_
            have HO541 := n4_
            clear n0_ n1_ n2_ n3_ n4_
            clear ho hb hg hat
            obtain ⟨Ao34, co34, eo34⟩ := Kd.R_slice HO541.out
            (first | subst eo34 | (injection eo34 with f1_ f2_ f3_; have f4_ := f1_.symm; have f5_ := f3_.symm; clear f1_ f2_ f3_; subst f4_; subst f5_))
            refine hK.out _ _ ⟨(blk_cell BK530.out 0).trans rfl, (blk_cell BK530.out 1).trans rfl, (blk_cell BK530.out 2).trans rfl, (blk_cell BK530.out 3).trans rfl, (blk_cell BK530.out 4).trans rfl, (blk_cell BK530.out 5).trans rfl⟩ (fun hHeld => ?_)
            clear hK K
            refine norm_ (a' := ?_) ?_ ?_
            rotate_left
            ·show Act.put _ (some 47) _ = _
             simp only [Act.put, List.setIfInBounds_toArray, List.set_cons_zero, List.set_cons_succ, i64_w, i32_w]
             rfl
            refine one_ (i := 8) (N := some 48) #[true, true, true, true, true, true, true, true, true, false, false, false, true, false, false] rfl rfl (one_of HT_.out (by kernel_rfl)) (by decide) (fun K hK => ?_)
            refine goes_ Try.func43 (by kernel_rfl) rfl #[.int .u32 a0_0, .int .u32 a0_1, .slice Ao34 y539.length co34] (by rfl) rfl rfl (by (try simp only [List.map_toArray, List.map_cons, List.map_nil]); first | done | rfl | (simp only [List.length_drop, List.length_take]; rfl)) ?_
            with_reducible refine (udp_Parse.calls kj5 a0_0 a0_1 _ _ y539 t542 t543 t544 t545 t548 _ ?side1 ?side2 A17.out).mono ?_
            (case side1 => repeat (first | exact (Kd.R_reads' HO541.out).2.2 | (with_reducible refine Kd.C_alloc ?_ _) | (with_reducible refine Kd.C_drewN ?_ _) | (with_reducible refine Kd.C_drew ?_)))
            (case side2 => exact (Kd.R_reads' HO541.out).2.1)
            rintro e w35 ⟨v546, rfl, ho0, hb⟩
            refine ⟨_, rfl, ?_⟩
            have n0_ := Aside0.mk (Kd.R_elder' (by (with_reducible repeat (first | apply Kd.R_alloc | apply Kd.R_drewN | apply Kd.R_drew)); exact HO534.out) (Kd.R_base ho0) hb)
            have n1_ := Aside0.mk (Kd.R_elder' (by (with_reducible repeat (first | apply Kd.R_alloc | apply Kd.R_drewN | apply Kd.R_drew)); exact HO541.out) (Kd.R_base ho0) hb)
            have n2_ := Aside0.mk (Kd.R_lower (Kd.R_new' (Kd.R_new' ho0 (Kd.R_lt (by (with_reducible repeat (first | apply Kd.R_alloc | apply Kd.R_drewN | apply Kd.R_drew)); exact HO534.out))) (Kd.R_lt (by (with_reducible repeat (first | apply Kd.R_alloc | apply Kd.R_drewN | apply Kd.R_drew)); exact HO541.out))) (below_size (by repeat (first | (with_reducible first | exact HB.out | apply below_alloc | apply pw_below_drewN | apply below_drew1 | refine below_set ?_ GE530.out | refine below_set ?_ GE549.out) | exact HB.out))))
            have n3_ := Aside0.mk (blk_below (g := gb530) (o := .cells #[.int .u32 a0_0, .int .u32 a0_1, .int .i64 a0_2, .int .i64 a0_3, .bool true, .slice A0_5 l0_5.length c0_5] 49 (0, 0)) (by (with_reducible repeat (first | refine blk_drewN ?_ _ | refine blk_drew ?_ | refine blk_alloc ?_ _)); exact BK530.out) hb)
            have n4_ := Aside0.mk (blk_below (g := gb549) (o := .cells #[.int .i64 0, .int .i64 0, .bool false, .slice none 0 0] 47 (0, 0)) (by (with_reducible repeat (first | refine blk_drewN ?_ _ | refine blk_drew ?_ | refine blk_alloc ?_ _)); exact BK549.out) hb)
            have n5_ := Aside0.mk (below_step (by repeat (first | (with_reducible first | exact HB.out | apply below_alloc | apply pw_below_drewN | apply below_drew1 | refine below_set ?_ GE530.out | refine below_set ?_ GE549.out) | exact HB.out)) hb)
            clear HO534
            clear HO541
            clear BK530
            clear BK549
            clear HB
            have HO534 := n0_
            have HO541 := n1_
            have HO547 := n2_
            have BK530 := n3_
            have BK549 := n4_
            have HB := n5_
            clear n0_ n1_ n2_ n3_ n4_ n5_
            (try clear hb)
            (try clear hb2)
            (try clear hk)
            (try clear hi)
            (try clear ho0)
            refine hK.out _ _ ⟨(blk_cell BK530.out 0).trans rfl, (blk_cell BK530.out 1).trans rfl, (blk_cell BK530.out 2).trans rfl, (blk_cell BK530.out 3).trans rfl, (blk_cell BK530.out 4).trans rfl, (blk_cell BK530.out 5).trans rfl⟩ (fun hHeld => ?_)
            clear hK K
            refine norm_ (a' := ?_) ?_ ?_
            rotate_left
            ·show Act.put _ (some 48) _ = _
             simp only [Act.put, List.setIfInBounds_toArray, List.set_cons_zero, List.set_cons_succ, i64_w, i32_w]
             rfl
            refine pure_ (i := 9) (N := some 39) (v := ?_) (a' := ?_) #[true, true, true, true, true, true, true, true, true, true, false, false, true, false, false] rfl rfl (any_of HT_.out (by kernel_rfl)) (fun _ _ _ h => h) (Or.inl ⟨by rfl, ?_⟩) ?_ ?_
            rotate_left
            ·intro w'
             go_simp
             with_reducible rfl
            rotate_left
            ·simp only [Act.put, List.setIfInBounds_toArray, List.set_cons_zero, List.set_cons_succ, i64_w, i32_w]
             rfl
            refine pure_ (i := 10) (N := some 49) (v := ?_) (a' := ?_) #[true, true, true, true, true, true, true, true, true, true, true, false, true, false, false] rfl rfl (any_of HT_.out (by kernel_rfl)) (fun _ _ _ h => h) (Or.inl ⟨by rfl, ?_⟩) ?_ ?_
            rotate_left
            ·intro w'
             go_simp
             with_reducible rfl
            rotate_left
            ·simp only [Act.put, List.setIfInBounds_toArray, List.set_cons_zero, List.set_cons_succ, i64_w, i32_w]
             rfl
            refine pure_ (i := 11) (N := some 50) (v := ?_) (a' := ?_) #[true, true, true, true, true, true, true, true, true, true, true, true, true, false, false] rfl rfl (any_of HT_.out (by kernel_rfl)) (fun _ _ _ h => h) (Or.inl ⟨by rfl, ?_⟩) ?_ ?_
            rotate_left
            ·intro w'
             go_simp
             with_reducible rfl
            rotate_left
            ·simp only [Act.put, List.setIfInBounds_toArray, List.set_cons_zero, List.set_cons_succ, i64_w, i32_w]
             rfl
            exact norm_ (by simp only [putAll, Act.put, List.setIfInBounds_toArray, List.set_cons_zero, List.set_cons_succ]) (hCont (v537, .slice Ao34 y539.length co34, v546, gb549) _ ⟨hHeld, (by (with_reducible repeat (first | apply Kd.R_alloc | apply Kd.R_drewN | apply Kd.R_drew)); exact Kd.R_mono HO534.out (fun _ hk => ⟨hk.1.2, hk.2⟩)), (by (with_reducible repeat (first | apply Kd.R_alloc | apply Kd.R_drewN | apply Kd.R_drew)); exact HO541.out), (by (with_reducible repeat (first | apply Kd.R_alloc | apply Kd.R_drewN | apply Kd.R_drew)); exact Kd.R_mono HO547.out (fun _ hk => ⟨hk.1.2, hk.2⟩)), (by (with_reducible repeat (first | refine blk_drewN ?_ _ | refine blk_drew ?_ | refine blk_alloc ?_ _)); exact BK530.out), (by (with_reducible repeat (first | refine blk_drewN ?_ _ | refine blk_drew ?_ | refine blk_alloc ?_ _)); exact BK549.out), GW549.out, GE549.out, NB530_549.out, NB549_530.out, (by repeat (first | (with_reducible first | exact HB.out | apply below_alloc | apply pw_below_drewN | apply below_drew1 | refine below_set ?_ GE530.out | refine below_set ?_ GE549.out) | exact HB.out))⟩)
          rintro ⟨v537, v540, v546, gb549⟩ w36 ⟨hS_, h0_, h1_, h2_, h3_, h4_, h5_, h6_, h7_, h8_, h9_⟩
          have n0_ : Aside0 (Kd.R (Kd.int .u8) 5 w36 w.heap.size (fun k_ => some k_ ≠ (v540 : Value).ownBlock ∧ some k_ ≠ (v546 : Value).ownBlock) (.slice Ao29 t532.length co29) t532) := ⟨h0_⟩
          have n1_ : Aside0 (Kd.R (Kd.int .u8) 5 w36 w.heap.size (fun k_ => some k_ ≠ (.slice Ao29 t532.length co29 : Value).ownBlock ∧ some k_ ≠ (v546 : Value).ownBlock) v540 y539) := ⟨h1_⟩
          have n2_ : Aside0 (Kd.R (Kd.int .u8) 5 w36 w.heap.size (fun k_ => some k_ ≠ (.slice Ao29 t532.length co29 : Value).ownBlock ∧ some k_ ≠ (v540 : Value).ownBlock) v546 t545) := ⟨h2_⟩
          have n3_ : Aside0 (w36.heap[gb530]? = some (.cells #[.int .u32 a0_0, .int .u32 a0_1, .int .i64 a0_2, .int .i64 a0_3, .bool true, .slice A0_5 l0_5.length c0_5] 49 (0, 0))) := ⟨h3_⟩
          have n4_ : Aside0 (w36.heap[gb549]? = some (.cells #[.int .i64 0, .int .i64 0, .bool false, .slice none 0 0] 47 (0, 0))) := ⟨h4_⟩
          have n5_ : Aside0 (w.heap.size ≤ gb549) := ⟨h5_⟩
          have n6_ : Aside0 (w.heap.size ≤ gb549) := ⟨h6_⟩
          have n7_ : Aside0 (gb530 ≠ gb549) := ⟨h7_⟩
          have n8_ : Aside0 (gb549 ≠ gb530) := ⟨h8_⟩
          have n9_ : Aside0 (Below w.heap.size w w36) := ⟨h9_⟩
          clear HO534
          clear BK530
          clear HB
          clear h0_ h1_ h2_ h3_ h4_ h5_ h6_ h7_ h8_ h9_
          have HO534 := n0_
          have HO541 := n1_
          have HO547 := n2_
          have BK530 := n3_
          have BK549 := n4_
          have GW549 := n5_
          have GE549 := n6_
          have NB530_549 := n7_
          have NB549_530 := n8_
          have HB := n9_
          clear n0_ n1_ n2_ n3_ n4_ n5_ n6_ n7_ n8_ n9_
          have hHeld : w36.cell? ⟨gb530, 0, none⟩ = some (.int .u32 a0_0) ∧ w36.cell? ⟨gb530, 1, none⟩ = some (.int .u32 a0_1) ∧ w36.cell? ⟨gb530, 2, none⟩ = some (.int .i64 a0_2) ∧ w36.cell? ⟨gb530, 3, none⟩ = some (.int .i64 a0_3) ∧ w36.cell? ⟨gb530, 4, none⟩ = some (.bool true) ∧ w36.cell? ⟨gb530, 5, none⟩ = some (.slice A0_5 l0_5.length c0_5) := hS_
          obtain ⟨Ao40, co40, eo40⟩ := Kd.R_slice HO547.out
          (first | subst eo40 | (injection eo40 with f1_ f2_ f3_; have f4_ := f1_.symm; have f5_ := f3_.symm; clear f1_ f2_ f3_; subst f4_; subst f5_))
          refine norm_ (a' := ?_) ?_ ?_
          rotate_left
          ·simp only [putAll, Act.put, List.setIfInBounds_toArray, List.set_cons_zero, List.set_cons_succ]
           rfl
          refine one_ (i := 13) (N := none) #[true, true, true, true, true, true, true, true, true, true, true, true, true, true, false] rfl rfl (one_of HT_.out (by kernel_rfl)) (by decide) (fun K hK => ?_)
          have hs37 : w36.cell? ⟨gb549, 0, none⟩ = some (.int .i64 0) := (blk_cell BK549.out 0).trans rfl
          have hfs37 := blk_frozen BK549.out 0
          have hns37_0 := NB530_549.out
          have hms37_0 := NB549_530.out
          have hs38 : w36.cell? ⟨gb549, 1, none⟩ = some (.int .i64 0) := (blk_cell BK549.out 1).trans rfl
          have hfs38 := blk_frozen BK549.out 1
          have hns38_0 := NB530_549.out
          have hms38_0 := NB549_530.out
          have hs39 : w36.cell? ⟨gb549, 2, none⟩ = some (.bool false) := (blk_cell BK549.out 2).trans rfl
          have hfs39 := blk_frozen BK549.out 2
          have hns39_0 := NB530_549.out
          have hms39_0 := NB549_530.out
          have hs41 : w36.cell? ⟨gb549, 3, none⟩ = some (.slice none 0 0) := (blk_cell BK549.out 3).trans rfl
          have hfs41 := blk_frozen BK549.out 3
          have hns41_0 := NB530_549.out
          have hms41_0 := NB549_530.out
          refine skip_ (w1 := ?_) (by rfl) rfl ?_ ?_
          rotate_left
          ·go_simp
           rfl
          refine hK.out _ _ ⟨((cell_far (p := ⟨gb549, _, none⟩) NB530_549.out _).trans (((cell_far (p := ⟨gb549, _, none⟩) NB530_549.out _).trans (((cell_far (p := ⟨gb549, _, none⟩) NB530_549.out _).trans (((cell_far (p := ⟨gb549, _, none⟩) NB530_549.out _).trans (hHeld.1)))))))), ((cell_far (p := ⟨gb549, _, none⟩) NB530_549.out _).trans (((cell_far (p := ⟨gb549, _, none⟩) NB530_549.out _).trans (((cell_far (p := ⟨gb549, _, none⟩) NB530_549.out _).trans (((cell_far (p := ⟨gb549, _, none⟩) NB530_549.out _).trans (hHeld.2.1)))))))), ((cell_far (p := ⟨gb549, _, none⟩) NB530_549.out _).trans (((cell_far (p := ⟨gb549, _, none⟩) NB530_549.out _).trans (((cell_far (p := ⟨gb549, _, none⟩) NB530_549.out _).trans (((cell_far (p := ⟨gb549, _, none⟩) NB530_549.out _).trans (hHeld.2.2.1)))))))), ((cell_far (p := ⟨gb549, _, none⟩) NB530_549.out _).trans (((cell_far (p := ⟨gb549, _, none⟩) NB530_549.out _).trans (((cell_far (p := ⟨gb549, _, none⟩) NB530_549.out _).trans (((cell_far (p := ⟨gb549, _, none⟩) NB530_549.out _).trans (hHeld.2.2.2.1)))))))), ((cell_far (p := ⟨gb549, _, none⟩) NB530_549.out _).trans (((cell_far (p := ⟨gb549, _, none⟩) NB530_549.out _).trans (((cell_far (p := ⟨gb549, _, none⟩) NB530_549.out _).trans (((cell_far (p := ⟨gb549, _, none⟩) NB530_549.out _).trans (hHeld.2.2.2.2.1)))))))), ((cell_far (p := ⟨gb549, _, none⟩) NB530_549.out _).trans (((cell_far (p := ⟨gb549, _, none⟩) NB530_549.out _).trans (((cell_far (p := ⟨gb549, _, none⟩) NB530_549.out _).trans (((cell_far (p := ⟨gb549, _, none⟩) NB530_549.out _).trans (hHeld.2.2.2.2.2))))))))⟩ (fun hHeld => ?_)
          clear hK K
          refine pure_ (i := 14) (N := some 10) (v := ?_) (a' := ?_) #[true, true, true, true, true, true, true, true, true, true, true, true, true, true, true] rfl rfl (any_of HT_.out (by kernel_rfl)) (fun _ _ _ h => h) (Or.inl ⟨by rfl, ?_⟩) ?_ ?_
          rotate_left
          ·intro w'
           go_simp
           with_reducible rfl
          rotate_left
          ·simp only [Act.put, List.setIfInBounds_toArray, List.set_cons_zero, List.set_cons_succ, i64_w, i32_w]
           rfl
          refine done_ (done_of HT_.out (by kernel_rfl)) ?_
          have hnb42 := NB530_549.out
          have hnc42 := NB549_530.out
          have hcz43_0 : w36.cell? ⟨gb530, 0, none⟩ = some (.int .u32 a0_0) := (blk_cell BK530.out 0).trans rfl
          have hcz43_1 : w36.cell? ⟨gb530, 1, none⟩ = some (.int .u32 a0_1) := (blk_cell BK530.out 1).trans rfl
          have hcz43_2 : w36.cell? ⟨gb530, 2, none⟩ = some (.int .i64 a0_2) := (blk_cell BK530.out 2).trans rfl
          have hcz43_3 : w36.cell? ⟨gb530, 3, none⟩ = some (.int .i64 a0_3) := (blk_cell BK530.out 3).trans rfl
          have hcz43_4 : w36.cell? ⟨gb530, 4, none⟩ = some (.bool true) := (blk_cell BK530.out 4).trans rfl
          have hcz43_5 : w36.cell? ⟨gb530, 5, none⟩ = some (.slice A0_5 l0_5.length c0_5) := (blk_cell BK530.out 5).trans rfl
          have hfz43_0 := blk_frozen BK530.out 0
          have hfz43_1 := blk_frozen BK530.out 1
          have hfz43_2 := blk_frozen BK530.out 2
          have hfz43_3 := blk_frozen BK530.out 3
          have hfz43_4 := blk_frozen BK530.out 4
          have hfz43_5 := blk_frozen BK530.out 5
          try go_wp2_with (first | ((with_reducible refine gate_callee (f := 43) rfl ?_); refine goesL_ (some 56) rfl rfl Try.func43 (by kernel_rfl) rfl #[.int .u32 a0_0, .int .u32 a2, .slice Ao29 t532.length co29] rfl (by (try simp only [List.map_toArray, List.map_cons, List.map_nil]); first | done | rfl | (simp only [List.length_drop, List.length_take]; rfl)) ?_; (with_reducible refine (udp_Parse.calls kj5 a0_0 a2 _ _ t532 t550 t551 t552 t553 t556 _ ?side1 ?side2 A18.out).mono ?_); (case side1 => refine (Kd.R_reads' (e := 5) (base := w.heap.size) (ok := fun k_ => (some k_ ≠ (v540 : Value).ownBlock ∧ some k_ ≠ (.slice Ao40 t545.length co40 : Value).ownBlock)) (n := t532.length) (c := co29) ?_).2.2; exact (by (with_reducible repeat (first | apply Kd.R_alloc | apply Kd.R_drewN | apply Kd.R_drew)); exact (Kd.R_mono (Kd.R_far (p := ⟨gb549, 3, none⟩) (Kd.R_far (p := ⟨gb549, 2, none⟩) (Kd.R_far (p := ⟨gb549, 1, none⟩) (Kd.R_far (p := ⟨gb549, 0, none⟩) (Kd.R_types HO534.out BK549.out (by decide)) (fun _ hk => hk.2) (.int .i64 t542)) (fun _ hk => hk.2) (.int .i64 t543)) (fun _ hk => hk.2) (.bool t544)) (fun _ hk => hk.2) (.slice Ao40 t545.length co40)) (fun _ h_ => h_.1)))); (case side2 => exact (Kd.R_reads' HO534.out).2.1); rintro e w44 ⟨v554, rfl, ho0, hb⟩; refine ⟨_, rfl, ?_⟩; have n0_ := Aside0.mk (Kd.R_elder' (by (with_reducible repeat (first | apply Kd.R_alloc | apply Kd.R_drewN | apply Kd.R_drew)); exact (Kd.R_mono (Kd.R_far (p := ⟨gb549, 3, none⟩) (Kd.R_far (p := ⟨gb549, 2, none⟩) (Kd.R_far (p := ⟨gb549, 1, none⟩) (Kd.R_far (p := ⟨gb549, 0, none⟩) (Kd.R_types HO534.out BK549.out (by decide)) (fun _ hk => hk.2) (.int .i64 t542)) (fun _ hk => hk.2) (.int .i64 t543)) (fun _ hk => hk.2) (.bool t544)) (fun _ hk => hk.2) (.slice Ao40 t545.length co40)) (fun _ h_ => h_.1))) (Kd.R_base ho0) hb); have n1_ := Aside0.mk (Kd.R_elder' (by (with_reducible repeat (first | apply Kd.R_alloc | apply Kd.R_drewN | apply Kd.R_drew)); exact (Kd.R_mono (Kd.R_far (p := ⟨gb549, 3, none⟩) (Kd.R_far (p := ⟨gb549, 2, none⟩) (Kd.R_far (p := ⟨gb549, 1, none⟩) (Kd.R_far (p := ⟨gb549, 0, none⟩) (Kd.R_types HO541.out BK549.out (by decide)) (fun _ hk => hk.2) (.int .i64 t542)) (fun _ hk => hk.2) (.int .i64 t543)) (fun _ hk => hk.2) (.bool t544)) (fun _ hk => hk.2) (.slice Ao40 t545.length co40)) (fun _ h_ => h_.1))) (Kd.R_base ho0) hb); have n2_ := Aside0.mk (Kd.R_elder' (by (with_reducible repeat (first | apply Kd.R_alloc | apply Kd.R_drewN | apply Kd.R_drew)); exact (Kd.R_mono (Kd.R_far (p := ⟨gb549, 3, none⟩) (Kd.R_far (p := ⟨gb549, 2, none⟩) (Kd.R_far (p := ⟨gb549, 1, none⟩) (Kd.R_far (p := ⟨gb549, 0, none⟩) (Kd.R_types HO547.out BK549.out (by decide)) (fun _ hk => hk.2) (.int .i64 t542)) (fun _ hk => hk.2) (.int .i64 t543)) (fun _ hk => hk.2) (.bool t544)) (fun _ hk => hk.2) (.slice Ao40 t545.length co40)) (fun _ h_ => h_.1))) (Kd.R_base ho0) hb); have n3_ := Aside0.mk (Kd.R_lower (Kd.R_new' (Kd.R_new' (Kd.R_new' ho0 (Kd.R_lt (by (with_reducible repeat (first | apply Kd.R_alloc | apply Kd.R_drewN | apply Kd.R_drew)); exact (Kd.R_mono (Kd.R_far (p := ⟨gb549, 3, none⟩) (Kd.R_far (p := ⟨gb549, 2, none⟩) (Kd.R_far (p := ⟨gb549, 1, none⟩) (Kd.R_far (p := ⟨gb549, 0, none⟩) (Kd.R_types HO534.out BK549.out (by decide)) (fun _ hk => hk.2) (.int .i64 t542)) (fun _ hk => hk.2) (.int .i64 t543)) (fun _ hk => hk.2) (.bool t544)) (fun _ hk => hk.2) (.slice Ao40 t545.length co40)) (fun _ h_ => h_.1))))) (Kd.R_lt (by (with_reducible repeat (first | apply Kd.R_alloc | apply Kd.R_drewN | apply Kd.R_drew)); exact (Kd.R_mono (Kd.R_far (p := ⟨gb549, 3, none⟩) (Kd.R_far (p := ⟨gb549, 2, none⟩) (Kd.R_far (p := ⟨gb549, 1, none⟩) (Kd.R_far (p := ⟨gb549, 0, none⟩) (Kd.R_types HO541.out BK549.out (by decide)) (fun _ hk => hk.2) (.int .i64 t542)) (fun _ hk => hk.2) (.int .i64 t543)) (fun _ hk => hk.2) (.bool t544)) (fun _ hk => hk.2) (.slice Ao40 t545.length co40)) (fun _ h_ => h_.1))))) (Kd.R_lt (by (with_reducible repeat (first | apply Kd.R_alloc | apply Kd.R_drewN | apply Kd.R_drew)); exact (Kd.R_mono (Kd.R_far (p := ⟨gb549, 3, none⟩) (Kd.R_far (p := ⟨gb549, 2, none⟩) (Kd.R_far (p := ⟨gb549, 1, none⟩) (Kd.R_far (p := ⟨gb549, 0, none⟩) (Kd.R_types HO547.out BK549.out (by decide)) (fun _ hk => hk.2) (.int .i64 t542)) (fun _ hk => hk.2) (.int .i64 t543)) (fun _ hk => hk.2) (.bool t544)) (fun _ hk => hk.2) (.slice Ao40 t545.length co40)) (fun _ h_ => h_.1))))) (below_size (by repeat (first | (with_reducible first | exact HB.out | apply below_alloc | apply pw_below_drewN | apply below_drew1 | refine below_set ?_ GE530.out | refine below_set ?_ GE549.out) | exact HB.out)))); have n4_ := Aside0.mk (blk_below (g := gb530) (o := .cells #[.int .u32 a0_0, .int .u32 a0_1, .int .i64 a0_2, .int .i64 a0_3, .bool true, .slice A0_5 l0_5.length c0_5] 49 (0, 0)) (by (with_reducible repeat (first | refine blk_drewN ?_ _ | refine blk_drew ?_ | refine blk_alloc ?_ _)); refine blk_far ?_ NB530_549.out _; (with_reducible repeat (first | refine blk_drewN ?_ _ | refine blk_drew ?_ | refine blk_alloc ?_ _)); refine blk_far ?_ NB530_549.out _; (with_reducible repeat (first | refine blk_drewN ?_ _ | refine blk_drew ?_ | refine blk_alloc ?_ _)); refine blk_far ?_ NB530_549.out _; (with_reducible repeat (first | refine blk_drewN ?_ _ | refine blk_drew ?_ | refine blk_alloc ?_ _)); refine blk_far ?_ NB530_549.out _; (with_reducible repeat (first | refine blk_drewN ?_ _ | refine blk_drew ?_ | refine blk_alloc ?_ _)); exact BK530.out) hb); have n5_ := Aside0.mk (blk_below (g := gb549) (o := .cells #[.int .i64 t542, .int .i64 t543, .bool t544, .slice Ao40 t545.length co40] 47 (0, 0)) (by (with_reducible repeat (first | refine blk_drewN ?_ _ | refine blk_drew ?_ | refine blk_alloc ?_ _)); refine blk_put (cs := #[.int .i64 t542, .int .i64 t543, .bool t544, .slice none 0 0]) ?_ 3 _ rfl; (with_reducible repeat (first | refine blk_drewN ?_ _ | refine blk_drew ?_ | refine blk_alloc ?_ _)); refine blk_put (cs := #[.int .i64 t542, .int .i64 t543, .bool false, .slice none 0 0]) ?_ 2 _ rfl; (with_reducible repeat (first | refine blk_drewN ?_ _ | refine blk_drew ?_ | refine blk_alloc ?_ _)); refine blk_put (cs := #[.int .i64 t542, .int .i64 0, .bool false, .slice none 0 0]) ?_ 1 _ rfl; (with_reducible repeat (first | refine blk_drewN ?_ _ | refine blk_drew ?_ | refine blk_alloc ?_ _)); refine blk_put (cs := #[.int .i64 0, .int .i64 0, .bool false, .slice none 0 0]) ?_ 0 _ rfl; (with_reducible repeat (first | refine blk_drewN ?_ _ | refine blk_drew ?_ | refine blk_alloc ?_ _)); exact BK549.out) hb); have n6_ := Aside0.mk (below_step (by repeat (first | (with_reducible first | exact HB.out | apply below_alloc | apply pw_below_drewN | apply below_drew1 | refine below_set ?_ GE530.out | refine below_set ?_ GE549.out) | exact HB.out)) hb); clear HO534; clear HO541; clear HO547; clear BK530; clear BK549; clear HB; have HO534 := n0_; have HO541 := n1_; have HO547 := n2_; have HO555 := n3_; have BK530 := n4_; have BK549 := n5_; have HB := n6_; clear n0_ n1_ n2_ n3_ n4_ n5_ n6_; (try clear hb); (try clear hb2); (try clear hk); (try clear hi); (try clear ho0)) | ((with_reducible refine gate_dst (N := 11) rfl ?_); (try (refine gate_guard (by rfl) ?_; dsimp only)); refine box_event ?hg (N := 11) ?hd (cs := #[.int .i64 0, .int .i64 0, .bool false, .slice none 0 0]) (t := 47) ?hr ?_; (case hd => rfl); (case hg => rfl); (case hr => first | (go_simp; done) | (go_simp; rfl)); intro gb557 hg w45 hbox hb; have n0_ := Aside0.mk (Kd.R_below (by (with_reducible repeat (first | apply Kd.R_alloc | apply Kd.R_drewN | apply Kd.R_drew)); exact HO534.out) hb); have n1_ := Aside0.mk (Kd.R_below (by (with_reducible repeat (first | apply Kd.R_alloc | apply Kd.R_drewN | apply Kd.R_drew)); exact HO541.out) hb); have n2_ := Aside0.mk (Kd.R_below (by (with_reducible repeat (first | apply Kd.R_alloc | apply Kd.R_drewN | apply Kd.R_drew)); exact HO547.out) hb); have n3_ := Aside0.mk (Kd.R_below (by (with_reducible repeat (first | apply Kd.R_alloc | apply Kd.R_drewN | apply Kd.R_drew)); exact HO555.out) hb); have n4_ := Aside0.mk (blk_below (g := gb530) (o := .cells #[.int .u32 a0_0, .int .u32 a0_1, .int .i64 a0_2, .int .i64 a0_3, .bool true, .slice A0_5 l0_5.length c0_5] 49 (0, 0)) (by (with_reducible repeat (first | refine blk_drewN ?_ _ | refine blk_drew ?_ | refine blk_alloc ?_ _)); exact BK530.out) hb); have n5_ := Aside0.mk (blk_below (g := gb549) (o := .cells #[.int .i64 t542, .int .i64 t543, .bool t544, .slice Ao40 t545.length co40] 47 (0, 0)) (by (with_reducible repeat (first | refine blk_drewN ?_ _ | refine blk_drew ?_ | refine blk_alloc ?_ _)); exact BK549.out) hb); have n6_ := Aside0.mk (below_step (by repeat (first | (with_reducible first | exact HB.out | apply below_alloc | apply pw_below_drewN | apply below_drew1 | refine below_set ?_ GE530.out | refine below_set ?_ GE549.out) | exact HB.out)) hb); have n7_ := Aside0.mk (hbox); have n8_ := Aside0.mk ((by rw [hg]; exact (below_size (by repeat (first | (with_reducible first | exact HB.out | apply below_alloc | apply pw_below_drewN | apply below_drew1 | refine below_set ?_ GE530.out | refine below_set ?_ GE549.out) | exact HB.out))) : w.heap.size ≤ gb557)); have n9_ := Aside0.mk ((by rw [hg]; exact (below_size (by repeat (first | (with_reducible first | exact HB.out | apply below_alloc | apply pw_below_drewN | apply below_drew1 | refine below_set ?_ GE530.out | refine below_set ?_ GE549.out) | exact HB.out))) : w.heap.size ≤ gb557)); have n10_ := Aside0.mk ((by rw [hg]; exact Nat.ne_of_lt (blk_lt (g := gb530) (o := .cells #[.int .u32 a0_0, .int .u32 a0_1, .int .i64 a0_2, .int .i64 a0_3, .bool true, .slice A0_5 l0_5.length c0_5] 49 (0, 0)) (by (with_reducible repeat (first | refine blk_drewN ?_ _ | refine blk_drew ?_ | refine blk_alloc ?_ _)); exact BK530.out)) : gb530 ≠ gb557)); have n11_ := Aside0.mk ((by rw [hg]; exact Nat.ne_of_gt (blk_lt (g := gb530) (o := .cells #[.int .u32 a0_0, .int .u32 a0_1, .int .i64 a0_2, .int .i64 a0_3, .bool true, .slice A0_5 l0_5.length c0_5] 49 (0, 0)) (by (with_reducible repeat (first | refine blk_drewN ?_ _ | refine blk_drew ?_ | refine blk_alloc ?_ _)); exact BK530.out)) : gb557 ≠ gb530)); have n12_ := Aside0.mk ((by rw [hg]; exact Nat.ne_of_lt (blk_lt (g := gb549) (o := .cells #[.int .i64 t542, .int .i64 t543, .bool t544, .slice Ao40 t545.length co40] 47 (0, 0)) (by (with_reducible repeat (first | refine blk_drewN ?_ _ | refine blk_drew ?_ | refine blk_alloc ?_ _)); exact BK549.out)) : gb549 ≠ gb557)); have n13_ := Aside0.mk ((by rw [hg]; exact Nat.ne_of_gt (blk_lt (g := gb549) (o := .cells #[.int .i64 t542, .int .i64 t543, .bool t544, .slice Ao40 t545.length co40] 47 (0, 0)) (by (with_reducible repeat (first | refine blk_drewN ?_ _ | refine blk_drew ?_ | refine blk_alloc ?_ _)); exact BK549.out)) : gb557 ≠ gb549)); clear HO534; clear HO541; clear HO547; clear HO555; clear BK530; clear BK549; clear HB; have HO534 := n0_; have HO541 := n1_; have HO547 := n2_; have HO555 := n3_; have BK530 := n4_; have BK549 := n5_; have HB := n6_; have BK557 := n7_; have GW557 := n8_; have GE557 := n9_; have NB530_557 := n10_; have NB557_530 := n11_; have NB549_557 := n12_; have NB557_549 := n13_; clear n0_ n1_ n2_ n3_ n4_ n5_ n6_ n7_ n8_ n9_ n10_ n11_ n12_ n13_; clear hb hbox hg; have hnb46 := NB557_530.out; have hnc46 := NB530_557.out; have hnb47 := NB557_549.out; have hnc47 := NB549_557.out; have hcz48_0 : w45.cell? ⟨gb557, 0, none⟩ = some (.int .i64 0) := (blk_cell BK557.out 0).trans rfl; have hcz48_1 : w45.cell? ⟨gb557, 1, none⟩ = some (.int .i64 0) := (blk_cell BK557.out 1).trans rfl; have hcz48_2 : w45.cell? ⟨gb557, 2, none⟩ = some (.bool false) := (blk_cell BK557.out 2).trans rfl; have hcz48_3 : w45.cell? ⟨gb557, 3, none⟩ = some (.slice none 0 0) := (blk_cell BK557.out 3).trans rfl; have hfz48_0 := blk_frozen BK557.out 0; have hfz48_1 := blk_frozen BK557.out 1; have hfz48_2 := blk_frozen BK557.out 2; have hfz48_3 := blk_frozen BK557.out 3; obtain ⟨Ao49, co49, eo49⟩ := Kd.R_slice HO555.out; subst eo49; have hcz50_0 : w45.cell? ⟨gb530, 0, none⟩ = some (.int .u32 a0_0) := (blk_cell BK530.out 0).trans rfl; have hcz50_1 : w45.cell? ⟨gb530, 1, none⟩ = some (.int .u32 a0_1) := (blk_cell BK530.out 1).trans rfl; have hcz50_2 : w45.cell? ⟨gb530, 2, none⟩ = some (.int .i64 a0_2) := (blk_cell BK530.out 2).trans rfl; have hcz50_3 : w45.cell? ⟨gb530, 3, none⟩ = some (.int .i64 a0_3) := (blk_cell BK530.out 3).trans rfl; have hcz50_4 : w45.cell? ⟨gb530, 4, none⟩ = some (.bool true) := (blk_cell BK530.out 4).trans rfl; have hcz50_5 : w45.cell? ⟨gb530, 5, none⟩ = some (.slice A0_5 l0_5.length c0_5) := (blk_cell BK530.out 5).trans rfl; have hfz50_0 := blk_frozen BK530.out 0; have hfz50_1 := blk_frozen BK530.out 1; have hfz50_2 := blk_frozen BK530.out 2; have hfz50_3 := blk_frozen BK530.out 3; have hfz50_4 := blk_frozen BK530.out 4; have hfz50_5 := blk_frozen BK530.out 5) | ((with_reducible refine gate_callee (f := 41) rfl ?_); refine goesL_ (some 65) rfl rfl Try.func41 (by kernel_rfl) rfl #[.int .u32 a0_0, .int .u32 a0_1, .int .i64 17, .int .i64 (t532.length : Int)] rfl (by (try simp only [List.map_toArray, List.map_cons, List.map_nil]); first | done | rfl | (simp only [List.length_drop, List.length_take]; rfl)) ?_; (with_reducible refine (udp_Pseudo.calls kj5 a0_0 a0_1 17 (t532.length : Int) t558 _ A19.out).mono ?_); rintro e w51 ⟨v559, rfl, ho0, hb⟩; refine ⟨_, rfl, ?_⟩; have n0_ := Aside0.mk (Kd.R_elder' (by (with_reducible repeat (first | apply Kd.R_alloc | apply Kd.R_drewN | apply Kd.R_drew)); exact (Kd.R_mono (Kd.R_far (p := ⟨gb557, 3, none⟩) (Kd.R_far (p := ⟨gb557, 2, none⟩) (Kd.R_far (p := ⟨gb557, 1, none⟩) (Kd.R_far (p := ⟨gb557, 0, none⟩) (Kd.R_types HO534.out BK557.out (by decide)) (fun _ hk => hk.2) (.int .i64 t550)) (fun _ hk => hk.2) (.int .i64 t551)) (fun _ hk => hk.2) (.bool t552)) (fun _ hk => hk.2) (.slice Ao49 t553.length co49)) (fun _ h_ => h_.1))) (Kd.R_base ho0) hb); have n1_ := Aside0.mk (Kd.R_elder' (by (with_reducible repeat (first | apply Kd.R_alloc | apply Kd.R_drewN | apply Kd.R_drew)); exact (Kd.R_mono (Kd.R_far (p := ⟨gb557, 3, none⟩) (Kd.R_far (p := ⟨gb557, 2, none⟩) (Kd.R_far (p := ⟨gb557, 1, none⟩) (Kd.R_far (p := ⟨gb557, 0, none⟩) (Kd.R_types HO541.out BK557.out (by decide)) (fun _ hk => hk.2) (.int .i64 t550)) (fun _ hk => hk.2) (.int .i64 t551)) (fun _ hk => hk.2) (.bool t552)) (fun _ hk => hk.2) (.slice Ao49 t553.length co49)) (fun _ h_ => h_.1))) (Kd.R_base ho0) hb); have n2_ := Aside0.mk (Kd.R_elder' (by (with_reducible repeat (first | apply Kd.R_alloc | apply Kd.R_drewN | apply Kd.R_drew)); exact (Kd.R_mono (Kd.R_far (p := ⟨gb557, 3, none⟩) (Kd.R_far (p := ⟨gb557, 2, none⟩) (Kd.R_far (p := ⟨gb557, 1, none⟩) (Kd.R_far (p := ⟨gb557, 0, none⟩) (Kd.R_types HO547.out BK557.out (by decide)) (fun _ hk => hk.2) (.int .i64 t550)) (fun _ hk => hk.2) (.int .i64 t551)) (fun _ hk => hk.2) (.bool t552)) (fun _ hk => hk.2) (.slice Ao49 t553.length co49)) (fun _ h_ => h_.1))) (Kd.R_base ho0) hb); have n3_ := Aside0.mk (Kd.R_elder' (by (with_reducible repeat (first | apply Kd.R_alloc | apply Kd.R_drewN | apply Kd.R_drew)); exact (Kd.R_mono (Kd.R_far (p := ⟨gb557, 3, none⟩) (Kd.R_far (p := ⟨gb557, 2, none⟩) (Kd.R_far (p := ⟨gb557, 1, none⟩) (Kd.R_far (p := ⟨gb557, 0, none⟩) (Kd.R_types HO555.out BK557.out (by decide)) (fun _ hk => hk.2) (.int .i64 t550)) (fun _ hk => hk.2) (.int .i64 t551)) (fun _ hk => hk.2) (.bool t552)) (fun _ hk => hk.2) (.slice Ao49 t553.length co49)) (fun _ h_ => h_.1))) (Kd.R_base ho0) hb); have n4_ := Aside0.mk (Kd.R_lower (Kd.R_new' (Kd.R_new' (Kd.R_new' (Kd.R_new' ho0 (Kd.R_lt (by (with_reducible repeat (first | apply Kd.R_alloc | apply Kd.R_drewN | apply Kd.R_drew)); exact (Kd.R_mono (Kd.R_far (p := ⟨gb557, 3, none⟩) (Kd.R_far (p := ⟨gb557, 2, none⟩) (Kd.R_far (p := ⟨gb557, 1, none⟩) (Kd.R_far (p := ⟨gb557, 0, none⟩) (Kd.R_types HO534.out BK557.out (by decide)) (fun _ hk => hk.2) (.int .i64 t550)) (fun _ hk => hk.2) (.int .i64 t551)) (fun _ hk => hk.2) (.bool t552)) (fun _ hk => hk.2) (.slice Ao49 t553.length co49)) (fun _ h_ => h_.1))))) (Kd.R_lt (by (with_reducible repeat (first | apply Kd.R_alloc | apply Kd.R_drewN | apply Kd.R_drew)); exact (Kd.R_mono (Kd.R_far (p := ⟨gb557, 3, none⟩) (Kd.R_far (p := ⟨gb557, 2, none⟩) (Kd.R_far (p := ⟨gb557, 1, none⟩) (Kd.R_far (p := ⟨gb557, 0, none⟩) (Kd.R_types HO541.out BK557.out (by decide)) (fun _ hk => hk.2) (.int .i64 t550)) (fun _ hk => hk.2) (.int .i64 t551)) (fun _ hk => hk.2) (.bool t552)) (fun _ hk => hk.2) (.slice Ao49 t553.length co49)) (fun _ h_ => h_.1))))) (Kd.R_lt (by (with_reducible repeat (first | apply Kd.R_alloc | apply Kd.R_drewN | apply Kd.R_drew)); exact (Kd.R_mono (Kd.R_far (p := ⟨gb557, 3, none⟩) (Kd.R_far (p := ⟨gb557, 2, none⟩) (Kd.R_far (p := ⟨gb557, 1, none⟩) (Kd.R_far (p := ⟨gb557, 0, none⟩) (Kd.R_types HO547.out BK557.out (by decide)) (fun _ hk => hk.2) (.int .i64 t550)) (fun _ hk => hk.2) (.int .i64 t551)) (fun _ hk => hk.2) (.bool t552)) (fun _ hk => hk.2) (.slice Ao49 t553.length co49)) (fun _ h_ => h_.1))))) (Kd.R_lt (by (with_reducible repeat (first | apply Kd.R_alloc | apply Kd.R_drewN | apply Kd.R_drew)); exact (Kd.R_mono (Kd.R_far (p := ⟨gb557, 3, none⟩) (Kd.R_far (p := ⟨gb557, 2, none⟩) (Kd.R_far (p := ⟨gb557, 1, none⟩) (Kd.R_far (p := ⟨gb557, 0, none⟩) (Kd.R_types HO555.out BK557.out (by decide)) (fun _ hk => hk.2) (.int .i64 t550)) (fun _ hk => hk.2) (.int .i64 t551)) (fun _ hk => hk.2) (.bool t552)) (fun _ hk => hk.2) (.slice Ao49 t553.length co49)) (fun _ h_ => h_.1))))) (below_size (by repeat (first | (with_reducible first | exact HB.out | apply below_alloc | apply pw_below_drewN | apply below_drew1 | refine below_set ?_ GE530.out | refine below_set ?_ GE549.out | refine below_set ?_ GE557.out) | exact HB.out)))); have n5_ := Aside0.mk (blk_below (g := gb530) (o := .cells #[.int .u32 a0_0, .int .u32 a0_1, .int .i64 a0_2, .int .i64 a0_3, .bool true, .slice A0_5 l0_5.length c0_5] 49 (0, 0)) (by (with_reducible repeat (first | refine blk_drewN ?_ _ | refine blk_drew ?_ | refine blk_alloc ?_ _)); refine blk_far ?_ NB530_557.out _; (with_reducible repeat (first | refine blk_drewN ?_ _ | refine blk_drew ?_ | refine blk_alloc ?_ _)); refine blk_far ?_ NB530_557.out _; (with_reducible repeat (first | refine blk_drewN ?_ _ | refine blk_drew ?_ | refine blk_alloc ?_ _)); refine blk_far ?_ NB530_557.out _; (with_reducible repeat (first | refine blk_drewN ?_ _ | refine blk_drew ?_ | refine blk_alloc ?_ _)); refine blk_far ?_ NB530_557.out _; (with_reducible repeat (first | refine blk_drewN ?_ _ | refine blk_drew ?_ | refine blk_alloc ?_ _)); exact BK530.out) hb); have n6_ := Aside0.mk (blk_below (g := gb549) (o := .cells #[.int .i64 t542, .int .i64 t543, .bool t544, .slice Ao40 t545.length co40] 47 (0, 0)) (by (with_reducible repeat (first | refine blk_drewN ?_ _ | refine blk_drew ?_ | refine blk_alloc ?_ _)); refine blk_far ?_ NB549_557.out _; (with_reducible repeat (first | refine blk_drewN ?_ _ | refine blk_drew ?_ | refine blk_alloc ?_ _)); refine blk_far ?_ NB549_557.out _; (with_reducible repeat (first | refine blk_drewN ?_ _ | refine blk_drew ?_ | refine blk_alloc ?_ _)); refine blk_far ?_ NB549_557.out _; (with_reducible repeat (first | refine blk_drewN ?_ _ | refine blk_drew ?_ | refine blk_alloc ?_ _)); refine blk_far ?_ NB549_557.out _; (with_reducible repeat (first | refine blk_drewN ?_ _ | refine blk_drew ?_ | refine blk_alloc ?_ _)); exact BK549.out) hb); have n7_ := Aside0.mk (blk_below (g := gb557) (o := .cells #[.int .i64 t550, .int .i64 t551, .bool t552, .slice Ao49 t553.length co49] 47 (0, 0)) (by (with_reducible repeat (first | refine blk_drewN ?_ _ | refine blk_drew ?_ | refine blk_alloc ?_ _)); refine blk_put (cs := #[.int .i64 t550, .int .i64 t551, .bool t552, .slice none 0 0]) ?_ 3 _ rfl; (with_reducible repeat (first | refine blk_drewN ?_ _ | refine blk_drew ?_ | refine blk_alloc ?_ _)); refine blk_put (cs := #[.int .i64 t550, .int .i64 t551, .bool false, .slice none 0 0]) ?_ 2 _ rfl; (with_reducible repeat (first | refine blk_drewN ?_ _ | refine blk_drew ?_ | refine blk_alloc ?_ _)); refine blk_put (cs := #[.int .i64 t550, .int .i64 0, .bool false, .slice none 0 0]) ?_ 1 _ rfl; (with_reducible repeat (first | refine blk_drewN ?_ _ | refine blk_drew ?_ | refine blk_alloc ?_ _)); refine blk_put (cs := #[.int .i64 0, .int .i64 0, .bool false, .slice none 0 0]) ?_ 0 _ rfl; (with_reducible repeat (first | refine blk_drewN ?_ _ | refine blk_drew ?_ | refine blk_alloc ?_ _)); exact BK557.out) hb); have n8_ := Aside0.mk (below_step (by repeat (first | (with_reducible first | exact HB.out | apply below_alloc | apply pw_below_drewN | apply below_drew1 | refine below_set ?_ GE530.out | refine below_set ?_ GE549.out | refine below_set ?_ GE557.out) | exact HB.out)) hb); clear HO534; clear HO541; clear HO547; clear HO555; clear BK530; clear BK549; clear BK557; clear HB; have HO534 := n0_; have HO541 := n1_; have HO547 := n2_; have HO555 := n3_; have HO560 := n4_; have BK530 := n5_; have BK549 := n6_; have BK557 := n7_; have HB := n8_; clear n0_ n1_ n2_ n3_ n4_ n5_ n6_ n7_ n8_; (try clear hb); (try clear hb2); (try clear hk); (try clear hi); (try clear ho0); obtain ⟨Ao52, co52, eo52⟩ := Kd.R_slice HO560.out; subst eo52) | ((with_reducible refine gate_dst (N := 66) rfl ?_); (try (refine gate_guard (by rfl) ?_; dsimp only)); refine Kd.N_lit (Kd.slice 5 (Kd.int .u8)) _ 22 ?hg (N' := 66) ?hd (xs := ([t558] : List (List Int))) (inner := [.slice Ao52 t558.length co52]) (ok := fun _ => True) (okp := fun _ => True) ?hr ?hp (fun _ _ => trivial) trivial (Below.refl _ _) (Nat.le_refl _) (by simp) ?_; (case hd => rfl); (case hg => rfl); (case hr => first | (go_simp; done) | (go_simp; rfl)); (case hp => exact (Reps.one (show Kd.FK (Kd.slice 5 (Kd.int .u8)) _ _ t558 [.slice Ao52 t558.length co52] from Kd.FK_slice_mk (by exact (Kd.R_reads' HO560.out).2.1) (Kd.F_mono (Kd.C_F (Kd.heap_int .u8) (by repeat (first | exact (Kd.R_reads' HO560.out).2.2 | (with_reducible refine Kd.C_alloc ?_ _) | (with_reducible refine Kd.C_drewN ?_ _) | (with_reducible refine Kd.C_drew ?_)))) (fun _ _ => trivial))) (Reps.none _ _))); intro vl564 w53 ho hb hg_ hnew_; clear hg_ hnew_; (first | rw [← Ny561.out] at ho | (simp only [Int.reduceToNat] at ho; rw [← Ny561.out] at ho)); obtain ⟨Al564, cl564, el564⟩ := Kd.N_slice ho; subst el564; have hr := (Kd.N_reads' ho).2.2; have hl := (Kd.N_reads' ho).2.1; clear ho; have n0_ := Aside0.mk (Kd.R_below (by (with_reducible repeat (first | apply Kd.R_alloc | apply Kd.R_drewN | apply Kd.R_drew)); exact HO534.out) hb); have n1_ := Aside0.mk (Kd.R_below (by (with_reducible repeat (first | apply Kd.R_alloc | apply Kd.R_drewN | apply Kd.R_drew)); exact HO541.out) hb); have n2_ := Aside0.mk (Kd.R_below (by (with_reducible repeat (first | apply Kd.R_alloc | apply Kd.R_drewN | apply Kd.R_drew)); exact HO547.out) hb); have n3_ := Aside0.mk (Kd.R_below (by (with_reducible repeat (first | apply Kd.R_alloc | apply Kd.R_drewN | apply Kd.R_drew)); exact HO555.out) hb); have n4_ := Aside0.mk (Kd.R_below (by (with_reducible repeat (first | apply Kd.R_alloc | apply Kd.R_drewN | apply Kd.R_drew)); exact HO560.out) hb); have n5_ := Aside0.mk (blk_below (g := gb530) (o := .cells #[.int .u32 a0_0, .int .u32 a0_1, .int .i64 a0_2, .int .i64 a0_3, .bool true, .slice A0_5 l0_5.length c0_5] 49 (0, 0)) (by (with_reducible repeat (first | refine blk_drewN ?_ _ | refine blk_drew ?_ | refine blk_alloc ?_ _)); exact BK530.out) hb); have n6_ := Aside0.mk (blk_below (g := gb549) (o := .cells #[.int .i64 t542, .int .i64 t543, .bool t544, .slice Ao40 t545.length co40] 47 (0, 0)) (by (with_reducible repeat (first | refine blk_drewN ?_ _ | refine blk_drew ?_ | refine blk_alloc ?_ _)); exact BK549.out) hb); have n7_ := Aside0.mk (blk_below (g := gb557) (o := .cells #[.int .i64 t550, .int .i64 t551, .bool t552, .slice Ao49 t553.length co49] 47 (0, 0)) (by (with_reducible repeat (first | refine blk_drewN ?_ _ | refine blk_drew ?_ | refine blk_alloc ?_ _)); exact BK557.out) hb); have n8_ := Aside0.mk (below_step (by repeat (first | (with_reducible first | exact HB.out | apply below_alloc | apply pw_below_drewN | apply below_drew1 | refine below_set ?_ GE530.out | refine below_set ?_ GE549.out | refine below_set ?_ GE557.out) | exact HB.out)) hb); have n9_ := Aside0.mk (hr); have n10_ := Aside0.mk (hl); clear HO534; clear HO541; clear HO547; clear HO555; clear HO560; clear BK530; clear BK549; clear BK557; clear HB; have HO534 := n0_; have HO541 := n1_; have HO547 := n2_; have HO555 := n3_; have HO560 := n4_; have BK530 := n5_; have BK549 := n6_; have BK557 := n7_; have HB := n8_; have HRl564 := n9_; have HCl564 := n10_; clear n0_ n1_ n2_ n3_ n4_ n5_ n6_ n7_ n8_ n9_ n10_; clear hb hr hl; have n_ := Aside0.mk (Kd.R_mono (ok' := (fun k_ => some k_ ≠ (v540 : Value).ownBlock ∧ some k_ ≠ (.slice Ao40 t545.length co40 : Value).ownBlock ∧ some k_ ≠ (.slice Ao49 t553.length co49 : Value).ownBlock ∧ some k_ ≠ (.slice Ao52 t558.length co52 : Value).ownBlock)) HO534.out (fun k_ hk => ⟨hk.1.1.1, ⟨hk.1.1.2, ⟨hk.1.2, hk.2⟩⟩⟩)); clear HO534; have HO534 := n_; clear n_; have n_ := Aside0.mk (Kd.R_mono (ok' := (fun k_ => some k_ ≠ (.slice Ao29 t532.length co29 : Value).ownBlock ∧ some k_ ≠ (.slice Ao40 t545.length co40 : Value).ownBlock ∧ some k_ ≠ (.slice Ao49 t553.length co49 : Value).ownBlock ∧ some k_ ≠ (.slice Ao52 t558.length co52 : Value).ownBlock)) HO541.out (fun k_ hk => ⟨hk.1.1.1, ⟨hk.1.1.2, ⟨hk.1.2, hk.2⟩⟩⟩)); clear HO541; have HO541 := n_; clear n_; have n_ := Aside0.mk (Kd.R_mono (ok' := (fun k_ => some k_ ≠ (.slice Ao29 t532.length co29 : Value).ownBlock ∧ some k_ ≠ (v540 : Value).ownBlock ∧ some k_ ≠ (.slice Ao49 t553.length co49 : Value).ownBlock ∧ some k_ ≠ (.slice Ao52 t558.length co52 : Value).ownBlock)) HO547.out (fun k_ hk => ⟨hk.1.1.1, ⟨hk.1.1.2, ⟨hk.1.2, hk.2⟩⟩⟩)); clear HO547; have HO547 := n_; clear n_; have n_ := Aside0.mk (Kd.R_mono (ok' := (fun k_ => some k_ ≠ (.slice Ao29 t532.length co29 : Value).ownBlock ∧ some k_ ≠ (v540 : Value).ownBlock ∧ some k_ ≠ (.slice Ao40 t545.length co40 : Value).ownBlock ∧ some k_ ≠ (.slice Ao52 t558.length co52 : Value).ownBlock)) HO555.out (fun k_ hk => ⟨hk.1.1.1.2, ⟨hk.1.1.2, ⟨hk.1.2, hk.2⟩⟩⟩)); clear HO555; have HO555 := n_; clear n_; have n_ := Aside0.mk (Kd.R_mono (ok' := (fun k_ => some k_ ≠ (.slice Ao29 t532.length co29 : Value).ownBlock ∧ some k_ ≠ (v540 : Value).ownBlock ∧ some k_ ≠ (.slice Ao40 t545.length co40 : Value).ownBlock ∧ some k_ ≠ (.slice Ao49 t553.length co49 : Value).ownBlock)) HO560.out (fun k_ hk => ⟨hk.1.1.1.2, ⟨hk.1.1.2, ⟨hk.1.2, hk.2⟩⟩⟩)); clear HO560; have HO560 := n_; clear n_) | ((with_reducible refine gate_callee (f := 26) rfl ?_); refine goesL_ (some 67) rfl rfl Try.func26 (by kernel_rfl) rfl #[.slice Al564 y561.length cl564] rfl (by (try simp only [List.map_toArray, List.map_cons, List.map_nil]); first | done | rfl | (simp only [List.length_drop, List.length_take]; rfl)) ?_; (with_reducible refine (octet_Sum.calls _ _ y561 t565 _ ?side1 ?side2 A20.out).mono ?_); (case side1 => repeat (first | exact (by repeat (first | (with_reducible exact HRl564.out) | (with_reducible refine Kd.C_alloc ?_ _) | (with_reducible refine Kd.C_drewN ?_ _) | (with_reducible refine Kd.C_drew ?_) | exact HRl564.out)) | (with_reducible refine Kd.C_alloc ?_ _) | (with_reducible refine Kd.C_drewN ?_ _) | (with_reducible refine Kd.C_drew ?_))); (case side2 => exact HCl564.out); rintro e w54 ⟨rfl, hb⟩; refine ⟨_, rfl, ?_⟩; have n0_ := Aside0.mk (Kd.R_below (by (with_reducible repeat (first | apply Kd.R_alloc | apply Kd.R_drewN | apply Kd.R_drew)); exact HO534.out) hb); have n1_ := Aside0.mk (Kd.R_below (by (with_reducible repeat (first | apply Kd.R_alloc | apply Kd.R_drewN | apply Kd.R_drew)); exact HO541.out) hb); have n2_ := Aside0.mk (Kd.R_below (by (with_reducible repeat (first | apply Kd.R_alloc | apply Kd.R_drewN | apply Kd.R_drew)); exact HO547.out) hb); have n3_ := Aside0.mk (Kd.R_below (by (with_reducible repeat (first | apply Kd.R_alloc | apply Kd.R_drewN | apply Kd.R_drew)); exact HO555.out) hb); have n4_ := Aside0.mk (Kd.R_below (by (with_reducible repeat (first | apply Kd.R_alloc | apply Kd.R_drewN | apply Kd.R_drew)); exact HO560.out) hb); have n5_ := Aside0.mk (blk_below (g := gb530) (o := .cells #[.int .u32 a0_0, .int .u32 a0_1, .int .i64 a0_2, .int .i64 a0_3, .bool true, .slice A0_5 l0_5.length c0_5] 49 (0, 0)) (by (with_reducible repeat (first | refine blk_drewN ?_ _ | refine blk_drew ?_ | refine blk_alloc ?_ _)); exact BK530.out) hb); have n6_ := Aside0.mk (blk_below (g := gb549) (o := .cells #[.int .i64 t542, .int .i64 t543, .bool t544, .slice Ao40 t545.length co40] 47 (0, 0)) (by (with_reducible repeat (first | refine blk_drewN ?_ _ | refine blk_drew ?_ | refine blk_alloc ?_ _)); exact BK549.out) hb); have n7_ := Aside0.mk (blk_below (g := gb557) (o := .cells #[.int .i64 t550, .int .i64 t551, .bool t552, .slice Ao49 t553.length co49] 47 (0, 0)) (by (with_reducible repeat (first | refine blk_drewN ?_ _ | refine blk_drew ?_ | refine blk_alloc ?_ _)); exact BK557.out) hb); have n8_ := Aside0.mk (Kd.C_below (by repeat (first | (with_reducible exact HRl564.out) | (with_reducible refine Kd.C_alloc ?_ _) | (with_reducible refine Kd.C_drewN ?_ _) | (with_reducible refine Kd.C_drew ?_) | exact HRl564.out)) hb); have n9_ := Aside0.mk (below_step (by repeat (first | (with_reducible first | exact HB.out | apply below_alloc | apply pw_below_drewN | apply below_drew1 | refine below_set ?_ GE530.out | refine below_set ?_ GE549.out | refine below_set ?_ GE557.out) | exact HB.out)) hb); clear HO534; clear HO541; clear HO547; clear HO555; clear HO560; clear BK530; clear BK549; clear BK557; clear HRl564; clear HB; have HO534 := n0_; have HO541 := n1_; have HO547 := n2_; have HO555 := n3_; have HO560 := n4_; have BK530 := n5_; have BK549 := n6_; have BK557 := n7_; have HRl564 := n8_; have HB := n9_; clear n0_ n1_ n2_ n3_ n4_ n5_ n6_ n7_ n8_ n9_; (try clear hb); (try clear hb2); (try clear hk); (try clear hi); have hcz55_0 : w54.cell? ⟨gb530, 0, none⟩ = some (.int .u32 a0_0) := (blk_cell BK530.out 0).trans rfl; have hcz55_1 : w54.cell? ⟨gb530, 1, none⟩ = some (.int .u32 a0_1) := (blk_cell BK530.out 1).trans rfl; have hcz55_2 : w54.cell? ⟨gb530, 2, none⟩ = some (.int .i64 a0_2) := (blk_cell BK530.out 2).trans rfl; have hcz55_3 : w54.cell? ⟨gb530, 3, none⟩ = some (.int .i64 a0_3) := (blk_cell BK530.out 3).trans rfl; have hcz55_4 : w54.cell? ⟨gb530, 4, none⟩ = some (.bool true) := (blk_cell BK530.out 4).trans rfl; have hcz55_5 : w54.cell? ⟨gb530, 5, none⟩ = some (.slice A0_5 l0_5.length c0_5) := (blk_cell BK530.out 5).trans rfl; have hfz55_0 := blk_frozen BK530.out 0; have hfz55_1 := blk_frozen BK530.out 1; have hfz55_2 := blk_frozen BK530.out 2; have hfz55_3 := blk_frozen BK530.out 3; have hfz55_4 := blk_frozen BK530.out 4; have hfz55_5 := blk_frozen BK530.out 5) | ((with_reducible refine gate_callee (f := 41) rfl ?_); refine goesL_ (some 73) rfl rfl Try.func41 (by kernel_rfl) rfl #[.int .u32 a0_0, .int .u32 a2, .int .i64 17, .int .i64 (t532.length : Int)] rfl (by (try simp only [List.map_toArray, List.map_cons, List.map_nil]); first | done | rfl | (simp only [List.length_drop, List.length_take]; rfl)) ?_; (with_reducible refine (udp_Pseudo.calls kj5 a0_0 a2 17 (t532.length : Int) t566 _ A21.out).mono ?_); rintro e w56 ⟨v567, rfl, ho0, hb⟩; refine ⟨_, rfl, ?_⟩; have n0_ := Aside0.mk (Kd.R_elder' (by (with_reducible repeat (first | apply Kd.R_alloc | apply Kd.R_drewN | apply Kd.R_drew)); exact HO534.out) (Kd.R_base ho0) hb); have n1_ := Aside0.mk (Kd.R_elder' (by (with_reducible repeat (first | apply Kd.R_alloc | apply Kd.R_drewN | apply Kd.R_drew)); exact HO541.out) (Kd.R_base ho0) hb); have n2_ := Aside0.mk (Kd.R_elder' (by (with_reducible repeat (first | apply Kd.R_alloc | apply Kd.R_drewN | apply Kd.R_drew)); exact HO547.out) (Kd.R_base ho0) hb); have n3_ := Aside0.mk (Kd.R_elder' (by (with_reducible repeat (first | apply Kd.R_alloc | apply Kd.R_drewN | apply Kd.R_drew)); exact HO555.out) (Kd.R_base ho0) hb); have n4_ := Aside0.mk (Kd.R_elder' (by (with_reducible repeat (first | apply Kd.R_alloc | apply Kd.R_drewN | apply Kd.R_drew)); exact HO560.out) (Kd.R_base ho0) hb); have n5_ := Aside0.mk (Kd.R_lower (Kd.R_new' (Kd.R_new' (Kd.R_new' (Kd.R_new' (Kd.R_new' ho0 (Kd.R_lt (by (with_reducible repeat (first | apply Kd.R_alloc | apply Kd.R_drewN | apply Kd.R_drew)); exact HO534.out))) (Kd.R_lt (by (with_reducible repeat (first | apply Kd.R_alloc | apply Kd.R_drewN | apply Kd.R_drew)); exact HO541.out))) (Kd.R_lt (by (with_reducible repeat (first | apply Kd.R_alloc | apply Kd.R_drewN | apply Kd.R_drew)); exact HO547.out))) (Kd.R_lt (by (with_reducible repeat (first | apply Kd.R_alloc | apply Kd.R_drewN | apply Kd.R_drew)); exact HO555.out))) (Kd.R_lt (by (with_reducible repeat (first | apply Kd.R_alloc | apply Kd.R_drewN | apply Kd.R_drew)); exact HO560.out))) (below_size (by repeat (first | (with_reducible first | exact HB.out | apply below_alloc | apply pw_below_drewN | apply below_drew1 | refine below_set ?_ GE530.out | refine below_set ?_ GE549.out | refine below_set ?_ GE557.out) | exact HB.out)))); have n6_ := Aside0.mk (blk_below (g := gb530) (o := .cells #[.int .u32 a0_0, .int .u32 a0_1, .int .i64 a0_2, .int .i64 a0_3, .bool true, .slice A0_5 l0_5.length c0_5] 49 (0, 0)) (by (with_reducible repeat (first | refine blk_drewN ?_ _ | refine blk_drew ?_ | refine blk_alloc ?_ _)); exact BK530.out) hb); have n7_ := Aside0.mk (blk_below (g := gb549) (o := .cells #[.int .i64 t542, .int .i64 t543, .bool t544, .slice Ao40 t545.length co40] 47 (0, 0)) (by (with_reducible repeat (first | refine blk_drewN ?_ _ | refine blk_drew ?_ | refine blk_alloc ?_ _)); exact BK549.out) hb); have n8_ := Aside0.mk (blk_below (g := gb557) (o := .cells #[.int .i64 t550, .int .i64 t551, .bool t552, .slice Ao49 t553.length co49] 47 (0, 0)) (by (with_reducible repeat (first | refine blk_drewN ?_ _ | refine blk_drew ?_ | refine blk_alloc ?_ _)); exact BK557.out) hb); have n9_ := Aside0.mk (Kd.C_below (by repeat (first | (with_reducible exact HRl564.out) | (with_reducible refine Kd.C_alloc ?_ _) | (with_reducible refine Kd.C_drewN ?_ _) | (with_reducible refine Kd.C_drew ?_) | exact HRl564.out)) hb); have n10_ := Aside0.mk (below_step (by repeat (first | (with_reducible first | exact HB.out | apply below_alloc | apply pw_below_drewN | apply below_drew1 | refine below_set ?_ GE530.out | refine below_set ?_ GE549.out | refine below_set ?_ GE557.out) | exact HB.out)) hb); clear HO534; clear HO541; clear HO547; clear HO555; clear HO560; clear BK530; clear BK549; clear BK557; clear HRl564; clear HB; have HO534 := n0_; have HO541 := n1_; have HO547 := n2_; have HO555 := n3_; have HO560 := n4_; have HO568 := n5_; have BK530 := n6_; have BK549 := n7_; have BK557 := n8_; have HRl564 := n9_; have HB := n10_; clear n0_ n1_ n2_ n3_ n4_ n5_ n6_ n7_ n8_ n9_ n10_; (try clear hb); (try clear hb2); (try clear hk); (try clear hi); (try clear ho0); obtain ⟨Ao57, co57, eo57⟩ := Kd.R_slice HO568.out; subst eo57) | ((with_reducible refine gate_dst (N := 74) rfl ?_); (try (refine gate_guard (by rfl) ?_; dsimp only)); refine Kd.N_lit (Kd.slice 5 (Kd.int .u8)) _ 22 ?hg (N' := 74) ?hd (xs := ([t566] : List (List Int))) (inner := [.slice Ao57 t566.length co57]) (ok := fun _ => True) (okp := fun _ => True) ?hr ?hp (fun _ _ => trivial) trivial (Below.refl _ _) (Nat.le_refl _) (by simp) ?_; (case hd => rfl); (case hg => rfl); (case hr => first | (go_simp; done) | (go_simp; rfl)); (case hp => exact (Reps.one (show Kd.FK (Kd.slice 5 (Kd.int .u8)) _ _ t566 [.slice Ao57 t566.length co57] from Kd.FK_slice_mk (by exact (Kd.R_reads' HO568.out).2.1) (Kd.F_mono (Kd.C_F (Kd.heap_int .u8) (by repeat (first | exact (Kd.R_reads' HO568.out).2.2 | (with_reducible refine Kd.C_alloc ?_ _) | (with_reducible refine Kd.C_drewN ?_ _) | (with_reducible refine Kd.C_drew ?_)))) (fun _ _ => trivial))) (Reps.none _ _))); intro vl572 w58 ho hb hg_ hnew_; clear hg_ hnew_; (first | rw [← Ny569.out] at ho | (simp only [Int.reduceToNat] at ho; rw [← Ny569.out] at ho)); obtain ⟨Al572, cl572, el572⟩ := Kd.N_slice ho; subst el572; have hr := (Kd.N_reads' ho).2.2; have hl := (Kd.N_reads' ho).2.1; clear ho; have n0_ := Aside0.mk (Kd.R_below (by (with_reducible repeat (first | apply Kd.R_alloc | apply Kd.R_drewN | apply Kd.R_drew)); exact HO534.out) hb); have n1_ := Aside0.mk (Kd.R_below (by (with_reducible repeat (first | apply Kd.R_alloc | apply Kd.R_drewN | apply Kd.R_drew)); exact HO541.out) hb); have n2_ := Aside0.mk (Kd.R_below (by (with_reducible repeat (first | apply Kd.R_alloc | apply Kd.R_drewN | apply Kd.R_drew)); exact HO547.out) hb); have n3_ := Aside0.mk (Kd.R_below (by (with_reducible repeat (first | apply Kd.R_alloc | apply Kd.R_drewN | apply Kd.R_drew)); exact HO555.out) hb); have n4_ := Aside0.mk (Kd.R_below (by (with_reducible repeat (first | apply Kd.R_alloc | apply Kd.R_drewN | apply Kd.R_drew)); exact HO560.out) hb); have n5_ := Aside0.mk (Kd.R_below (by (with_reducible repeat (first | apply Kd.R_alloc | apply Kd.R_drewN | apply Kd.R_drew)); exact HO568.out) hb); have n6_ := Aside0.mk (blk_below (g := gb530) (o := .cells #[.int .u32 a0_0, .int .u32 a0_1, .int .i64 a0_2, .int .i64 a0_3, .bool true, .slice A0_5 l0_5.length c0_5] 49 (0, 0)) (by (with_reducible repeat (first | refine blk_drewN ?_ _ | refine blk_drew ?_ | refine blk_alloc ?_ _)); exact BK530.out) hb); have n7_ := Aside0.mk (blk_below (g := gb549) (o := .cells #[.int .i64 t542, .int .i64 t543, .bool t544, .slice Ao40 t545.length co40] 47 (0, 0)) (by (with_reducible repeat (first | refine blk_drewN ?_ _ | refine blk_drew ?_ | refine blk_alloc ?_ _)); exact BK549.out) hb); have n8_ := Aside0.mk (blk_below (g := gb557) (o := .cells #[.int .i64 t550, .int .i64 t551, .bool t552, .slice Ao49 t553.length co49] 47 (0, 0)) (by (with_reducible repeat (first | refine blk_drewN ?_ _ | refine blk_drew ?_ | refine blk_alloc ?_ _)); exact BK557.out) hb); have n9_ := Aside0.mk (Kd.C_below (by repeat (first | (with_reducible exact HRl564.out) | (with_reducible refine Kd.C_alloc ?_ _) | (with_reducible refine Kd.C_drewN ?_ _) | (with_reducible refine Kd.C_drew ?_) | exact HRl564.out)) hb); have n10_ := Aside0.mk (below_step (by repeat (first | (with_reducible first | exact HB.out | apply below_alloc | apply pw_below_drewN | apply below_drew1 | refine below_set ?_ GE530.out | refine below_set ?_ GE549.out | refine below_set ?_ GE557.out) | exact HB.out)) hb); have n11_ := Aside0.mk (hr); have n12_ := Aside0.mk (hl); clear HO534; clear HO541; clear HO547; clear HO555; clear HO560; clear HO568; clear BK530; clear BK549; clear BK557; clear HRl564; clear HB; have HO534 := n0_; have HO541 := n1_; have HO547 := n2_; have HO555 := n3_; have HO560 := n4_; have HO568 := n5_; have BK530 := n6_; have BK549 := n7_; have BK557 := n8_; have HRl564 := n9_; have HB := n10_; have HRl572 := n11_; have HCl572 := n12_; clear n0_ n1_ n2_ n3_ n4_ n5_ n6_ n7_ n8_ n9_ n10_ n11_ n12_; clear hb hr hl; have n_ := Aside0.mk (Kd.R_mono (ok' := (fun k_ => some k_ ≠ (v540 : Value).ownBlock ∧ some k_ ≠ (.slice Ao40 t545.length co40 : Value).ownBlock ∧ some k_ ≠ (.slice Ao49 t553.length co49 : Value).ownBlock ∧ some k_ ≠ (.slice Ao52 t558.length co52 : Value).ownBlock ∧ some k_ ≠ (.slice Ao57 t566.length co57 : Value).ownBlock)) HO534.out (fun k_ hk => ⟨hk.1.1, ⟨hk.1.2.1, ⟨hk.1.2.2.1, ⟨hk.1.2.2.2, hk.2⟩⟩⟩⟩)); clear HO534; have HO534 := n_; clear n_; have n_ := Aside0.mk (Kd.R_mono (ok' := (fun k_ => some k_ ≠ (.slice Ao29 t532.length co29 : Value).ownBlock ∧ some k_ ≠ (.slice Ao40 t545.length co40 : Value).ownBlock ∧ some k_ ≠ (.slice Ao49 t553.length co49 : Value).ownBlock ∧ some k_ ≠ (.slice Ao52 t558.length co52 : Value).ownBlock ∧ some k_ ≠ (.slice Ao57 t566.length co57 : Value).ownBlock)) HO541.out (fun k_ hk => ⟨hk.1.1, ⟨hk.1.2.1, ⟨hk.1.2.2.1, ⟨hk.1.2.2.2, hk.2⟩⟩⟩⟩)); clear HO541; have HO541 := n_; clear n_; have n_ := Aside0.mk (Kd.R_mono (ok' := (fun k_ => some k_ ≠ (.slice Ao29 t532.length co29 : Value).ownBlock ∧ some k_ ≠ (v540 : Value).ownBlock ∧ some k_ ≠ (.slice Ao49 t553.length co49 : Value).ownBlock ∧ some k_ ≠ (.slice Ao52 t558.length co52 : Value).ownBlock ∧ some k_ ≠ (.slice Ao57 t566.length co57 : Value).ownBlock)) HO547.out (fun k_ hk => ⟨hk.1.1, ⟨hk.1.2.1, ⟨hk.1.2.2.1, ⟨hk.1.2.2.2, hk.2⟩⟩⟩⟩)); clear HO547; have HO547 := n_; clear n_; have n_ := Aside0.mk (Kd.R_mono (ok' := (fun k_ => some k_ ≠ (.slice Ao29 t532.length co29 : Value).ownBlock ∧ some k_ ≠ (v540 : Value).ownBlock ∧ some k_ ≠ (.slice Ao40 t545.length co40 : Value).ownBlock ∧ some k_ ≠ (.slice Ao52 t558.length co52 : Value).ownBlock ∧ some k_ ≠ (.slice Ao57 t566.length co57 : Value).ownBlock)) HO555.out (fun k_ hk => ⟨hk.1.1, ⟨hk.1.2.1, ⟨hk.1.2.2.1, ⟨hk.1.2.2.2, hk.2⟩⟩⟩⟩)); clear HO555; have HO555 := n_; clear n_; have n_ := Aside0.mk (Kd.R_mono (ok' := (fun k_ => some k_ ≠ (.slice Ao29 t532.length co29 : Value).ownBlock ∧ some k_ ≠ (v540 : Value).ownBlock ∧ some k_ ≠ (.slice Ao40 t545.length co40 : Value).ownBlock ∧ some k_ ≠ (.slice Ao49 t553.length co49 : Value).ownBlock ∧ some k_ ≠ (.slice Ao57 t566.length co57 : Value).ownBlock)) HO560.out (fun k_ hk => ⟨hk.1.1, ⟨hk.1.2.1, ⟨hk.1.2.2.1, ⟨hk.1.2.2.2, hk.2⟩⟩⟩⟩)); clear HO560; have HO560 := n_; clear n_; have n_ := Aside0.mk (Kd.R_mono (ok' := (fun k_ => some k_ ≠ (.slice Ao29 t532.length co29 : Value).ownBlock ∧ some k_ ≠ (v540 : Value).ownBlock ∧ some k_ ≠ (.slice Ao40 t545.length co40 : Value).ownBlock ∧ some k_ ≠ (.slice Ao49 t553.length co49 : Value).ownBlock ∧ some k_ ≠ (.slice Ao52 t558.length co52 : Value).ownBlock)) HO568.out (fun k_ hk => ⟨hk.1.1.1.1.2, ⟨hk.1.1.1.2, ⟨hk.1.1.2, ⟨hk.1.2, hk.2⟩⟩⟩⟩)); clear HO568; have HO568 := n_; clear n_) | ((with_reducible refine gate_callee (f := 26) rfl ?_); refine goesL_ (some 75) rfl rfl Try.func26 (by kernel_rfl) rfl #[.slice Al572 y569.length cl572] rfl (by (try simp only [List.map_toArray, List.map_cons, List.map_nil]); first | done | rfl | (simp only [List.length_drop, List.length_take]; rfl)) ?_; (with_reducible refine (octet_Sum.calls _ _ y569 t573 _ ?side1 ?side2 A22.out).mono ?_); (case side1 => repeat (first | exact (by repeat (first | (with_reducible exact HRl572.out) | (with_reducible refine Kd.C_alloc ?_ _) | (with_reducible refine Kd.C_drewN ?_ _) | (with_reducible refine Kd.C_drew ?_) | exact HRl572.out)) | (with_reducible refine Kd.C_alloc ?_ _) | (with_reducible refine Kd.C_drewN ?_ _) | (with_reducible refine Kd.C_drew ?_))); (case side2 => exact HCl572.out); rintro e w59 ⟨rfl, hb⟩; refine ⟨_, rfl, ?_⟩; have n0_ := Aside0.mk (Kd.R_below (by (with_reducible repeat (first | apply Kd.R_alloc | apply Kd.R_drewN | apply Kd.R_drew)); exact HO534.out) hb); have n1_ := Aside0.mk (Kd.R_below (by (with_reducible repeat (first | apply Kd.R_alloc | apply Kd.R_drewN | apply Kd.R_drew)); exact HO541.out) hb); have n2_ := Aside0.mk (Kd.R_below (by (with_reducible repeat (first | apply Kd.R_alloc | apply Kd.R_drewN | apply Kd.R_drew)); exact HO547.out) hb); have n3_ := Aside0.mk (Kd.R_below (by (with_reducible repeat (first | apply Kd.R_alloc | apply Kd.R_drewN | apply Kd.R_drew)); exact HO555.out) hb); have n4_ := Aside0.mk (Kd.R_below (by (with_reducible repeat (first | apply Kd.R_alloc | apply Kd.R_drewN | apply Kd.R_drew)); exact HO560.out) hb); have n5_ := Aside0.mk (Kd.R_below (by (with_reducible repeat (first | apply Kd.R_alloc | apply Kd.R_drewN | apply Kd.R_drew)); exact HO568.out) hb); have n6_ := Aside0.mk (blk_below (g := gb530) (o := .cells #[.int .u32 a0_0, .int .u32 a0_1, .int .i64 a0_2, .int .i64 a0_3, .bool true, .slice A0_5 l0_5.length c0_5] 49 (0, 0)) (by (with_reducible repeat (first | refine blk_drewN ?_ _ | refine blk_drew ?_ | refine blk_alloc ?_ _)); exact BK530.out) hb); have n7_ := Aside0.mk (blk_below (g := gb549) (o := .cells #[.int .i64 t542, .int .i64 t543, .bool t544, .slice Ao40 t545.length co40] 47 (0, 0)) (by (with_reducible repeat (first | refine blk_drewN ?_ _ | refine blk_drew ?_ | refine blk_alloc ?_ _)); exact BK549.out) hb); have n8_ := Aside0.mk (blk_below (g := gb557) (o := .cells #[.int .i64 t550, .int .i64 t551, .bool t552, .slice Ao49 t553.length co49] 47 (0, 0)) (by (with_reducible repeat (first | refine blk_drewN ?_ _ | refine blk_drew ?_ | refine blk_alloc ?_ _)); exact BK557.out) hb); have n9_ := Aside0.mk (Kd.C_below (by repeat (first | (with_reducible exact HRl564.out) | (with_reducible refine Kd.C_alloc ?_ _) | (with_reducible refine Kd.C_drewN ?_ _) | (with_reducible refine Kd.C_drew ?_) | exact HRl564.out)) hb); have n10_ := Aside0.mk (Kd.C_below (by repeat (first | (with_reducible exact HRl572.out) | (with_reducible refine Kd.C_alloc ?_ _) | (with_reducible refine Kd.C_drewN ?_ _) | (with_reducible refine Kd.C_drew ?_) | exact HRl572.out)) hb); have n11_ := Aside0.mk (below_step (by repeat (first | (with_reducible first | exact HB.out | apply below_alloc | apply pw_below_drewN | apply below_drew1 | refine below_set ?_ GE530.out | refine below_set ?_ GE549.out | refine below_set ?_ GE557.out) | exact HB.out)) hb); clear HO534; clear HO541; clear HO547; clear HO555; clear HO560; clear HO568; clear BK530; clear BK549; clear BK557; clear HRl564; clear HRl572; clear HB; have HO534 := n0_; have HO541 := n1_; have HO547 := n2_; have HO555 := n3_; have HO560 := n4_; have HO568 := n5_; have BK530 := n6_; have BK549 := n7_; have BK557 := n8_; have HRl564 := n9_; have HRl572 := n10_; have HB := n11_; clear n0_ n1_ n2_ n3_ n4_ n5_ n6_ n7_ n8_ n9_ n10_ n11_; (try clear hb); (try clear hb2); (try clear hk); (try clear hi); have hcz60_0 : w59.cell? ⟨gb549, 0, none⟩ = some (.int .i64 t542) := (blk_cell BK549.out 0).trans rfl; have hcz60_1 : w59.cell? ⟨gb549, 1, none⟩ = some (.int .i64 t543) := (blk_cell BK549.out 1).trans rfl; have hcz60_2 : w59.cell? ⟨gb549, 2, none⟩ = some (.bool t544) := (blk_cell BK549.out 2).trans rfl; have hcz60_3 : w59.cell? ⟨gb549, 3, none⟩ = some (.slice Ao40 t545.length co40) := (blk_cell BK549.out 3).trans rfl; have hfz60_0 := blk_frozen BK549.out 0; have hfz60_1 := blk_frozen BK549.out 1; have hfz60_2 := blk_frozen BK549.out 2; have hfz60_3 := blk_frozen BK549.out 3; have hcz61_0 : w59.cell? ⟨gb530, 0, none⟩ = some (.int .u32 a0_0) := (blk_cell BK530.out 0).trans rfl; have hcz61_1 : w59.cell? ⟨gb530, 1, none⟩ = some (.int .u32 a0_1) := (blk_cell BK530.out 1).trans rfl; have hcz61_2 : w59.cell? ⟨gb530, 2, none⟩ = some (.int .i64 a0_2) := (blk_cell BK530.out 2).trans rfl; have hcz61_3 : w59.cell? ⟨gb530, 3, none⟩ = some (.int .i64 a0_3) := (blk_cell BK530.out 3).trans rfl; have hcz61_4 : w59.cell? ⟨gb530, 4, none⟩ = some (.bool true) := (blk_cell BK530.out 4).trans rfl; have hcz61_5 : w59.cell? ⟨gb530, 5, none⟩ = some (.slice A0_5 l0_5.length c0_5) := (blk_cell BK530.out 5).trans rfl; have hfz61_0 := blk_frozen BK530.out 0; have hfz61_1 := blk_frozen BK530.out 1; have hfz61_2 := blk_frozen BK530.out 2; have hfz61_3 := blk_frozen BK530.out 3; have hfz61_4 := blk_frozen BK530.out 4; have hfz61_5 := blk_frozen BK530.out 5) | (go_at_call 44; (with_reducible refine (bailiwickref3_SameDatagram.calls kj5 t542 t543 t544 _ _ t545 a0_2 a0_3 true _ _ l0_5 true _ ?side1 ?side2 ?side3 ?side4 A24.out).mono ?_); (case side1 => repeat (first | exact (Kd.R_reads' HO547.out).2.2 | (with_reducible refine Kd.C_alloc ?_ _) | (with_reducible refine Kd.C_drewN ?_ _) | (with_reducible refine Kd.C_drew ?_))); (case side2 => exact (Kd.R_reads' HO547.out).2.1); (case side3 => repeat (first | exact (Kd.C_below HR0_5.out HB.out) | (with_reducible refine Kd.C_alloc ?_ _) | (with_reducible refine Kd.C_drewN ?_ _) | (with_reducible refine Kd.C_drew ?_))); (case side4 => exact HC0_5.out); rintro e w62 ⟨rfl, hb⟩; have n0_ := Aside0.mk (Kd.R_below (by (with_reducible repeat (first | apply Kd.R_alloc | apply Kd.R_drewN | apply Kd.R_drew)); exact HO534.out) hb); have n1_ := Aside0.mk (Kd.R_below (by (with_reducible repeat (first | apply Kd.R_alloc | apply Kd.R_drewN | apply Kd.R_drew)); exact HO541.out) hb); have n2_ := Aside0.mk (Kd.R_below (by (with_reducible repeat (first | apply Kd.R_alloc | apply Kd.R_drewN | apply Kd.R_drew)); exact HO547.out) hb); have n3_ := Aside0.mk (Kd.R_below (by (with_reducible repeat (first | apply Kd.R_alloc | apply Kd.R_drewN | apply Kd.R_drew)); exact HO555.out) hb); have n4_ := Aside0.mk (Kd.R_below (by (with_reducible repeat (first | apply Kd.R_alloc | apply Kd.R_drewN | apply Kd.R_drew)); exact HO560.out) hb); have n5_ := Aside0.mk (Kd.R_below (by (with_reducible repeat (first | apply Kd.R_alloc | apply Kd.R_drewN | apply Kd.R_drew)); exact HO568.out) hb); have n6_ := Aside0.mk (blk_below (g := gb530) (o := .cells #[.int .u32 a0_0, .int .u32 a0_1, .int .i64 a0_2, .int .i64 a0_3, .bool true, .slice A0_5 l0_5.length c0_5] 49 (0, 0)) (by (with_reducible repeat (first | refine blk_drewN ?_ _ | refine blk_drew ?_ | refine blk_alloc ?_ _)); exact BK530.out) hb); have n7_ := Aside0.mk (blk_below (g := gb549) (o := .cells #[.int .i64 t542, .int .i64 t543, .bool t544, .slice Ao40 t545.length co40] 47 (0, 0)) (by (with_reducible repeat (first | refine blk_drewN ?_ _ | refine blk_drew ?_ | refine blk_alloc ?_ _)); exact BK549.out) hb); have n8_ := Aside0.mk (blk_below (g := gb557) (o := .cells #[.int .i64 t550, .int .i64 t551, .bool t552, .slice Ao49 t553.length co49] 47 (0, 0)) (by (with_reducible repeat (first | refine blk_drewN ?_ _ | refine blk_drew ?_ | refine blk_alloc ?_ _)); exact BK557.out) hb); have n9_ := Aside0.mk (Kd.C_below (by repeat (first | (with_reducible exact HRl564.out) | (with_reducible refine Kd.C_alloc ?_ _) | (with_reducible refine Kd.C_drewN ?_ _) | (with_reducible refine Kd.C_drew ?_) | exact HRl564.out)) hb); have n10_ := Aside0.mk (Kd.C_below (by repeat (first | (with_reducible exact HRl572.out) | (with_reducible refine Kd.C_alloc ?_ _) | (with_reducible refine Kd.C_drewN ?_ _) | (with_reducible refine Kd.C_drew ?_) | exact HRl572.out)) hb); have n11_ := Aside0.mk (below_step (by repeat (first | (with_reducible first | exact HB.out | apply below_alloc | apply pw_below_drewN | apply below_drew1 | refine below_set ?_ GE530.out | refine below_set ?_ GE549.out | refine below_set ?_ GE557.out) | exact HB.out)) hb); clear HO534; clear HO541; clear HO547; clear HO555; clear HO560; clear HO568; clear BK530; clear BK549; clear BK557; clear HRl564; clear HRl572; clear HB; have HO534 := n0_; have HO541 := n1_; have HO547 := n2_; have HO555 := n3_; have HO560 := n4_; have HO568 := n5_; have BK530 := n6_; have BK549 := n7_; have BK557 := n8_; have HRl564 := n9_; have HRl572 := n10_; have HB := n11_; clear n0_ n1_ n2_ n3_ n4_ n5_ n6_ n7_ n8_ n9_ n10_ n11_; (try clear hb); (try clear hb2); (try clear hk); (try clear hi); have hcz63_0 : w62.cell? ⟨gb530, 0, none⟩ = some (.int .u32 a0_0) := (blk_cell BK530.out 0).trans rfl; have hcz63_1 : w62.cell? ⟨gb530, 1, none⟩ = some (.int .u32 a0_1) := (blk_cell BK530.out 1).trans rfl; have hcz63_2 : w62.cell? ⟨gb530, 2, none⟩ = some (.int .i64 a0_2) := (blk_cell BK530.out 2).trans rfl; have hcz63_3 : w62.cell? ⟨gb530, 3, none⟩ = some (.int .i64 a0_3) := (blk_cell BK530.out 3).trans rfl; have hcz63_4 : w62.cell? ⟨gb530, 4, none⟩ = some (.bool true) := (blk_cell BK530.out 4).trans rfl; have hcz63_5 : w62.cell? ⟨gb530, 5, none⟩ = some (.slice A0_5 l0_5.length c0_5) := (blk_cell BK530.out 5).trans rfl; have hfz63_0 := blk_frozen BK530.out 0; have hfz63_1 := blk_frozen BK530.out 1; have hfz63_2 := blk_frozen BK530.out 2; have hfz63_3 := blk_frozen BK530.out 3; have hfz63_4 := blk_frozen BK530.out 4; have hfz63_5 := blk_frozen BK530.out 5))
          go_ret
          exact ⟨by first | rfl | (simp [errW_none, errW_some] <;> rfl) | (simp [*, errW_none, errW_some] <;> rfl), by repeat (first | (with_reducible first | exact HB.out | apply below_alloc | apply pw_below_drewN | apply below_drew1 | refine below_set ?_ GE530.out | refine below_set ?_ GE549.out | refine below_set ?_ GE557.out) | exact HB.out)⟩
         ·replace c26 := Bool.eq_false_iff.mpr c26
          subst c26
          have H1 : (some ((t556 == 0) == (t565 == t573))) = some r := by rw [if_neg (show ¬ (false = true) by decide)] at H; exact H
          clear H
          have H := H1
          clear H1
          obtain rfl := Option.some.inj H
          have hcz64_0 : wc.cell? ⟨gb530, 0, none⟩ = some (.int .u32 a0_0) := (blk_cell BK530.out 0).trans rfl
          have hcz64_1 : wc.cell? ⟨gb530, 1, none⟩ = some (.int .u32 a0_1) := (blk_cell BK530.out 1).trans rfl
          have hcz64_2 : wc.cell? ⟨gb530, 2, none⟩ = some (.int .i64 a0_2) := (blk_cell BK530.out 2).trans rfl
          have hcz64_3 : wc.cell? ⟨gb530, 3, none⟩ = some (.int .i64 a0_3) := (blk_cell BK530.out 3).trans rfl
          have hcz64_4 : wc.cell? ⟨gb530, 4, none⟩ = some (.bool false) := (blk_cell BK530.out 4).trans rfl
          have hcz64_5 : wc.cell? ⟨gb530, 5, none⟩ = some (.slice A0_5 l0_5.length c0_5) := (blk_cell BK530.out 5).trans rfl
          have hfz64_0 := blk_frozen BK530.out 0
          have hfz64_1 := blk_frozen BK530.out 1
          have hfz64_2 := blk_frozen BK530.out 2
          have hfz64_3 := blk_frozen BK530.out 3
          have hfz64_4 := blk_frozen BK530.out 4
          have hfz64_5 := blk_frozen BK530.out 5
          try go_wp2_with (first | ((with_reducible refine gate_callee (f := 39) rfl ?_); refine goesL_ (some 34) rfl rfl Try.func39 (by kernel_rfl) rfl #[.int .u32 a0_0, .int .u32 a0_1, .agg #[.int .i64 a0_2, .int .i64 a0_3, .bool false, .slice A0_5 l0_5.length c0_5]] rfl (by (try simp only [List.map_toArray, List.map_cons, List.map_nil]); first | done | rfl | (simp only [List.length_drop, List.length_take]; rfl)) ?_; (with_reducible refine (udp_Build.calls kj5 a0_0 a0_1 a0_2 a0_3 false _ _ l0_5 t532 t535 _ ?side1 ?side2 A13.out).mono ?_); (case side1 => repeat (first | exact (Kd.C_below HR0_5.out HB.out) | (with_reducible refine Kd.C_alloc ?_ _) | (with_reducible refine Kd.C_drewN ?_ _) | (with_reducible refine Kd.C_drew ?_))); (case side2 => exact HC0_5.out); rintro e w65 ⟨v533, rfl, ho0, hb⟩; refine ⟨_, rfl, ?_⟩; have n0_ := Aside0.mk (Kd.R_lower ho0 (below_size (by repeat (first | (with_reducible first | exact HB.out | apply below_alloc | apply pw_below_drewN | apply below_drew1 | refine below_set ?_ GE530.out) | exact HB.out)))); have n1_ := Aside0.mk (blk_below (g := gb530) (o := .cells #[.int .u32 a0_0, .int .u32 a0_1, .int .i64 a0_2, .int .i64 a0_3, .bool false, .slice A0_5 l0_5.length c0_5] 49 (0, 0)) (by (with_reducible repeat (first | refine blk_drewN ?_ _ | refine blk_drew ?_ | refine blk_alloc ?_ _)); exact BK530.out) hb); have n2_ := Aside0.mk (below_step (by repeat (first | (with_reducible first | exact HB.out | apply below_alloc | apply pw_below_drewN | apply below_drew1 | refine below_set ?_ GE530.out) | exact HB.out)) hb); clear BK530; clear HB; have HO534 := n0_; have BK530 := n1_; have HB := n2_; clear n0_ n1_ n2_; (try clear hb); (try clear hb2); (try clear hk); (try clear hi); (try clear ho0); obtain ⟨Ao66, co66, eo66⟩ := Kd.R_slice HO534.out; subst eo66))
          have n0_ := Aside0.mk (Kd.R_drew HO534.out)
          have n1_ := Aside0.mk (blk_drew BK530.out)
          have n2_ := Aside0.mk (below_drew1 HB.out)
          clear HO534
          clear BK530
          clear HB
          have HO534 := n0_
          have BK530 := n1_
          have HB := n2_
          clear n0_ n1_ n2_
          refine start_ (n := 15) (S := fun w' => w'.cell? ⟨gb530, 0, none⟩ = some (.int .u32 a0_0) ∧ w'.cell? ⟨gb530, 1, none⟩ = some (.int .u32 a0_1) ∧ w'.cell? ⟨gb530, 2, none⟩ = some (.int .i64 a0_2) ∧ w'.cell? ⟨gb530, 3, none⟩ = some (.int .i64 a0_3) ∧ w'.cell? ⟨gb530, 4, none⟩ = some (.bool false) ∧ w'.cell? ⟨gb530, 5, none⟩ = some (.slice A0_5 l0_5.length c0_5)) (ds := []) #[false, false, false, false, false, false, false, false, false, false, false, false, false, false, false] (by kernel_rfl) rfl rfl ⟨(blk_cell BK530.out 0).trans rfl, (blk_cell BK530.out 1).trans rfl, (blk_cell BK530.out 2).trans rfl, (blk_cell BK530.out 3).trans rfl, (blk_cell BK530.out 4).trans rfl, (blk_cell BK530.out 5).trans rfl⟩ (fun hHeld => ?_); refine with_tabW bailiwicklaw3_UdpBack.tab8 bailiwicklaw3_UdpBack.bits8 (fun HT_ HW_ => ?_)
          generalize w65.drew = w67 at HO534 BK530 HB hHeld ⊢
          refine pure_ (i := 0) (N := some 40) (v := ?_) (a' := ?_) #[true, false, false, false, false, false, false, false, false, false, false, false, false, false, false] rfl rfl (any_of HT_.out (by kernel_rfl)) (fun _ _ _ h => h) (Or.inl ⟨by rfl, ?_⟩) ?_ ?_
          rotate_left
          ·intro w'
           go_simp
           with_reducible rfl
          rotate_left
          ·simp only [Act.put, List.setIfInBounds_toArray, List.set_cons_zero, List.set_cons_succ, i64_w, i32_w]
           rfl
          refine pure_ (i := 2) (N := some 42) (v := ?_) (a' := ?_) #[true, false, true, false, false, false, false, false, false, false, false, false, false, false, false] rfl rfl (any_of HT_.out (by kernel_rfl)) (fun _ _ _ h => h) (Or.inl ⟨by rfl, ?_⟩) ?_ ?_
          rotate_left
          ·intro w'
           go_simp
           with_reducible rfl
          rotate_left
          ·simp only [Act.put, List.setIfInBounds_toArray, List.set_cons_zero, List.set_cons_succ, i64_w, i32_w]
           rfl
          refine pure_ (i := 4) (N := some 44) (v := ?_) (a' := ?_) #[true, false, true, false, true, false, false, false, false, false, false, false, false, false, false] rfl rfl (any_of HT_.out (by kernel_rfl)) (fun _ _ _ h => h) (Or.inl ⟨by rfl, ?_⟩) ?_ ?_
          rotate_left
          ·intro w'
           go_simp
           with_reducible rfl
          rotate_left
          ·simp only [Act.put, List.setIfInBounds_toArray, List.set_cons_zero, List.set_cons_succ, i64_w, i32_w]
           rfl
          refine pure_ (i := 6) (N := some 46) (v := ?_) (a' := ?_) #[true, false, true, false, true, false, true, false, false, false, false, false, false, false, false] rfl rfl (any_of HT_.out (by kernel_rfl)) (fun _ _ _ h => h) (Or.inl ⟨by rfl, ?_⟩) ?_ ?_
          rotate_left
          ·intro w'
           go_simp
           with_reducible rfl
          rotate_left
          ·simp only [Act.put, List.setIfInBounds_toArray, List.set_cons_zero, List.set_cons_succ, i64_w, i32_w]
           rfl
          refine take_ (i := 1) (N := some 41) (v := ?_) (a' := ?_) #[true, true, true, false, true, false, true, false, false, false, false, false, false, false, false] rfl rfl (take_ofW HT_.out HW_.out (by kernel_rfl)) (fun _ _ _ h => h) (Or.inl ⟨by rfl, ?_⟩) hHeld ?_ ?_
          rotate_left
          ·rintro w' ⟨s0, s1, s2, s3, s4, s5⟩
           go_simp
           with_reducible rfl
          rotate_left
          ·simp only [Act.put, List.setIfInBounds_toArray, List.set_cons_zero, List.set_cons_succ, i64_w, i32_w]
           rfl
          refine take_ (i := 3) (N := some 43) (v := ?_) (a' := ?_) #[true, true, true, true, true, false, true, false, false, false, false, false, false, false, false] rfl rfl (take_ofW HT_.out HW_.out (by kernel_rfl)) (fun _ _ _ h => h) (Or.inl ⟨by rfl, ?_⟩) hHeld ?_ ?_
          rotate_left
          ·rintro w' ⟨s0, s1, s2, s3, s4, s5⟩
           go_simp
           with_reducible rfl
          rotate_left
          ·simp only [Act.put, List.setIfInBounds_toArray, List.set_cons_zero, List.set_cons_succ, i64_w, i32_w]
           rfl
          refine join_ (σ := Value × Value × Value × Nat) 2 #[true, true, true, true, true, true, true, true, true, true, true, true, true, false, false] (fun s_ => [(45, s_.1), (47, s_.2.1), (48, .tuple #[.agg #[.int .i64 t542, .int .i64 t543, .bool t544, s_.2.2.1], .int .i64 t548]), (9, .pointer (some ⟨s_.2.2.2, 0, none⟩)), (39, .tuple #[.agg #[.int .i64 t542, .int .i64 t543, .bool t544, s_.2.2.1], .int .i64 t548]), (49, .agg #[.int .i64 t542, .int .i64 t543, .bool t544, s_.2.2.1]), (50, .int .i64 t548)]) (fun s_ w' => (w'.cell? ⟨gb530, 0, none⟩ = some (.int .u32 a0_0) ∧ w'.cell? ⟨gb530, 1, none⟩ = some (.int .u32 a0_1) ∧ w'.cell? ⟨gb530, 2, none⟩ = some (.int .i64 a0_2) ∧ w'.cell? ⟨gb530, 3, none⟩ = some (.int .i64 a0_3) ∧ w'.cell? ⟨gb530, 4, none⟩ = some (.bool false) ∧ w'.cell? ⟨gb530, 5, none⟩ = some (.slice A0_5 l0_5.length c0_5)) ∧ (Kd.R (Kd.int .u8) 5 w' w.heap.size (fun k_ => some k_ ≠ (s_.2.1 : Value).ownBlock ∧ some k_ ≠ (s_.2.2.1 : Value).ownBlock) (.slice Ao66 t532.length co66) t532) ∧ (Kd.R (Kd.int .u8) 5 w' w.heap.size (fun k_ => some k_ ≠ (.slice Ao66 t532.length co66 : Value).ownBlock ∧ some k_ ≠ (s_.2.2.1 : Value).ownBlock) s_.2.1 y539) ∧ (Kd.R (Kd.int .u8) 5 w' w.heap.size (fun k_ => some k_ ≠ (.slice Ao66 t532.length co66 : Value).ownBlock ∧ some k_ ≠ (s_.2.1 : Value).ownBlock) s_.2.2.1 t545) ∧ (w'.heap[gb530]? = some (.cells #[.int .u32 a0_0, .int .u32 a0_1, .int .i64 a0_2, .int .i64 a0_3, .bool false, .slice A0_5 l0_5.length c0_5] 49 (0, 0))) ∧ (w'.heap[s_.2.2.2]? = some (.cells #[.int .i64 0, .int .i64 0, .bool false, .slice none 0 0] 47 (0, 0))) ∧ (w.heap.size ≤ s_.2.2.2) ∧ (w.heap.size ≤ s_.2.2.2) ∧ (gb530 ≠ s_.2.2.2) ∧ (s_.2.2.2 ≠ gb530) ∧ (Below w.heap.size w w')) ?_ ?_
          rotate_left
          ·intro hCont
           refine two_ (i := 5) (j := 12) (Ni := some 45) (Nj := some 9) #[true, true, true, true, true, true, true, false, false, false, false, false, false, false, false] #[true, true, true, true, true, false, true, false, false, false, false, false, true, false, false] rfl rfl rfl rfl (two_of HT_.out (by kernel_rfl)) (by decide) (by decide) (fun K hK => ?_) (fun K hK => ?_)
           ·skip
            refine goes_ Try.func25 (by kernel_rfl) rfl #[.slice Ao66 t532.length co66] (by rfl) rfl rfl (by (try simp only [List.map_toArray, List.map_cons, List.map_nil]); first | done | rfl | (simp only [List.length_drop, List.length_take]; rfl)) ?_
            with_reducible refine (bailiwickref1_Copy.calls kj5 _ _ t532 t536 _ ?side1 ?side2 A15.out).mono ?_
            (case side1 => repeat (first | exact (Kd.R_reads' HO534.out).2.2 | (with_reducible refine Kd.C_alloc ?_ _) | (with_reducible refine Kd.C_drewN ?_ _) | (with_reducible refine Kd.C_drew ?_)))
            (case side2 => exact (Kd.R_reads' HO534.out).2.1)
            rintro e w68 ⟨v537, rfl, ho0, hb⟩
            refine ⟨_, rfl, ?_⟩
            have n0_ := Aside0.mk (Kd.R_elder' (by (with_reducible repeat (first | apply Kd.R_alloc | apply Kd.R_drewN | apply Kd.R_drew)); exact HO534.out) (Kd.R_base ho0) hb)
            have n1_ := Aside0.mk (Kd.R_lower (Kd.R_new' ho0 (Kd.R_lt (by (with_reducible repeat (first | apply Kd.R_alloc | apply Kd.R_drewN | apply Kd.R_drew)); exact HO534.out))) (below_size (by repeat (first | (with_reducible first | exact HB.out | apply below_alloc | apply pw_below_drewN | apply below_drew1 | refine below_set ?_ GE530.out) | exact HB.out))))
            have n2_ := Aside0.mk (blk_below (g := gb530) (o := .cells #[.int .u32 a0_0, .int .u32 a0_1, .int .i64 a0_2, .int .i64 a0_3, .bool false, .slice A0_5 l0_5.length c0_5] 49 (0, 0)) (by (with_reducible repeat (first | refine blk_drewN ?_ _ | refine blk_drew ?_ | refine blk_alloc ?_ _)); exact BK530.out) hb)
            have n3_ := Aside0.mk (below_step (by repeat (first | (with_reducible first | exact HB.out | apply below_alloc | apply pw_below_drewN | apply below_drew1 | refine below_set ?_ GE530.out) | exact HB.out)) hb)
            clear HO534
            clear BK530
            clear HB
            have HO534 := n0_
            have HO538 := n1_
            have BK530 := n2_
            have HB := n3_
            clear n0_ n1_ n2_ n3_
            (try clear hb)
            (try clear hb2)
            (try clear hk)
            (try clear hi)
            (try clear ho0)
            refine hK.out _ _ ⟨(blk_cell BK530.out 0).trans rfl, (blk_cell BK530.out 1).trans rfl, (blk_cell BK530.out 2).trans rfl, (blk_cell BK530.out 3).trans rfl, (blk_cell BK530.out 4).trans rfl, (blk_cell BK530.out 5).trans rfl⟩ (fun hHeld => ?_)
            clear hK K
            refine norm_ (a' := ?_) ?_ ?_
            rotate_left
            ·show Act.put _ (some 45) _ = _
             simp only [Act.put, List.setIfInBounds_toArray, List.set_cons_zero, List.set_cons_succ, i64_w, i32_w]
             rfl
            refine two_ (i := 7) (j := 12) (Ni := some 47) (Nj := some 9) #[true, true, true, true, true, true, true, true, false, false, false, false, false, false, false] #[true, true, true, true, true, true, true, false, false, false, false, false, true, false, false] rfl rfl rfl rfl (two_of HT_.out (by kernel_rfl)) (by decide) (by decide) (fun K hK => ?_) (fun K hK => ?_)
            ·skip
             refine Kd.R_append_rows_step (Kd.int .u8) (w0 := w) w.heap.size (by rfl) (.tmp 45) (.tmp 46) 22 5 (.int .u8 0) 1 rfl Try.underlying22 info5 rfl (by decide) (by omega) v537 t536 l1 _ _ _ (fun k_ => some k_ ≠ (.slice Ao66 t532.length co66 : Value).ownBlock) (fun _ => False) rfl rfl ?aO ?aR (fun _ _ h => h) (fun _ h => h.elim) ?aF ?aB ?aS ?aL ?_
             (case aR => repeat (first | exact (Kd.C_below HR1.out HB.out) | (with_reducible refine Kd.C_alloc ?_ _) | (with_reducible refine Kd.C_drewN ?_ _) | (with_reducible refine Kd.C_drew ?_)))
             (case aB => exact (by repeat (first | (with_reducible first | exact HB.out | apply below_alloc | apply pw_below_drewN | apply below_drew1 | refine below_set ?_ GE530.out) | exact HB.out)))
             (case aF => exact (fun k_ hk => Kd.fresh' (Kd.R_lt (by (with_reducible repeat (first | apply Kd.R_alloc | apply Kd.R_drewN | apply Kd.R_drew)); exact HO534.out)) k_ hk))
             (case aO => exact (by (with_reducible repeat (first | apply Kd.R_alloc | apply Kd.R_drewN | apply Kd.R_drew)); exact Kd.R_mono HO538.out (fun _ hk => hk.2)))
             (case aS => exact (below_size (by repeat (first | (with_reducible first | exact HB.out | apply below_alloc | apply pw_below_drewN | apply below_drew1 | refine below_set ?_ GE530.out) | exact HB.out))))
             (case aL => have := LMc16.out; omega)
             intro v540 w69 ho hb hg hat
             rw [← Ny539.out] at ho
             have n0_ := Aside0.mk (blk_grown (g := gb530) (o := .cells #[.int .u32 a0_0, .int .u32 a0_1, .int .i64 a0_2, .int .i64 a0_3, .bool false, .slice A0_5 l0_5.length c0_5] 49 (0, 0)) (by (with_reducible repeat (first | refine blk_drewN ?_ _ | refine blk_drew ?_ | refine blk_alloc ?_ _)); exact BK530.out) hg (Kd.R_ne HO538.out BK530.out (by decide)))
             have n1_ := Aside0.mk (Kd.R_after (ok := (fun _ => True)) (by (with_reducible repeat (first | apply Kd.R_alloc | apply Kd.R_drewN | apply Kd.R_drew)); exact HO534.out) hg hat)
             have n2_ := Aside0.mk (hb)
             have n3_ := Aside0.mk (ho)
             clear BK530
             clear HO534
             clear HB
             clear HO538
             have BK530 := n0_
             have HO534 := n1_
             have HB := n2_
             have HO541 := n3_
             clear n0_ n1_ n2_ n3_
             clear ho hb hg hat
             obtain ⟨Ao70, co70, eo70⟩ := Kd.R_slice HO541.out
             (first | subst eo70 | (injection eo70 with f1_ f2_ f3_; have f4_ := f1_.symm; have f5_ := f3_.symm; clear f1_ f2_ f3_; subst f4_; subst f5_))
             refine hK.out _ _ ⟨(blk_cell BK530.out 0).trans rfl, (blk_cell BK530.out 1).trans rfl, (blk_cell BK530.out 2).trans rfl, (blk_cell BK530.out 3).trans rfl, (blk_cell BK530.out 4).trans rfl, (blk_cell BK530.out 5).trans rfl⟩ (fun hHeld => ?_)
             clear hK K
             refine norm_ (a' := ?_) ?_ ?_
             rotate_left
             ·show Act.put _ (some 47) _ = _
              simp only [Act.put, List.setIfInBounds_toArray, List.set_cons_zero, List.set_cons_succ, i64_w, i32_w]
              rfl
             refine two_ (i := 8) (j := 12) (Ni := some 48) (Nj := some 9) #[true, true, true, true, true, true, true, true, true, false, false, false, false, false, false] #[true, true, true, true, true, true, true, true, false, false, false, false, true, false, false] rfl rfl rfl rfl (two_of HT_.out (by kernel_rfl)) (by decide) (by decide) (fun K hK => ?_) (fun K hK => ?_)
             ·skip
              refine goes_ Try.func43 (by kernel_rfl) rfl #[.int .u32 a0_0, .int .u32 a0_1, .slice Ao70 y539.length co70] (by rfl) rfl rfl (by (try simp only [List.map_toArray, List.map_cons, List.map_nil]); first | done | rfl | (simp only [List.length_drop, List.length_take]; rfl)) ?_
              with_reducible refine (udp_Parse.calls kj5 a0_0 a0_1 _ _ y539 t542 t543 t544 t545 t548 _ ?side1 ?side2 A17.out).mono ?_
              (case side1 => repeat (first | exact (Kd.R_reads' HO541.out).2.2 | (with_reducible refine Kd.C_alloc ?_ _) | (with_reducible refine Kd.C_drewN ?_ _) | (with_reducible refine Kd.C_drew ?_)))
              (case side2 => exact (Kd.R_reads' HO541.out).2.1)
              rintro e w71 ⟨v546, rfl, ho0, hb⟩
              refine ⟨_, rfl, ?_⟩
              have n0_ := Aside0.mk (Kd.R_elder' (by (with_reducible repeat (first | apply Kd.R_alloc | apply Kd.R_drewN | apply Kd.R_drew)); exact HO534.out) (Kd.R_base ho0) hb)
              have n1_ := Aside0.mk (Kd.R_elder' (by (with_reducible repeat (first | apply Kd.R_alloc | apply Kd.R_drewN | apply Kd.R_drew)); exact HO541.out) (Kd.R_base ho0) hb)
              have n2_ := Aside0.mk (Kd.R_lower (Kd.R_new' (Kd.R_new' ho0 (Kd.R_lt (by (with_reducible repeat (first | apply Kd.R_alloc | apply Kd.R_drewN | apply Kd.R_drew)); exact HO534.out))) (Kd.R_lt (by (with_reducible repeat (first | apply Kd.R_alloc | apply Kd.R_drewN | apply Kd.R_drew)); exact HO541.out))) (below_size (by repeat (first | (with_reducible first | exact HB.out | apply below_alloc | apply pw_below_drewN | apply below_drew1 | refine below_set ?_ GE530.out) | exact HB.out))))
              have n3_ := Aside0.mk (blk_below (g := gb530) (o := .cells #[.int .u32 a0_0, .int .u32 a0_1, .int .i64 a0_2, .int .i64 a0_3, .bool false, .slice A0_5 l0_5.length c0_5] 49 (0, 0)) (by (with_reducible repeat (first | refine blk_drewN ?_ _ | refine blk_drew ?_ | refine blk_alloc ?_ _)); exact BK530.out) hb)
              have n4_ := Aside0.mk (below_step (by repeat (first | (with_reducible first | exact HB.out | apply below_alloc | apply pw_below_drewN | apply below_drew1 | refine below_set ?_ GE530.out) | exact HB.out)) hb)
              clear HO534
              clear HO541
              clear BK530
              clear HB
              have HO534 := n0_
              have HO541 := n1_
              have HO547 := n2_
              have BK530 := n3_
              have HB := n4_
              clear n0_ n1_ n2_ n3_ n4_
              (try clear hb)
              (try clear hb2)
              (try clear hk)
              (try clear hi)
              (try clear ho0)
              refine hK.out _ _ ⟨(blk_cell BK530.out 0).trans rfl, (blk_cell BK530.out 1).trans rfl, (blk_cell BK530.out 2).trans rfl, (blk_cell BK530.out 3).trans rfl, (blk_cell BK530.out 4).trans rfl, (blk_cell BK530.out 5).trans rfl⟩ (fun hHeld => ?_)
              clear hK K
              refine norm_ (a' := ?_) ?_ ?_
              rotate_left
              ·show Act.put _ (some 48) _ = _
               simp only [Act.put, List.setIfInBounds_toArray, List.set_cons_zero, List.set_cons_succ, i64_w, i32_w]
               rfl
              refine pure_ (i := 9) (N := some 39) (v := ?_) (a' := ?_) #[true, true, true, true, true, true, true, true, true, true, false, false, false, false, false] rfl rfl (any_of HT_.out (by kernel_rfl)) (fun _ _ _ h => h) (Or.inl ⟨by rfl, ?_⟩) ?_ ?_
              rotate_left
              ·intro w'
               go_simp
               with_reducible rfl
              rotate_left
              ·simp only [Act.put, List.setIfInBounds_toArray, List.set_cons_zero, List.set_cons_succ, i64_w, i32_w]
               rfl
              refine pure_ (i := 10) (N := some 49) (v := ?_) (a' := ?_) #[true, true, true, true, true, true, true, true, true, true, true, false, false, false, false] rfl rfl (any_of HT_.out (by kernel_rfl)) (fun _ _ _ h => h) (Or.inl ⟨by rfl, ?_⟩) ?_ ?_
              rotate_left
              ·intro w'
               go_simp
               with_reducible rfl
              rotate_left
              ·simp only [Act.put, List.setIfInBounds_toArray, List.set_cons_zero, List.set_cons_succ, i64_w, i32_w]
               rfl
              refine pure_ (i := 11) (N := some 50) (v := ?_) (a' := ?_) #[true, true, true, true, true, true, true, true, true, true, true, true, false, false, false] rfl rfl (any_of HT_.out (by kernel_rfl)) (fun _ _ _ h => h) (Or.inl ⟨by rfl, ?_⟩) ?_ ?_
              rotate_left
              ·intro w'
               go_simp
               with_reducible rfl
              rotate_left
              ·simp only [Act.put, List.setIfInBounds_toArray, List.set_cons_zero, List.set_cons_succ, i64_w, i32_w]
               rfl
              refine one_ (i := 12) (N := some 9) #[true, true, true, true, true, true, true, true, true, true, true, true, true, false, false] rfl rfl (one_of HT_.out (by kernel_rfl)) (by decide) (fun K hK => ?_)
              refine box_step ?hg (N := 9) ?hd (cs := #[.int .i64 0, .int .i64 0, .bool false, .slice none 0 0]) (t := 47) ?hr ?_; (case hd => rfl); (case hg => rfl); (case hr => first | (go_simp; done) | (go_simp; rfl))
              intro gb549 hg w72 hbox hb
              have n0_ := Aside0.mk (Kd.R_below (by (with_reducible repeat (first | apply Kd.R_alloc | apply Kd.R_drewN | apply Kd.R_drew)); exact HO534.out) hb)
              have n1_ := Aside0.mk (Kd.R_below (by (with_reducible repeat (first | apply Kd.R_alloc | apply Kd.R_drewN | apply Kd.R_drew)); exact HO541.out) hb)
              have n2_ := Aside0.mk (Kd.R_below (by (with_reducible repeat (first | apply Kd.R_alloc | apply Kd.R_drewN | apply Kd.R_drew)); exact HO547.out) hb)
              have n3_ := Aside0.mk (blk_below (g := gb530) (o := .cells #[.int .u32 a0_0, .int .u32 a0_1, .int .i64 a0_2, .int .i64 a0_3, .bool false, .slice A0_5 l0_5.length c0_5] 49 (0, 0)) (by (with_reducible repeat (first | refine blk_drewN ?_ _ | refine blk_drew ?_ | refine blk_alloc ?_ _)); exact BK530.out) hb)
              have n4_ := Aside0.mk (below_step (by repeat (first | (with_reducible first | exact HB.out | apply below_alloc | apply pw_below_drewN | apply below_drew1 | refine below_set ?_ GE530.out) | exact HB.out)) hb)
              have n5_ := Aside0.mk (hbox)
              have n6_ := Aside0.mk ((by rw [hg]; exact (below_size (by repeat (first | (with_reducible first | exact HB.out | apply below_alloc | apply pw_below_drewN | apply below_drew1 | refine below_set ?_ GE530.out) | exact HB.out))) : w.heap.size ≤ gb549))
              have n7_ := Aside0.mk ((by rw [hg]; exact (below_size (by repeat (first | (with_reducible first | exact HB.out | apply below_alloc | apply pw_below_drewN | apply below_drew1 | refine below_set ?_ GE530.out) | exact HB.out))) : w.heap.size ≤ gb549))
              have n8_ := Aside0.mk ((by rw [hg]; exact Nat.ne_of_lt (blk_lt (g := gb530) (o := .cells #[.int .u32 a0_0, .int .u32 a0_1, .int .i64 a0_2, .int .i64 a0_3, .bool false, .slice A0_5 l0_5.length c0_5] 49 (0, 0)) (by (with_reducible repeat (first | refine blk_drewN ?_ _ | refine blk_drew ?_ | refine blk_alloc ?_ _)); exact BK530.out)) : gb530 ≠ gb549))
              have n9_ := Aside0.mk ((by rw [hg]; exact Nat.ne_of_gt (blk_lt (g := gb530) (o := .cells #[.int .u32 a0_0, .int .u32 a0_1, .int .i64 a0_2, .int .i64 a0_3, .bool false, .slice A0_5 l0_5.length c0_5] 49 (0, 0)) (by (with_reducible repeat (first | refine blk_drewN ?_ _ | refine blk_drew ?_ | refine blk_alloc ?_ _)); exact BK530.out)) : gb549 ≠ gb530))
              clear HO534
              clear HO541
              clear HO547
              clear BK530
              clear HB
              have HO534 := n0_
              have HO541 := n1_
              have HO547 := n2_
              have BK530 := n3_
              have HB := n4_
              have BK549 := n5_
              have GW549 := n6_
              have GE549 := n7_
              have NB530_549 := n8_
              have NB549_530 := n9_
              clear n0_ n1_ n2_ n3_ n4_ n5_ n6_ n7_ n8_ n9_
              clear hb hbox hg
              refine hK.out _ _ ⟨(blk_cell BK530.out 0).trans rfl, (blk_cell BK530.out 1).trans rfl, (blk_cell BK530.out 2).trans rfl, (blk_cell BK530.out 3).trans rfl, (blk_cell BK530.out 4).trans rfl, (blk_cell BK530.out 5).trans rfl⟩ (fun hHeld => ?_)
              clear hK K
              refine norm_ (a' := ?_) ?_ ?_
              rotate_left
              ·show Act.put _ (some 9) _ = _
               simp only [Act.put, List.setIfInBounds_toArray, List.set_cons_zero, List.set_cons_succ, i64_w, i32_w]
               rfl
              exact norm_ (by simp only [putAll, Act.put, List.setIfInBounds_toArray, List.set_cons_zero, List.set_cons_succ]) (hCont (v537, .slice Ao70 y539.length co70, v546, gb549) _ ⟨hHeld, (by (with_reducible repeat (first | apply Kd.R_alloc | apply Kd.R_drewN | apply Kd.R_drew)); exact Kd.R_mono HO534.out (fun _ hk => ⟨hk.1.2, hk.2⟩)), (by (with_reducible repeat (first | apply Kd.R_alloc | apply Kd.R_drewN | apply Kd.R_drew)); exact HO541.out), (by (with_reducible repeat (first | apply Kd.R_alloc | apply Kd.R_drewN | apply Kd.R_drew)); exact Kd.R_mono HO547.out (fun _ hk => ⟨hk.1.2, hk.2⟩)), (by (with_reducible repeat (first | refine blk_drewN ?_ _ | refine blk_drew ?_ | refine blk_alloc ?_ _)); exact BK530.out), (by (with_reducible repeat (first | refine blk_drewN ?_ _ | refine blk_drew ?_ | refine blk_alloc ?_ _)); exact BK549.out), GW549.out, GE549.out, NB530_549.out, NB549_530.out, (by repeat (first | (with_reducible first | exact HB.out | apply below_alloc | apply pw_below_drewN | apply below_drew1 | refine below_set ?_ GE530.out | refine below_set ?_ GE549.out) | exact HB.out))⟩)
             ·skip
              refine box_step ?hg (N := 9) ?hd (cs := #[.int .i64 0, .int .i64 0, .bool false, .slice none 0 0]) (t := 47) ?hr ?_; (case hd => rfl); (case hg => rfl); (case hr => first | (go_simp; done) | (go_simp; rfl))
              intro gb549 hg w70 hbox hb
              have n0_ := Aside0.mk (Kd.R_below (by (with_reducible repeat (first | apply Kd.R_alloc | apply Kd.R_drewN | apply Kd.R_drew)); exact HO534.out) hb)
              have n1_ := Aside0.mk (Kd.R_below (by (with_reducible repeat (first | apply Kd.R_alloc | apply Kd.R_drewN | apply Kd.R_drew)); exact HO541.out) hb)
              have n2_ := Aside0.mk (blk_below (g := gb530) (o := .cells #[.int .u32 a0_0, .int .u32 a0_1, .int .i64 a0_2, .int .i64 a0_3, .bool false, .slice A0_5 l0_5.length c0_5] 49 (0, 0)) (by (with_reducible repeat (first | refine blk_drewN ?_ _ | refine blk_drew ?_ | refine blk_alloc ?_ _)); exact BK530.out) hb)
              have n3_ := Aside0.mk (below_step (by repeat (first | (with_reducible first | exact HB.out | apply below_alloc | apply pw_below_drewN | apply below_drew1 | refine below_set ?_ GE530.out) | exact HB.out)) hb)
              have n4_ := Aside0.mk (hbox)
              have n5_ := Aside0.mk ((by rw [hg]; exact (below_size (by repeat (first | (with_reducible first | exact HB.out | apply below_alloc | apply pw_below_drewN | apply below_drew1 | refine below_set ?_ GE530.out) | exact HB.out))) : w.heap.size ≤ gb549))
              have n6_ := Aside0.mk ((by rw [hg]; exact (below_size (by repeat (first | (with_reducible first | exact HB.out | apply below_alloc | apply pw_below_drewN | apply below_drew1 | refine below_set ?_ GE530.out) | exact HB.out))) : w.heap.size ≤ gb549))
              have n7_ := Aside0.mk ((by rw [hg]; exact Nat.ne_of_lt (blk_lt (g := gb530) (o := .cells #[.int .u32 a0_0, .int .u32 a0_1, .int .i64 a0_2, .int .i64 a0_3, .bool false, .slice A0_5 l0_5.length c0_5] 49 (0, 0)) (by (with_reducible repeat (first | refine blk_drewN ?_ _ | refine blk_drew ?_ | refine blk_alloc ?_ _)); exact BK530.out)) : gb530 ≠ gb549))
              have n8_ := Aside0.mk ((by rw [hg]; exact Nat.ne_of_gt (blk_lt (g := gb530) (o := .cells #[.int .u32 a0_0, .int .u32 a0_1, .int .i64 a0_2, .int .i64 a0_3, .bool false, .slice A0_5 l0_5.length c0_5] 49 (0, 0)) (by (with_reducible repeat (first | refine blk_drewN ?_ _ | refine blk_drew ?_ | refine blk_alloc ?_ _)); exact BK530.out)) : gb549 ≠ gb530))
              clear HO534
              clear HO541
              clear BK530
              clear HB
              have HO534 := n0_
              have HO541 := n1_
              have BK530 := n2_
              have HB := n3_
              have BK549 := n4_
              have GW549 := n5_
              have GE549 := n6_
              have NB530_549 := n7_
              have NB549_530 := n8_
              clear n0_ n1_ n2_ n3_ n4_ n5_ n6_ n7_ n8_
              clear hb hbox hg
              obtain ⟨Ao71, co71, eo71⟩ := Kd.R_slice HO541.out
              (first | subst eo71 | (injection eo71 with f1_ f2_ f3_; have f4_ := f1_.symm; have f5_ := f3_.symm; clear f1_ f2_ f3_; subst f4_; subst f5_))
              refine hK.out _ _ ⟨(blk_cell BK530.out 0).trans rfl, (blk_cell BK530.out 1).trans rfl, (blk_cell BK530.out 2).trans rfl, (blk_cell BK530.out 3).trans rfl, (blk_cell BK530.out 4).trans rfl, (blk_cell BK530.out 5).trans rfl⟩ (fun hHeld => ?_)
              clear hK K
              refine norm_ (a' := ?_) ?_ ?_
              rotate_left
              ·show Act.put _ (some 9) _ = _
               simp only [Act.put, List.setIfInBounds_toArray, List.set_cons_zero, List.set_cons_succ, i64_w, i32_w]
               rfl
              refine one_ (i := 8) (N := some 48) #[true, true, true, true, true, true, true, true, true, false, false, false, true, false, false] rfl rfl (one_of HT_.out (by kernel_rfl)) (by decide) (fun K hK => ?_)
              refine goes_ Try.func43 (by kernel_rfl) rfl #[.int .u32 a0_0, .int .u32 a0_1, .slice Ao71 y539.length co71] (by rfl) rfl rfl (by (try simp only [List.map_toArray, List.map_cons, List.map_nil]); first | done | rfl | (simp only [List.length_drop, List.length_take]; rfl)) ?_
              with_reducible refine (udp_Parse.calls kj5 a0_0 a0_1 _ _ y539 t542 t543 t544 t545 t548 _ ?side1 ?side2 A17.out).mono ?_
              (case side1 => repeat (first | exact (Kd.R_reads' HO541.out).2.2 | (with_reducible refine Kd.C_alloc ?_ _) | (with_reducible refine Kd.C_drewN ?_ _) | (with_reducible refine Kd.C_drew ?_)))
              (case side2 => exact (Kd.R_reads' HO541.out).2.1)
              rintro e w72 ⟨v546, rfl, ho0, hb⟩
              refine ⟨_, rfl, ?_⟩
              have n0_ := Aside0.mk (Kd.R_elder' (by (with_reducible repeat (first | apply Kd.R_alloc | apply Kd.R_drewN | apply Kd.R_drew)); exact HO534.out) (Kd.R_base ho0) hb)
              have n1_ := Aside0.mk (Kd.R_elder' (by (with_reducible repeat (first | apply Kd.R_alloc | apply Kd.R_drewN | apply Kd.R_drew)); exact HO541.out) (Kd.R_base ho0) hb)
              have n2_ := Aside0.mk (Kd.R_lower (Kd.R_new' (Kd.R_new' ho0 (Kd.R_lt (by (with_reducible repeat (first | apply Kd.R_alloc | apply Kd.R_drewN | apply Kd.R_drew)); exact HO534.out))) (Kd.R_lt (by (with_reducible repeat (first | apply Kd.R_alloc | apply Kd.R_drewN | apply Kd.R_drew)); exact HO541.out))) (below_size (by repeat (first | (with_reducible first | exact HB.out | apply below_alloc | apply pw_below_drewN | apply below_drew1 | refine below_set ?_ GE530.out | refine below_set ?_ GE549.out) | exact HB.out))))
              have n3_ := Aside0.mk (blk_below (g := gb530) (o := .cells #[.int .u32 a0_0, .int .u32 a0_1, .int .i64 a0_2, .int .i64 a0_3, .bool false, .slice A0_5 l0_5.length c0_5] 49 (0, 0)) (by (with_reducible repeat (first | refine blk_drewN ?_ _ | refine blk_drew ?_ | refine blk_alloc ?_ _)); exact BK530.out) hb)
              have n4_ := Aside0.mk (blk_below (g := gb549) (o := .cells #[.int .i64 0, .int .i64 0, .bool false, .slice none 0 0] 47 (0, 0)) (by (with_reducible repeat (first | refine blk_drewN ?_ _ | refine blk_drew ?_ | refine blk_alloc ?_ _)); exact BK549.out) hb)
              have n5_ := Aside0.mk (below_step (by repeat (first | (with_reducible first | exact HB.out | apply below_alloc | apply pw_below_drewN | apply below_drew1 | refine below_set ?_ GE530.out | refine below_set ?_ GE549.out) | exact HB.out)) hb)
              clear HO534
              clear HO541
              clear BK530
              clear BK549
              clear HB
              have HO534 := n0_
              have HO541 := n1_
              have HO547 := n2_
              have BK530 := n3_
              have BK549 := n4_
              have HB := n5_
              clear n0_ n1_ n2_ n3_ n4_ n5_
              (try clear hb)
              (try clear hb2)
              (try clear hk)
              (try clear hi)
              (try clear ho0)
              refine hK.out _ _ ⟨(blk_cell BK530.out 0).trans rfl, (blk_cell BK530.out 1).trans rfl, (blk_cell BK530.out 2).trans rfl, (blk_cell BK530.out 3).trans rfl, (blk_cell BK530.out 4).trans rfl, (blk_cell BK530.out 5).trans rfl⟩ (fun hHeld => ?_)
              clear hK K
              refine norm_ (a' := ?_) ?_ ?_
              rotate_left
              ·show Act.put _ (some 48) _ = _
               simp only [Act.put, List.setIfInBounds_toArray, List.set_cons_zero, List.set_cons_succ, i64_w, i32_w]
               rfl
              refine pure_ (i := 9) (N := some 39) (v := ?_) (a' := ?_) #[true, true, true, true, true, true, true, true, true, true, false, false, true, false, false] rfl rfl (any_of HT_.out (by kernel_rfl)) (fun _ _ _ h => h) (Or.inl ⟨by rfl, ?_⟩) ?_ ?_
              rotate_left
              ·intro w'
               go_simp
               with_reducible rfl
              rotate_left
              ·simp only [Act.put, List.setIfInBounds_toArray, List.set_cons_zero, List.set_cons_succ, i64_w, i32_w]
               rfl
              refine pure_ (i := 10) (N := some 49) (v := ?_) (a' := ?_) #[true, true, true, true, true, true, true, true, true, true, true, false, true, false, false] rfl rfl (any_of HT_.out (by kernel_rfl)) (fun _ _ _ h => h) (Or.inl ⟨by rfl, ?_⟩) ?_ ?_
              rotate_left
              ·intro w'
               go_simp
               with_reducible rfl
              rotate_left
              ·simp only [Act.put, List.setIfInBounds_toArray, List.set_cons_zero, List.set_cons_succ, i64_w, i32_w]
               rfl
              refine pure_ (i := 11) (N := some 50) (v := ?_) (a' := ?_) #[true, true, true, true, true, true, true, true, true, true, true, true, true, false, false] rfl rfl (any_of HT_.out (by kernel_rfl)) (fun _ _ _ h => h) (Or.inl ⟨by rfl, ?_⟩) ?_ ?_
              rotate_left
              ·intro w'
               go_simp
               with_reducible rfl
              rotate_left
              ·simp only [Act.put, List.setIfInBounds_toArray, List.set_cons_zero, List.set_cons_succ, i64_w, i32_w]
               rfl
              exact norm_ (by simp only [putAll, Act.put, List.setIfInBounds_toArray, List.set_cons_zero, List.set_cons_succ]) (hCont (v537, .slice Ao71 y539.length co71, v546, gb549) _ ⟨hHeld, (by (with_reducible repeat (first | apply Kd.R_alloc | apply Kd.R_drewN | apply Kd.R_drew)); exact Kd.R_mono HO534.out (fun _ hk => ⟨hk.1.2, hk.2⟩)), (by (with_reducible repeat (first | apply Kd.R_alloc | apply Kd.R_drewN | apply Kd.R_drew)); exact HO541.out), (by (with_reducible repeat (first | apply Kd.R_alloc | apply Kd.R_drewN | apply Kd.R_drew)); exact Kd.R_mono HO547.out (fun _ hk => ⟨hk.1.2, hk.2⟩)), (by (with_reducible repeat (first | refine blk_drewN ?_ _ | refine blk_drew ?_ | refine blk_alloc ?_ _)); exact BK530.out), (by (with_reducible repeat (first | refine blk_drewN ?_ _ | refine blk_drew ?_ | refine blk_alloc ?_ _)); exact BK549.out), GW549.out, GE549.out, NB530_549.out, NB549_530.out, (by repeat (first | (with_reducible first | exact HB.out | apply below_alloc | apply pw_below_drewN | apply below_drew1 | refine below_set ?_ GE530.out | refine below_set ?_ GE549.out) | exact HB.out))⟩)
            ·skip
             refine box_step ?hg (N := 9) ?hd (cs := #[.int .i64 0, .int .i64 0, .bool false, .slice none 0 0]) (t := 47) ?hr ?_; (case hd => rfl); (case hg => rfl); (case hr => first | (go_simp; done) | (go_simp; rfl))
             intro gb549 hg w69 hbox hb
             have n0_ := Aside0.mk (Kd.R_below (by (with_reducible repeat (first | apply Kd.R_alloc | apply Kd.R_drewN | apply Kd.R_drew)); exact HO534.out) hb)
             have n1_ := Aside0.mk (Kd.R_below (by (with_reducible repeat (first | apply Kd.R_alloc | apply Kd.R_drewN | apply Kd.R_drew)); exact HO538.out) hb)
             have n2_ := Aside0.mk (blk_below (g := gb530) (o := .cells #[.int .u32 a0_0, .int .u32 a0_1, .int .i64 a0_2, .int .i64 a0_3, .bool false, .slice A0_5 l0_5.length c0_5] 49 (0, 0)) (by (with_reducible repeat (first | refine blk_drewN ?_ _ | refine blk_drew ?_ | refine blk_alloc ?_ _)); exact BK530.out) hb)
             have n3_ := Aside0.mk (below_step (by repeat (first | (with_reducible first | exact HB.out | apply below_alloc | apply pw_below_drewN | apply below_drew1 | refine below_set ?_ GE530.out) | exact HB.out)) hb)
             have n4_ := Aside0.mk (hbox)
             have n5_ := Aside0.mk ((by rw [hg]; exact (below_size (by repeat (first | (with_reducible first | exact HB.out | apply below_alloc | apply pw_below_drewN | apply below_drew1 | refine below_set ?_ GE530.out) | exact HB.out))) : w.heap.size ≤ gb549))
             have n6_ := Aside0.mk ((by rw [hg]; exact (below_size (by repeat (first | (with_reducible first | exact HB.out | apply below_alloc | apply pw_below_drewN | apply below_drew1 | refine below_set ?_ GE530.out) | exact HB.out))) : w.heap.size ≤ gb549))
             have n7_ := Aside0.mk ((by rw [hg]; exact Nat.ne_of_lt (blk_lt (g := gb530) (o := .cells #[.int .u32 a0_0, .int .u32 a0_1, .int .i64 a0_2, .int .i64 a0_3, .bool false, .slice A0_5 l0_5.length c0_5] 49 (0, 0)) (by (with_reducible repeat (first | refine blk_drewN ?_ _ | refine blk_drew ?_ | refine blk_alloc ?_ _)); exact BK530.out)) : gb530 ≠ gb549))
             have n8_ := Aside0.mk ((by rw [hg]; exact Nat.ne_of_gt (blk_lt (g := gb530) (o := .cells #[.int .u32 a0_0, .int .u32 a0_1, .int .i64 a0_2, .int .i64 a0_3, .bool false, .slice A0_5 l0_5.length c0_5] 49 (0, 0)) (by (with_reducible repeat (first | refine blk_drewN ?_ _ | refine blk_drew ?_ | refine blk_alloc ?_ _)); exact BK530.out)) : gb549 ≠ gb530))
             clear HO534
             clear HO538
             clear BK530
             clear HB
             have HO534 := n0_
             have HO538 := n1_
             have BK530 := n2_
             have HB := n3_
             have BK549 := n4_
             have GW549 := n5_
             have GE549 := n6_
             have NB530_549 := n7_
             have NB549_530 := n8_
             clear n0_ n1_ n2_ n3_ n4_ n5_ n6_ n7_ n8_
             clear hb hbox hg
             refine hK.out _ _ ⟨(blk_cell BK530.out 0).trans rfl, (blk_cell BK530.out 1).trans rfl, (blk_cell BK530.out 2).trans rfl, (blk_cell BK530.out 3).trans rfl, (blk_cell BK530.out 4).trans rfl, (blk_cell BK530.out 5).trans rfl⟩ (fun hHeld => ?_)
             clear hK K
             refine norm_ (a' := ?_) ?_ ?_
             rotate_left
             ·show Act.put _ (some 9) _ = _
              simp only [Act.put, List.setIfInBounds_toArray, List.set_cons_zero, List.set_cons_succ, i64_w, i32_w]
              rfl
             refine one_ (i := 7) (N := some 47) #[true, true, true, true, true, true, true, true, false, false, false, false, true, false, false] rfl rfl (one_of HT_.out (by kernel_rfl)) (by decide) (fun K hK => ?_)
             refine Kd.R_append_rows_step (Kd.int .u8) (w0 := w) w.heap.size (by rfl) (.tmp 45) (.tmp 46) 22 5 (.int .u8 0) 1 rfl Try.underlying22 info5 rfl (by decide) (by omega) v537 t536 l1 _ _ _ (fun k_ => some k_ ≠ (.slice Ao66 t532.length co66 : Value).ownBlock) (fun _ => False) rfl rfl ?aO ?aR (fun _ _ h => h) (fun _ h => h.elim) ?aF ?aB ?aS ?aL ?_
             (case aR => repeat (first | exact (Kd.C_below HR1.out HB.out) | (with_reducible refine Kd.C_alloc ?_ _) | (with_reducible refine Kd.C_drewN ?_ _) | (with_reducible refine Kd.C_drew ?_)))
             (case aB => exact (by repeat (first | (with_reducible first | exact HB.out | apply below_alloc | apply pw_below_drewN | apply below_drew1 | refine below_set ?_ GE530.out | refine below_set ?_ GE549.out) | exact HB.out)))
             (case aF => exact (fun k_ hk => Kd.fresh' (Kd.R_lt (by (with_reducible repeat (first | apply Kd.R_alloc | apply Kd.R_drewN | apply Kd.R_drew)); exact HO534.out)) k_ hk))
             (case aO => exact (by (with_reducible repeat (first | apply Kd.R_alloc | apply Kd.R_drewN | apply Kd.R_drew)); exact Kd.R_mono HO538.out (fun _ hk => hk.2)))
             (case aS => exact (below_size (by repeat (first | (with_reducible first | exact HB.out | apply below_alloc | apply pw_below_drewN | apply below_drew1 | refine below_set ?_ GE530.out | refine below_set ?_ GE549.out) | exact HB.out))))
             (case aL => have := LMc16.out; omega)
             intro v540 w70 ho hb hg hat
             rw [← Ny539.out] at ho
             have n0_ := Aside0.mk (blk_grown (g := gb530) (o := .cells #[.int .u32 a0_0, .int .u32 a0_1, .int .i64 a0_2, .int .i64 a0_3, .bool false, .slice A0_5 l0_5.length c0_5] 49 (0, 0)) (by (with_reducible repeat (first | refine blk_drewN ?_ _ | refine blk_drew ?_ | refine blk_alloc ?_ _)); exact BK530.out) hg (Kd.R_ne HO538.out BK530.out (by decide)))
             have n1_ := Aside0.mk (Kd.R_after (ok := (fun _ => True)) (by (with_reducible repeat (first | apply Kd.R_alloc | apply Kd.R_drewN | apply Kd.R_drew)); exact HO534.out) hg hat)
             have n2_ := Aside0.mk (blk_grown (g := gb549) (o := .cells #[.int .i64 0, .int .i64 0, .bool false, .slice none 0 0] 47 (0, 0)) (by (with_reducible repeat (first | refine blk_drewN ?_ _ | refine blk_drew ?_ | refine blk_alloc ?_ _)); exact BK549.out) hg (Kd.R_ne HO538.out BK549.out (by decide)))
             have n3_ := Aside0.mk (hb)
             have n4_ := Aside0.mk (ho)
             clear BK530
             clear HO534
             clear BK549
             clear HB
             clear HO538
             have BK530 := n0_
             have HO534 := n1_
             have BK549 := n2_
             have HB := n3_
             have HO541 := n4_
             clear n0_ n1_ n2_ n3_ n4_
             clear ho hb hg hat
             obtain ⟨Ao71, co71, eo71⟩ := Kd.R_slice HO541.out
             (first | subst eo71 | (injection eo71 with f1_ f2_ f3_; have f4_ := f1_.symm; have f5_ := f3_.symm; clear f1_ f2_ f3_; subst f4_; subst f5_))
             refine hK.out _ _ ⟨(blk_cell BK530.out 0).trans rfl, (blk_cell BK530.out 1).trans rfl, (blk_cell BK530.out 2).trans rfl, (blk_cell BK530.out 3).trans rfl, (blk_cell BK530.out 4).trans rfl, (blk_cell BK530.out 5).trans rfl⟩ (fun hHeld => ?_)
             clear hK K
             refine norm_ (a' := ?_) ?_ ?_
             rotate_left
             ·show Act.put _ (some 47) _ = _
              simp only [Act.put, List.setIfInBounds_toArray, List.set_cons_zero, List.set_cons_succ, i64_w, i32_w]
              rfl
             refine one_ (i := 8) (N := some 48) #[true, true, true, true, true, true, true, true, true, false, false, false, true, false, false] rfl rfl (one_of HT_.out (by kernel_rfl)) (by decide) (fun K hK => ?_)
             refine goes_ Try.func43 (by kernel_rfl) rfl #[.int .u32 a0_0, .int .u32 a0_1, .slice Ao71 y539.length co71] (by rfl) rfl rfl (by (try simp only [List.map_toArray, List.map_cons, List.map_nil]); first | done | rfl | (simp only [List.length_drop, List.length_take]; rfl)) ?_
             with_reducible refine (udp_Parse.calls kj5 a0_0 a0_1 _ _ y539 t542 t543 t544 t545 t548 _ ?side1 ?side2 A17.out).mono ?_
             (case side1 => repeat (first | exact (Kd.R_reads' HO541.out).2.2 | (with_reducible refine Kd.C_alloc ?_ _) | (with_reducible refine Kd.C_drewN ?_ _) | (with_reducible refine Kd.C_drew ?_)))
             (case side2 => exact (Kd.R_reads' HO541.out).2.1)
             rintro e w72 ⟨v546, rfl, ho0, hb⟩
             refine ⟨_, rfl, ?_⟩
             have n0_ := Aside0.mk (Kd.R_elder' (by (with_reducible repeat (first | apply Kd.R_alloc | apply Kd.R_drewN | apply Kd.R_drew)); exact HO534.out) (Kd.R_base ho0) hb)
             have n1_ := Aside0.mk (Kd.R_elder' (by (with_reducible repeat (first | apply Kd.R_alloc | apply Kd.R_drewN | apply Kd.R_drew)); exact HO541.out) (Kd.R_base ho0) hb)
             have n2_ := Aside0.mk (Kd.R_lower (Kd.R_new' (Kd.R_new' ho0 (Kd.R_lt (by (with_reducible repeat (first | apply Kd.R_alloc | apply Kd.R_drewN | apply Kd.R_drew)); exact HO534.out))) (Kd.R_lt (by (with_reducible repeat (first | apply Kd.R_alloc | apply Kd.R_drewN | apply Kd.R_drew)); exact HO541.out))) (below_size (by repeat (first | (with_reducible first | exact HB.out | apply below_alloc | apply pw_below_drewN | apply below_drew1 | refine below_set ?_ GE530.out | refine below_set ?_ GE549.out) | exact HB.out))))
             have n3_ := Aside0.mk (blk_below (g := gb530) (o := .cells #[.int .u32 a0_0, .int .u32 a0_1, .int .i64 a0_2, .int .i64 a0_3, .bool false, .slice A0_5 l0_5.length c0_5] 49 (0, 0)) (by (with_reducible repeat (first | refine blk_drewN ?_ _ | refine blk_drew ?_ | refine blk_alloc ?_ _)); exact BK530.out) hb)
             have n4_ := Aside0.mk (blk_below (g := gb549) (o := .cells #[.int .i64 0, .int .i64 0, .bool false, .slice none 0 0] 47 (0, 0)) (by (with_reducible repeat (first | refine blk_drewN ?_ _ | refine blk_drew ?_ | refine blk_alloc ?_ _)); exact BK549.out) hb)
             have n5_ := Aside0.mk (below_step (by repeat (first | (with_reducible first | exact HB.out | apply below_alloc | apply pw_below_drewN | apply below_drew1 | refine below_set ?_ GE530.out | refine below_set ?_ GE549.out) | exact HB.out)) hb)
             clear HO534
             clear HO541
             clear BK530
             clear BK549
             clear HB
             have HO534 := n0_
             have HO541 := n1_
             have HO547 := n2_
             have BK530 := n3_
             have BK549 := n4_
             have HB := n5_
             clear n0_ n1_ n2_ n3_ n4_ n5_
             (try clear hb)
             (try clear hb2)
             (try clear hk)
             (try clear hi)
             (try clear ho0)
             refine hK.out _ _ ⟨(blk_cell BK530.out 0).trans rfl, (blk_cell BK530.out 1).trans rfl, (blk_cell BK530.out 2).trans rfl, (blk_cell BK530.out 3).trans rfl, (blk_cell BK530.out 4).trans rfl, (blk_cell BK530.out 5).trans rfl⟩ (fun hHeld => ?_)
             clear hK K
             refine norm_ (a' := ?_) ?_ ?_
             rotate_left
             ·show Act.put _ (some 48) _ = _
              simp only [Act.put, List.setIfInBounds_toArray, List.set_cons_zero, List.set_cons_succ, i64_w, i32_w]
              rfl
             refine pure_ (i := 9) (N := some 39) (v := ?_) (a' := ?_) #[true, true, true, true, true, true, true, true, true, true, false, false, true, false, false] rfl rfl (any_of HT_.out (by kernel_rfl)) (fun _ _ _ h => h) (Or.inl ⟨by rfl, ?_⟩) ?_ ?_
             rotate_left
             ·intro w'
              go_simp
              with_reducible rfl
             rotate_left
             ·simp only [Act.put, List.setIfInBounds_toArray, List.set_cons_zero, List.set_cons_succ, i64_w, i32_w]
              rfl
             refine pure_ (i := 10) (N := some 49) (v := ?_) (a' := ?_) #[true, true, true, true, true, true, true, true, true, true, true, false, true, false, false] rfl rfl (any_of HT_.out (by kernel_rfl)) (fun _ _ _ h => h) (Or.inl ⟨by rfl, ?_⟩) ?_ ?_
             rotate_left
             ·intro w'
              go_simp
              with_reducible rfl
             rotate_left
             ·simp only [Act.put, List.setIfInBounds_toArray, List.set_cons_zero, List.set_cons_succ, i64_w, i32_w]
              rfl
             refine pure_ (i := 11) (N := some 50) (v := ?_) (a' := ?_) #[true, true, true, true, true, true, true, true, true, true, true, true, true, false, false] rfl rfl (any_of HT_.out (by kernel_rfl)) (fun _ _ _ h => h) (Or.inl ⟨by rfl, ?_⟩) ?_ ?_
             rotate_left
             ·intro w'
              go_simp
              with_reducible rfl
             rotate_left
             ·simp only [Act.put, List.setIfInBounds_toArray, List.set_cons_zero, List.set_cons_succ, i64_w, i32_w]
              rfl
             exact norm_ (by simp only [putAll, Act.put, List.setIfInBounds_toArray, List.set_cons_zero, List.set_cons_succ]) (hCont (v537, .slice Ao71 y539.length co71, v546, gb549) _ ⟨hHeld, (by (with_reducible repeat (first | apply Kd.R_alloc | apply Kd.R_drewN | apply Kd.R_drew)); exact Kd.R_mono HO534.out (fun _ hk => ⟨hk.1.2, hk.2⟩)), (by (with_reducible repeat (first | apply Kd.R_alloc | apply Kd.R_drewN | apply Kd.R_drew)); exact HO541.out), (by (with_reducible repeat (first | apply Kd.R_alloc | apply Kd.R_drewN | apply Kd.R_drew)); exact Kd.R_mono HO547.out (fun _ hk => ⟨hk.1.2, hk.2⟩)), (by (with_reducible repeat (first | refine blk_drewN ?_ _ | refine blk_drew ?_ | refine blk_alloc ?_ _)); exact BK530.out), (by (with_reducible repeat (first | refine blk_drewN ?_ _ | refine blk_drew ?_ | refine blk_alloc ?_ _)); exact BK549.out), GW549.out, GE549.out, NB530_549.out, NB549_530.out, (by repeat (first | (with_reducible first | exact HB.out | apply below_alloc | apply pw_below_drewN | apply below_drew1 | refine below_set ?_ GE530.out | refine below_set ?_ GE549.out) | exact HB.out))⟩)
           ·skip
            refine box_step ?hg (N := 9) ?hd (cs := #[.int .i64 0, .int .i64 0, .bool false, .slice none 0 0]) (t := 47) ?hr ?_; (case hd => rfl); (case hg => rfl); (case hr => first | (go_simp; done) | (go_simp; rfl))
            intro gb549 hg w68 hbox hb
            have n0_ := Aside0.mk (Kd.R_below (by (with_reducible repeat (first | apply Kd.R_alloc | apply Kd.R_drewN | apply Kd.R_drew)); exact HO534.out) hb)
            have n1_ := Aside0.mk (blk_below (g := gb530) (o := .cells #[.int .u32 a0_0, .int .u32 a0_1, .int .i64 a0_2, .int .i64 a0_3, .bool false, .slice A0_5 l0_5.length c0_5] 49 (0, 0)) (by (with_reducible repeat (first | refine blk_drewN ?_ _ | refine blk_drew ?_ | refine blk_alloc ?_ _)); exact BK530.out) hb)
            have n2_ := Aside0.mk (below_step (by repeat (first | (with_reducible first | exact HB.out | apply below_alloc | apply pw_below_drewN | apply below_drew1 | refine below_set ?_ GE530.out) | exact HB.out)) hb)
            have n3_ := Aside0.mk (hbox)
            have n4_ := Aside0.mk ((by rw [hg]; exact (below_size (by repeat (first | (with_reducible first | exact HB.out | apply below_alloc | apply pw_below_drewN | apply below_drew1 | refine below_set ?_ GE530.out) | exact HB.out))) : w.heap.size ≤ gb549))
            have n5_ := Aside0.mk ((by rw [hg]; exact (below_size (by repeat (first | (with_reducible first | exact HB.out | apply below_alloc | apply pw_below_drewN | apply below_drew1 | refine below_set ?_ GE530.out) | exact HB.out))) : w.heap.size ≤ gb549))
            have n6_ := Aside0.mk ((by rw [hg]; exact Nat.ne_of_lt (blk_lt (g := gb530) (o := .cells #[.int .u32 a0_0, .int .u32 a0_1, .int .i64 a0_2, .int .i64 a0_3, .bool false, .slice A0_5 l0_5.length c0_5] 49 (0, 0)) (by (with_reducible repeat (first | refine blk_drewN ?_ _ | refine blk_drew ?_ | refine blk_alloc ?_ _)); exact BK530.out)) : gb530 ≠ gb549))
            have n7_ := Aside0.mk ((by rw [hg]; exact Nat.ne_of_gt (blk_lt (g := gb530) (o := .cells #[.int .u32 a0_0, .int .u32 a0_1, .int .i64 a0_2, .int .i64 a0_3, .bool false, .slice A0_5 l0_5.length c0_5] 49 (0, 0)) (by (with_reducible repeat (first | refine blk_drewN ?_ _ | refine blk_drew ?_ | refine blk_alloc ?_ _)); exact BK530.out)) : gb549 ≠ gb530))
            clear HO534
            clear BK530
            clear HB
            have HO534 := n0_
            have BK530 := n1_
            have HB := n2_
            have BK549 := n3_
            have GW549 := n4_
            have GE549 := n5_
            have NB530_549 := n6_
            have NB549_530 := n7_
            clear n0_ n1_ n2_ n3_ n4_ n5_ n6_ n7_
            clear hb hbox hg
            refine hK.out _ _ ⟨(blk_cell BK530.out 0).trans rfl, (blk_cell BK530.out 1).trans rfl, (blk_cell BK530.out 2).trans rfl, (blk_cell BK530.out 3).trans rfl, (blk_cell BK530.out 4).trans rfl, (blk_cell BK530.out 5).trans rfl⟩ (fun hHeld => ?_)
            clear hK K
            refine norm_ (a' := ?_) ?_ ?_
            rotate_left
            ·show Act.put _ (some 9) _ = _
             simp only [Act.put, List.setIfInBounds_toArray, List.set_cons_zero, List.set_cons_succ, i64_w, i32_w]
             rfl
            refine one_ (i := 5) (N := some 45) #[true, true, true, true, true, true, true, false, false, false, false, false, true, false, false] rfl rfl (one_of HT_.out (by kernel_rfl)) (by decide) (fun K hK => ?_)
            refine goes_ Try.func25 (by kernel_rfl) rfl #[.slice Ao66 t532.length co66] (by rfl) rfl rfl (by (try simp only [List.map_toArray, List.map_cons, List.map_nil]); first | done | rfl | (simp only [List.length_drop, List.length_take]; rfl)) ?_
            with_reducible refine (bailiwickref1_Copy.calls kj5 _ _ t532 t536 _ ?side1 ?side2 A15.out).mono ?_
            (case side1 => repeat (first | exact (Kd.R_reads' HO534.out).2.2 | (with_reducible refine Kd.C_alloc ?_ _) | (with_reducible refine Kd.C_drewN ?_ _) | (with_reducible refine Kd.C_drew ?_)))
            (case side2 => exact (Kd.R_reads' HO534.out).2.1)
            rintro e w69 ⟨v537, rfl, ho0, hb⟩
            refine ⟨_, rfl, ?_⟩
            have n0_ := Aside0.mk (Kd.R_elder' (by (with_reducible repeat (first | apply Kd.R_alloc | apply Kd.R_drewN | apply Kd.R_drew)); exact HO534.out) (Kd.R_base ho0) hb)
            have n1_ := Aside0.mk (Kd.R_lower (Kd.R_new' ho0 (Kd.R_lt (by (with_reducible repeat (first | apply Kd.R_alloc | apply Kd.R_drewN | apply Kd.R_drew)); exact HO534.out))) (below_size (by repeat (first | (with_reducible first | exact HB.out | apply below_alloc | apply pw_below_drewN | apply below_drew1 | refine below_set ?_ GE530.out | refine below_set ?_ GE549.out) | exact HB.out))))
            have n2_ := Aside0.mk (blk_below (g := gb530) (o := .cells #[.int .u32 a0_0, .int .u32 a0_1, .int .i64 a0_2, .int .i64 a0_3, .bool false, .slice A0_5 l0_5.length c0_5] 49 (0, 0)) (by (with_reducible repeat (first | refine blk_drewN ?_ _ | refine blk_drew ?_ | refine blk_alloc ?_ _)); exact BK530.out) hb)
            have n3_ := Aside0.mk (blk_below (g := gb549) (o := .cells #[.int .i64 0, .int .i64 0, .bool false, .slice none 0 0] 47 (0, 0)) (by (with_reducible repeat (first | refine blk_drewN ?_ _ | refine blk_drew ?_ | refine blk_alloc ?_ _)); exact BK549.out) hb)
            have n4_ := Aside0.mk (below_step (by repeat (first | (with_reducible first | exact HB.out | apply below_alloc | apply pw_below_drewN | apply below_drew1 | refine below_set ?_ GE530.out | refine below_set ?_ GE549.out) | exact HB.out)) hb)
            clear HO534
            clear BK530
            clear BK549
            clear HB
            have HO534 := n0_
            have HO538 := n1_
            have BK530 := n2_
            have BK549 := n3_
            have HB := n4_
            clear n0_ n1_ n2_ n3_ n4_
            (try clear hb)
            (try clear hb2)
            (try clear hk)
            (try clear hi)
            (try clear ho0)
            refine hK.out _ _ ⟨(blk_cell BK530.out 0).trans rfl, (blk_cell BK530.out 1).trans rfl, (blk_cell BK530.out 2).trans rfl, (blk_cell BK530.out 3).trans rfl, (blk_cell BK530.out 4).trans rfl, (blk_cell BK530.out 5).trans rfl⟩ (fun hHeld => ?_)
            clear hK K
            refine norm_ (a' := ?_) ?_ ?_
            rotate_left
            ·show Act.put _ (some 45) _ = _
             simp only [Act.put, List.setIfInBounds_toArray, List.set_cons_zero, List.set_cons_succ, i64_w, i32_w]
             rfl
            refine one_ (i := 7) (N := some 47) #[true, true, true, true, true, true, true, true, false, false, false, false, true, false, false] rfl rfl (one_of HT_.out (by kernel_rfl)) (by decide) (fun K hK => ?_)
            refine Kd.R_append_rows_step (Kd.int .u8) (w0 := w) w.heap.size (by rfl) (.tmp 45) (.tmp 46) 22 5 (.int .u8 0) 1 rfl Try.underlying22 info5 rfl (by decide) (by omega) v537 t536 l1 _ _ _ (fun k_ => some k_ ≠ (.slice Ao66 t532.length co66 : Value).ownBlock) (fun _ => False) rfl rfl ?aO ?aR (fun _ _ h => h) (fun _ h => h.elim) ?aF ?aB ?aS ?aL ?_
            (case aR => repeat (first | exact (Kd.C_below HR1.out HB.out) | (with_reducible refine Kd.C_alloc ?_ _) | (with_reducible refine Kd.C_drewN ?_ _) | (with_reducible refine Kd.C_drew ?_)))
            (case aB => exact (by repeat (first | (with_reducible first | exact HB.out | apply below_alloc | apply pw_below_drewN | apply below_drew1 | refine below_set ?_ GE530.out | refine below_set ?_ GE549.out) | exact HB.out)))
            (case aF => exact (fun k_ hk => Kd.fresh' (Kd.R_lt (by (with_reducible repeat (first | apply Kd.R_alloc | apply Kd.R_drewN | apply Kd.R_drew)); exact HO534.out)) k_ hk))
            (case aO => exact (by (with_reducible repeat (first | apply Kd.R_alloc | apply Kd.R_drewN | apply Kd.R_drew)); exact Kd.R_mono HO538.out (fun _ hk => hk.2)))
            (case aS => exact (below_size (by repeat (first | (with_reducible first | exact HB.out | apply below_alloc | apply pw_below_drewN | apply below_drew1 | refine below_set ?_ GE530.out | refine below_set ?_ GE549.out) | exact HB.out))))
            (case aL => have := LMc16.out; omega)
            intro v540 w70 ho hb hg hat
            rw [← Ny539.out] at ho
            have n0_ := Aside0.mk (blk_grown (g := gb530) (o := .cells #[.int .u32 a0_0, .int .u32 a0_1, .int .i64 a0_2, .int .i64 a0_3, .bool false, .slice A0_5 l0_5.length c0_5] 49 (0, 0)) (by (with_reducible repeat (first | refine blk_drewN ?_ _ | refine blk_drew ?_ | refine blk_alloc ?_ _)); exact BK530.out) hg (Kd.R_ne HO538.out BK530.out (by decide)))
            have n1_ := Aside0.mk (Kd.R_after (ok := (fun _ => True)) (by (with_reducible repeat (first | apply Kd.R_alloc | apply Kd.R_drewN | apply Kd.R_drew)); exact HO534.out) hg hat)
            have n2_ := Aside0.mk (blk_grown (g := gb549) (o := .cells #[.int .i64 0, .int .i64 0, .bool false, .slice none 0 0] 47 (0, 0)) (by (with_reducible repeat (first | refine blk_drewN ?_ _ | refine blk_drew ?_ | refine blk_alloc ?_ _)); exact BK549.out) hg (Kd.R_ne HO538.out BK549.out (by decide)))
            have n3_ := Aside0.mk (hb)
            have n4_ := Aside0.mk (ho)
            clear BK530
            clear HO534
            clear BK549
            clear HB
            clear HO538
            have BK530 := n0_
            have HO534 := n1_
            have BK549 := n2_
            have HB := n3_
            have HO541 := n4_
            clear n0_ n1_ n2_ n3_ n4_
            clear ho hb hg hat
            obtain ⟨Ao71, co71, eo71⟩ := Kd.R_slice HO541.out
            (first | subst eo71 | (injection eo71 with f1_ f2_ f3_; have f4_ := f1_.symm; have f5_ := f3_.symm; clear f1_ f2_ f3_; subst f4_; subst f5_))
            refine hK.out _ _ ⟨(blk_cell BK530.out 0).trans rfl, (blk_cell BK530.out 1).trans rfl, (blk_cell BK530.out 2).trans rfl, (blk_cell BK530.out 3).trans rfl, (blk_cell BK530.out 4).trans rfl, (blk_cell BK530.out 5).trans rfl⟩ (fun hHeld => ?_)
            clear hK K
            refine norm_ (a' := ?_) ?_ ?_
            rotate_left
            ·show Act.put _ (some 47) _ = _
             simp only [Act.put, List.setIfInBounds_toArray, List.set_cons_zero, List.set_cons_succ, i64_w, i32_w]
             rfl
            refine one_ (i := 8) (N := some 48) #[true, true, true, true, true, true, true, true, true, false, false, false, true, false, false] rfl rfl (one_of HT_.out (by kernel_rfl)) (by decide) (fun K hK => ?_)
            refine goes_ Try.func43 (by kernel_rfl) rfl #[.int .u32 a0_0, .int .u32 a0_1, .slice Ao71 y539.length co71] (by rfl) rfl rfl (by (try simp only [List.map_toArray, List.map_cons, List.map_nil]); first | done | rfl | (simp only [List.length_drop, List.length_take]; rfl)) ?_
            with_reducible refine (udp_Parse.calls kj5 a0_0 a0_1 _ _ y539 t542 t543 t544 t545 t548 _ ?side1 ?side2 A17.out).mono ?_
            (case side1 => repeat (first | exact (Kd.R_reads' HO541.out).2.2 | (with_reducible refine Kd.C_alloc ?_ _) | (with_reducible refine Kd.C_drewN ?_ _) | (with_reducible refine Kd.C_drew ?_)))
            (case side2 => exact (Kd.R_reads' HO541.out).2.1)
            rintro e w72 ⟨v546, rfl, ho0, hb⟩
            refine ⟨_, rfl, ?_⟩
            have n0_ := Aside0.mk (Kd.R_elder' (by (with_reducible repeat (first | apply Kd.R_alloc | apply Kd.R_drewN | apply Kd.R_drew)); exact HO534.out) (Kd.R_base ho0) hb)
            have n1_ := Aside0.mk (Kd.R_elder' (by (with_reducible repeat (first | apply Kd.R_alloc | apply Kd.R_drewN | apply Kd.R_drew)); exact HO541.out) (Kd.R_base ho0) hb)
            have n2_ := Aside0.mk (Kd.R_lower (Kd.R_new' (Kd.R_new' ho0 (Kd.R_lt (by (with_reducible repeat (first | apply Kd.R_alloc | apply Kd.R_drewN | apply Kd.R_drew)); exact HO534.out))) (Kd.R_lt (by (with_reducible repeat (first | apply Kd.R_alloc | apply Kd.R_drewN | apply Kd.R_drew)); exact HO541.out))) (below_size (by repeat (first | (with_reducible first | exact HB.out | apply below_alloc | apply pw_below_drewN | apply below_drew1 | refine below_set ?_ GE530.out | refine below_set ?_ GE549.out) | exact HB.out))))
            have n3_ := Aside0.mk (blk_below (g := gb530) (o := .cells #[.int .u32 a0_0, .int .u32 a0_1, .int .i64 a0_2, .int .i64 a0_3, .bool false, .slice A0_5 l0_5.length c0_5] 49 (0, 0)) (by (with_reducible repeat (first | refine blk_drewN ?_ _ | refine blk_drew ?_ | refine blk_alloc ?_ _)); exact BK530.out) hb)
            have n4_ := Aside0.mk (blk_below (g := gb549) (o := .cells #[.int .i64 0, .int .i64 0, .bool false, .slice none 0 0] 47 (0, 0)) (by (with_reducible repeat (first | refine blk_drewN ?_ _ | refine blk_drew ?_ | refine blk_alloc ?_ _)); exact BK549.out) hb)
            have n5_ := Aside0.mk (below_step (by repeat (first | (with_reducible first | exact HB.out | apply below_alloc | apply pw_below_drewN | apply below_drew1 | refine below_set ?_ GE530.out | refine below_set ?_ GE549.out) | exact HB.out)) hb)
            clear HO534
            clear HO541
            clear BK530
            clear BK549
            clear HB
            have HO534 := n0_
            have HO541 := n1_
            have HO547 := n2_
            have BK530 := n3_
            have BK549 := n4_
            have HB := n5_
            clear n0_ n1_ n2_ n3_ n4_ n5_
            (try clear hb)
            (try clear hb2)
            (try clear hk)
            (try clear hi)
            (try clear ho0)
            refine hK.out _ _ ⟨(blk_cell BK530.out 0).trans rfl, (blk_cell BK530.out 1).trans rfl, (blk_cell BK530.out 2).trans rfl, (blk_cell BK530.out 3).trans rfl, (blk_cell BK530.out 4).trans rfl, (blk_cell BK530.out 5).trans rfl⟩ (fun hHeld => ?_)
            clear hK K
            refine norm_ (a' := ?_) ?_ ?_
            rotate_left
            ·show Act.put _ (some 48) _ = _
             simp only [Act.put, List.setIfInBounds_toArray, List.set_cons_zero, List.set_cons_succ, i64_w, i32_w]
             rfl
            refine pure_ (i := 9) (N := some 39) (v := ?_) (a' := ?_) #[true, true, true, true, true, true, true, true, true, true, false, false, true, false, false] rfl rfl (any_of HT_.out (by kernel_rfl)) (fun _ _ _ h => h) (Or.inl ⟨by rfl, ?_⟩) ?_ ?_
            rotate_left
            ·intro w'
             go_simp
             with_reducible rfl
            rotate_left
            ·simp only [Act.put, List.setIfInBounds_toArray, List.set_cons_zero, List.set_cons_succ, i64_w, i32_w]
             rfl
            refine pure_ (i := 10) (N := some 49) (v := ?_) (a' := ?_) #[true, true, true, true, true, true, true, true, true, true, true, false, true, false, false] rfl rfl (any_of HT_.out (by kernel_rfl)) (fun _ _ _ h => h) (Or.inl ⟨by rfl, ?_⟩) ?_ ?_
            rotate_left
            ·intro w'
             go_simp
             with_reducible rfl
            rotate_left
            ·simp only [Act.put, List.setIfInBounds_toArray, List.set_cons_zero, List.set_cons_succ, i64_w, i32_w]
             rfl
            refine pure_ (i := 11) (N := some 50) (v := ?_) (a' := ?_) #[true, true, true, true, true, true, true, true, true, true, true, true, true, false, false] rfl rfl (any_of HT_.out (by kernel_rfl)) (fun _ _ _ h => h) (Or.inl ⟨by rfl, ?_⟩) ?_ ?_
            rotate_left
            ·intro w'
             go_simp
             with_reducible rfl
            rotate_left
            ·simp only [Act.put, List.setIfInBounds_toArray, List.set_cons_zero, List.set_cons_succ, i64_w, i32_w]
             rfl
            exact norm_ (by simp only [putAll, Act.put, List.setIfInBounds_toArray, List.set_cons_zero, List.set_cons_succ]) (hCont (v537, .slice Ao71 y539.length co71, v546, gb549) _ ⟨hHeld, (by (with_reducible repeat (first | apply Kd.R_alloc | apply Kd.R_drewN | apply Kd.R_drew)); exact Kd.R_mono HO534.out (fun _ hk => ⟨hk.1.2, hk.2⟩)), (by (with_reducible repeat (first | apply Kd.R_alloc | apply Kd.R_drewN | apply Kd.R_drew)); exact HO541.out), (by (with_reducible repeat (first | apply Kd.R_alloc | apply Kd.R_drewN | apply Kd.R_drew)); exact Kd.R_mono HO547.out (fun _ hk => ⟨hk.1.2, hk.2⟩)), (by (with_reducible repeat (first | refine blk_drewN ?_ _ | refine blk_drew ?_ | refine blk_alloc ?_ _)); exact BK530.out), (by (with_reducible repeat (first | refine blk_drewN ?_ _ | refine blk_drew ?_ | refine blk_alloc ?_ _)); exact BK549.out), GW549.out, GE549.out, NB530_549.out, NB549_530.out, (by repeat (first | (with_reducible first | exact HB.out | apply below_alloc | apply pw_below_drewN | apply below_drew1 | refine below_set ?_ GE530.out | refine below_set ?_ GE549.out) | exact HB.out))⟩)
          rintro ⟨v537, v540, v546, gb549⟩ w73 ⟨hS_, h0_, h1_, h2_, h3_, h4_, h5_, h6_, h7_, h8_, h9_⟩
          have n0_ : Aside0 (Kd.R (Kd.int .u8) 5 w73 w.heap.size (fun k_ => some k_ ≠ (v540 : Value).ownBlock ∧ some k_ ≠ (v546 : Value).ownBlock) (.slice Ao66 t532.length co66) t532) := ⟨h0_⟩
          have n1_ : Aside0 (Kd.R (Kd.int .u8) 5 w73 w.heap.size (fun k_ => some k_ ≠ (.slice Ao66 t532.length co66 : Value).ownBlock ∧ some k_ ≠ (v546 : Value).ownBlock) v540 y539) := ⟨h1_⟩
          have n2_ : Aside0 (Kd.R (Kd.int .u8) 5 w73 w.heap.size (fun k_ => some k_ ≠ (.slice Ao66 t532.length co66 : Value).ownBlock ∧ some k_ ≠ (v540 : Value).ownBlock) v546 t545) := ⟨h2_⟩
          have n3_ : Aside0 (w73.heap[gb530]? = some (.cells #[.int .u32 a0_0, .int .u32 a0_1, .int .i64 a0_2, .int .i64 a0_3, .bool false, .slice A0_5 l0_5.length c0_5] 49 (0, 0))) := ⟨h3_⟩
          have n4_ : Aside0 (w73.heap[gb549]? = some (.cells #[.int .i64 0, .int .i64 0, .bool false, .slice none 0 0] 47 (0, 0))) := ⟨h4_⟩
          have n5_ : Aside0 (w.heap.size ≤ gb549) := ⟨h5_⟩
          have n6_ : Aside0 (w.heap.size ≤ gb549) := ⟨h6_⟩
          have n7_ : Aside0 (gb530 ≠ gb549) := ⟨h7_⟩
          have n8_ : Aside0 (gb549 ≠ gb530) := ⟨h8_⟩
          have n9_ : Aside0 (Below w.heap.size w w73) := ⟨h9_⟩
          clear HO534
          clear BK530
          clear HB
          clear h0_ h1_ h2_ h3_ h4_ h5_ h6_ h7_ h8_ h9_
          have HO534 := n0_
          have HO541 := n1_
          have HO547 := n2_
          have BK530 := n3_
          have BK549 := n4_
          have GW549 := n5_
          have GE549 := n6_
          have NB530_549 := n7_
          have NB549_530 := n8_
          have HB := n9_
          clear n0_ n1_ n2_ n3_ n4_ n5_ n6_ n7_ n8_ n9_
          have hHeld : w73.cell? ⟨gb530, 0, none⟩ = some (.int .u32 a0_0) ∧ w73.cell? ⟨gb530, 1, none⟩ = some (.int .u32 a0_1) ∧ w73.cell? ⟨gb530, 2, none⟩ = some (.int .i64 a0_2) ∧ w73.cell? ⟨gb530, 3, none⟩ = some (.int .i64 a0_3) ∧ w73.cell? ⟨gb530, 4, none⟩ = some (.bool false) ∧ w73.cell? ⟨gb530, 5, none⟩ = some (.slice A0_5 l0_5.length c0_5) := hS_
          obtain ⟨Ao77, co77, eo77⟩ := Kd.R_slice HO547.out
          (first | subst eo77 | (injection eo77 with f1_ f2_ f3_; have f4_ := f1_.symm; have f5_ := f3_.symm; clear f1_ f2_ f3_; subst f4_; subst f5_))
          refine norm_ (a' := ?_) ?_ ?_
          rotate_left
          ·simp only [putAll, Act.put, List.setIfInBounds_toArray, List.set_cons_zero, List.set_cons_succ]
           rfl
          refine one_ (i := 13) (N := none) #[true, true, true, true, true, true, true, true, true, true, true, true, true, true, false] rfl rfl (one_of HT_.out (by kernel_rfl)) (by decide) (fun K hK => ?_)
          have hs74 : w73.cell? ⟨gb549, 0, none⟩ = some (.int .i64 0) := (blk_cell BK549.out 0).trans rfl
          have hfs74 := blk_frozen BK549.out 0
          have hns74_0 := NB530_549.out
          have hms74_0 := NB549_530.out
          have hs75 : w73.cell? ⟨gb549, 1, none⟩ = some (.int .i64 0) := (blk_cell BK549.out 1).trans rfl
          have hfs75 := blk_frozen BK549.out 1
          have hns75_0 := NB530_549.out
          have hms75_0 := NB549_530.out
          have hs76 : w73.cell? ⟨gb549, 2, none⟩ = some (.bool false) := (blk_cell BK549.out 2).trans rfl
          have hfs76 := blk_frozen BK549.out 2
          have hns76_0 := NB530_549.out
          have hms76_0 := NB549_530.out
          have hs78 : w73.cell? ⟨gb549, 3, none⟩ = some (.slice none 0 0) := (blk_cell BK549.out 3).trans rfl
          have hfs78 := blk_frozen BK549.out 3
          have hns78_0 := NB530_549.out
          have hms78_0 := NB549_530.out
          refine skip_ (w1 := ?_) (by rfl) rfl ?_ ?_
          rotate_left
          ·go_simp
           rfl
          refine hK.out _ _ ⟨((cell_far (p := ⟨gb549, _, none⟩) NB530_549.out _).trans (((cell_far (p := ⟨gb549, _, none⟩) NB530_549.out _).trans (((cell_far (p := ⟨gb549, _, none⟩) NB530_549.out _).trans (((cell_far (p := ⟨gb549, _, none⟩) NB530_549.out _).trans (hHeld.1)))))))), ((cell_far (p := ⟨gb549, _, none⟩) NB530_549.out _).trans (((cell_far (p := ⟨gb549, _, none⟩) NB530_549.out _).trans (((cell_far (p := ⟨gb549, _, none⟩) NB530_549.out _).trans (((cell_far (p := ⟨gb549, _, none⟩) NB530_549.out _).trans (hHeld.2.1)))))))), ((cell_far (p := ⟨gb549, _, none⟩) NB530_549.out _).trans (((cell_far (p := ⟨gb549, _, none⟩) NB530_549.out _).trans (((cell_far (p := ⟨gb549, _, none⟩) NB530_549.out _).trans (((cell_far (p := ⟨gb549, _, none⟩) NB530_549.out _).trans (hHeld.2.2.1)))))))), ((cell_far (p := ⟨gb549, _, none⟩) NB530_549.out _).trans (((cell_far (p := ⟨gb549, _, none⟩) NB530_549.out _).trans (((cell_far (p := ⟨gb549, _, none⟩) NB530_549.out _).trans (((cell_far (p := ⟨gb549, _, none⟩) NB530_549.out _).trans (hHeld.2.2.2.1)))))))), ((cell_far (p := ⟨gb549, _, none⟩) NB530_549.out _).trans (((cell_far (p := ⟨gb549, _, none⟩) NB530_549.out _).trans (((cell_far (p := ⟨gb549, _, none⟩) NB530_549.out _).trans (((cell_far (p := ⟨gb549, _, none⟩) NB530_549.out _).trans (hHeld.2.2.2.2.1)))))))), ((cell_far (p := ⟨gb549, _, none⟩) NB530_549.out _).trans (((cell_far (p := ⟨gb549, _, none⟩) NB530_549.out _).trans (((cell_far (p := ⟨gb549, _, none⟩) NB530_549.out _).trans (((cell_far (p := ⟨gb549, _, none⟩) NB530_549.out _).trans (hHeld.2.2.2.2.2))))))))⟩ (fun hHeld => ?_)
          clear hK K
          refine pure_ (i := 14) (N := some 10) (v := ?_) (a' := ?_) #[true, true, true, true, true, true, true, true, true, true, true, true, true, true, true] rfl rfl (any_of HT_.out (by kernel_rfl)) (fun _ _ _ h => h) (Or.inl ⟨by rfl, ?_⟩) ?_ ?_
          rotate_left
          ·intro w'
           go_simp
           with_reducible rfl
          rotate_left
          ·simp only [Act.put, List.setIfInBounds_toArray, List.set_cons_zero, List.set_cons_succ, i64_w, i32_w]
           rfl
          refine done_ (done_of HT_.out (by kernel_rfl)) ?_
          have hnb79 := NB530_549.out
          have hnc79 := NB549_530.out
          have hcz80_0 : w73.cell? ⟨gb530, 0, none⟩ = some (.int .u32 a0_0) := (blk_cell BK530.out 0).trans rfl
          have hcz80_1 : w73.cell? ⟨gb530, 1, none⟩ = some (.int .u32 a0_1) := (blk_cell BK530.out 1).trans rfl
          have hcz80_2 : w73.cell? ⟨gb530, 2, none⟩ = some (.int .i64 a0_2) := (blk_cell BK530.out 2).trans rfl
          have hcz80_3 : w73.cell? ⟨gb530, 3, none⟩ = some (.int .i64 a0_3) := (blk_cell BK530.out 3).trans rfl
          have hcz80_4 : w73.cell? ⟨gb530, 4, none⟩ = some (.bool false) := (blk_cell BK530.out 4).trans rfl
          have hcz80_5 : w73.cell? ⟨gb530, 5, none⟩ = some (.slice A0_5 l0_5.length c0_5) := (blk_cell BK530.out 5).trans rfl
          have hfz80_0 := blk_frozen BK530.out 0
          have hfz80_1 := blk_frozen BK530.out 1
          have hfz80_2 := blk_frozen BK530.out 2
          have hfz80_3 := blk_frozen BK530.out 3
          have hfz80_4 := blk_frozen BK530.out 4
          have hfz80_5 := blk_frozen BK530.out 5
          try go_wp2_with (first | ((with_reducible refine gate_callee (f := 43) rfl ?_); refine goesL_ (some 56) rfl rfl Try.func43 (by kernel_rfl) rfl #[.int .u32 a0_0, .int .u32 a2, .slice Ao66 t532.length co66] rfl (by (try simp only [List.map_toArray, List.map_cons, List.map_nil]); first | done | rfl | (simp only [List.length_drop, List.length_take]; rfl)) ?_; (with_reducible refine (udp_Parse.calls kj5 a0_0 a2 _ _ t532 t550 t551 t552 t553 t556 _ ?side1 ?side2 A18.out).mono ?_); (case side1 => refine (Kd.R_reads' (e := 5) (base := w.heap.size) (ok := fun k_ => (some k_ ≠ (v540 : Value).ownBlock ∧ some k_ ≠ (.slice Ao77 t545.length co77 : Value).ownBlock)) (n := t532.length) (c := co66) ?_).2.2; exact (by (with_reducible repeat (first | apply Kd.R_alloc | apply Kd.R_drewN | apply Kd.R_drew)); exact (Kd.R_mono (Kd.R_far (p := ⟨gb549, 3, none⟩) (Kd.R_far (p := ⟨gb549, 2, none⟩) (Kd.R_far (p := ⟨gb549, 1, none⟩) (Kd.R_far (p := ⟨gb549, 0, none⟩) (Kd.R_types HO534.out BK549.out (by decide)) (fun _ hk => hk.2) (.int .i64 t542)) (fun _ hk => hk.2) (.int .i64 t543)) (fun _ hk => hk.2) (.bool t544)) (fun _ hk => hk.2) (.slice Ao77 t545.length co77)) (fun _ h_ => h_.1)))); (case side2 => exact (Kd.R_reads' HO534.out).2.1); rintro e w81 ⟨v554, rfl, ho0, hb⟩; refine ⟨_, rfl, ?_⟩; have n0_ := Aside0.mk (Kd.R_elder' (by (with_reducible repeat (first | apply Kd.R_alloc | apply Kd.R_drewN | apply Kd.R_drew)); exact (Kd.R_mono (Kd.R_far (p := ⟨gb549, 3, none⟩) (Kd.R_far (p := ⟨gb549, 2, none⟩) (Kd.R_far (p := ⟨gb549, 1, none⟩) (Kd.R_far (p := ⟨gb549, 0, none⟩) (Kd.R_types HO534.out BK549.out (by decide)) (fun _ hk => hk.2) (.int .i64 t542)) (fun _ hk => hk.2) (.int .i64 t543)) (fun _ hk => hk.2) (.bool t544)) (fun _ hk => hk.2) (.slice Ao77 t545.length co77)) (fun _ h_ => h_.1))) (Kd.R_base ho0) hb); have n1_ := Aside0.mk (Kd.R_elder' (by (with_reducible repeat (first | apply Kd.R_alloc | apply Kd.R_drewN | apply Kd.R_drew)); exact (Kd.R_mono (Kd.R_far (p := ⟨gb549, 3, none⟩) (Kd.R_far (p := ⟨gb549, 2, none⟩) (Kd.R_far (p := ⟨gb549, 1, none⟩) (Kd.R_far (p := ⟨gb549, 0, none⟩) (Kd.R_types HO541.out BK549.out (by decide)) (fun _ hk => hk.2) (.int .i64 t542)) (fun _ hk => hk.2) (.int .i64 t543)) (fun _ hk => hk.2) (.bool t544)) (fun _ hk => hk.2) (.slice Ao77 t545.length co77)) (fun _ h_ => h_.1))) (Kd.R_base ho0) hb); have n2_ := Aside0.mk (Kd.R_elder' (by (with_reducible repeat (first | apply Kd.R_alloc | apply Kd.R_drewN | apply Kd.R_drew)); exact (Kd.R_mono (Kd.R_far (p := ⟨gb549, 3, none⟩) (Kd.R_far (p := ⟨gb549, 2, none⟩) (Kd.R_far (p := ⟨gb549, 1, none⟩) (Kd.R_far (p := ⟨gb549, 0, none⟩) (Kd.R_types HO547.out BK549.out (by decide)) (fun _ hk => hk.2) (.int .i64 t542)) (fun _ hk => hk.2) (.int .i64 t543)) (fun _ hk => hk.2) (.bool t544)) (fun _ hk => hk.2) (.slice Ao77 t545.length co77)) (fun _ h_ => h_.1))) (Kd.R_base ho0) hb); have n3_ := Aside0.mk (Kd.R_lower (Kd.R_new' (Kd.R_new' (Kd.R_new' ho0 (Kd.R_lt (by (with_reducible repeat (first | apply Kd.R_alloc | apply Kd.R_drewN | apply Kd.R_drew)); exact (Kd.R_mono (Kd.R_far (p := ⟨gb549, 3, none⟩) (Kd.R_far (p := ⟨gb549, 2, none⟩) (Kd.R_far (p := ⟨gb549, 1, none⟩) (Kd.R_far (p := ⟨gb549, 0, none⟩) (Kd.R_types HO534.out BK549.out (by decide)) (fun _ hk => hk.2) (.int .i64 t542)) (fun _ hk => hk.2) (.int .i64 t543)) (fun _ hk => hk.2) (.bool t544)) (fun _ hk => hk.2) (.slice Ao77 t545.length co77)) (fun _ h_ => h_.1))))) (Kd.R_lt (by (with_reducible repeat (first | apply Kd.R_alloc | apply Kd.R_drewN | apply Kd.R_drew)); exact (Kd.R_mono (Kd.R_far (p := ⟨gb549, 3, none⟩) (Kd.R_far (p := ⟨gb549, 2, none⟩) (Kd.R_far (p := ⟨gb549, 1, none⟩) (Kd.R_far (p := ⟨gb549, 0, none⟩) (Kd.R_types HO541.out BK549.out (by decide)) (fun _ hk => hk.2) (.int .i64 t542)) (fun _ hk => hk.2) (.int .i64 t543)) (fun _ hk => hk.2) (.bool t544)) (fun _ hk => hk.2) (.slice Ao77 t545.length co77)) (fun _ h_ => h_.1))))) (Kd.R_lt (by (with_reducible repeat (first | apply Kd.R_alloc | apply Kd.R_drewN | apply Kd.R_drew)); exact (Kd.R_mono (Kd.R_far (p := ⟨gb549, 3, none⟩) (Kd.R_far (p := ⟨gb549, 2, none⟩) (Kd.R_far (p := ⟨gb549, 1, none⟩) (Kd.R_far (p := ⟨gb549, 0, none⟩) (Kd.R_types HO547.out BK549.out (by decide)) (fun _ hk => hk.2) (.int .i64 t542)) (fun _ hk => hk.2) (.int .i64 t543)) (fun _ hk => hk.2) (.bool t544)) (fun _ hk => hk.2) (.slice Ao77 t545.length co77)) (fun _ h_ => h_.1))))) (below_size (by repeat (first | (with_reducible first | exact HB.out | apply below_alloc | apply pw_below_drewN | apply below_drew1 | refine below_set ?_ GE530.out | refine below_set ?_ GE549.out) | exact HB.out)))); have n4_ := Aside0.mk (blk_below (g := gb530) (o := .cells #[.int .u32 a0_0, .int .u32 a0_1, .int .i64 a0_2, .int .i64 a0_3, .bool false, .slice A0_5 l0_5.length c0_5] 49 (0, 0)) (by (with_reducible repeat (first | refine blk_drewN ?_ _ | refine blk_drew ?_ | refine blk_alloc ?_ _)); refine blk_far ?_ NB530_549.out _; (with_reducible repeat (first | refine blk_drewN ?_ _ | refine blk_drew ?_ | refine blk_alloc ?_ _)); refine blk_far ?_ NB530_549.out _; (with_reducible repeat (first | refine blk_drewN ?_ _ | refine blk_drew ?_ | refine blk_alloc ?_ _)); refine blk_far ?_ NB530_549.out _; (with_reducible repeat (first | refine blk_drewN ?_ _ | refine blk_drew ?_ | refine blk_alloc ?_ _)); refine blk_far ?_ NB530_549.out _; (with_reducible repeat (first | refine blk_drewN ?_ _ | refine blk_drew ?_ | refine blk_alloc ?_ _)); exact BK530.out) hb); have n5_ := Aside0.mk (blk_below (g := gb549) (o := .cells #[.int .i64 t542, .int .i64 t543, .bool t544, .slice Ao77 t545.length co77] 47 (0, 0)) (by (with_reducible repeat (first | refine blk_drewN ?_ _ | refine blk_drew ?_ | refine blk_alloc ?_ _)); refine blk_put (cs := #[.int .i64 t542, .int .i64 t543, .bool t544, .slice none 0 0]) ?_ 3 _ rfl; (with_reducible repeat (first | refine blk_drewN ?_ _ | refine blk_drew ?_ | refine blk_alloc ?_ _)); refine blk_put (cs := #[.int .i64 t542, .int .i64 t543, .bool false, .slice none 0 0]) ?_ 2 _ rfl; (with_reducible repeat (first | refine blk_drewN ?_ _ | refine blk_drew ?_ | refine blk_alloc ?_ _)); refine blk_put (cs := #[.int .i64 t542, .int .i64 0, .bool false, .slice none 0 0]) ?_ 1 _ rfl; (with_reducible repeat (first | refine blk_drewN ?_ _ | refine blk_drew ?_ | refine blk_alloc ?_ _)); refine blk_put (cs := #[.int .i64 0, .int .i64 0, .bool false, .slice none 0 0]) ?_ 0 _ rfl; (with_reducible repeat (first | refine blk_drewN ?_ _ | refine blk_drew ?_ | refine blk_alloc ?_ _)); exact BK549.out) hb); have n6_ := Aside0.mk (below_step (by repeat (first | (with_reducible first | exact HB.out | apply below_alloc | apply pw_below_drewN | apply below_drew1 | refine below_set ?_ GE530.out | refine below_set ?_ GE549.out) | exact HB.out)) hb); clear HO534; clear HO541; clear HO547; clear BK530; clear BK549; clear HB; have HO534 := n0_; have HO541 := n1_; have HO547 := n2_; have HO555 := n3_; have BK530 := n4_; have BK549 := n5_; have HB := n6_; clear n0_ n1_ n2_ n3_ n4_ n5_ n6_; (try clear hb); (try clear hb2); (try clear hk); (try clear hi); (try clear ho0)) | ((with_reducible refine gate_dst (N := 11) rfl ?_); (try (refine gate_guard (by rfl) ?_; dsimp only)); refine box_event ?hg (N := 11) ?hd (cs := #[.int .i64 0, .int .i64 0, .bool false, .slice none 0 0]) (t := 47) ?hr ?_; (case hd => rfl); (case hg => rfl); (case hr => first | (go_simp; done) | (go_simp; rfl)); intro gb557 hg w82 hbox hb; have n0_ := Aside0.mk (Kd.R_below (by (with_reducible repeat (first | apply Kd.R_alloc | apply Kd.R_drewN | apply Kd.R_drew)); exact HO534.out) hb); have n1_ := Aside0.mk (Kd.R_below (by (with_reducible repeat (first | apply Kd.R_alloc | apply Kd.R_drewN | apply Kd.R_drew)); exact HO541.out) hb); have n2_ := Aside0.mk (Kd.R_below (by (with_reducible repeat (first | apply Kd.R_alloc | apply Kd.R_drewN | apply Kd.R_drew)); exact HO547.out) hb); have n3_ := Aside0.mk (Kd.R_below (by (with_reducible repeat (first | apply Kd.R_alloc | apply Kd.R_drewN | apply Kd.R_drew)); exact HO555.out) hb); have n4_ := Aside0.mk (blk_below (g := gb530) (o := .cells #[.int .u32 a0_0, .int .u32 a0_1, .int .i64 a0_2, .int .i64 a0_3, .bool false, .slice A0_5 l0_5.length c0_5] 49 (0, 0)) (by (with_reducible repeat (first | refine blk_drewN ?_ _ | refine blk_drew ?_ | refine blk_alloc ?_ _)); exact BK530.out) hb); have n5_ := Aside0.mk (blk_below (g := gb549) (o := .cells #[.int .i64 t542, .int .i64 t543, .bool t544, .slice Ao77 t545.length co77] 47 (0, 0)) (by (with_reducible repeat (first | refine blk_drewN ?_ _ | refine blk_drew ?_ | refine blk_alloc ?_ _)); exact BK549.out) hb); have n6_ := Aside0.mk (below_step (by repeat (first | (with_reducible first | exact HB.out | apply below_alloc | apply pw_below_drewN | apply below_drew1 | refine below_set ?_ GE530.out | refine below_set ?_ GE549.out) | exact HB.out)) hb); have n7_ := Aside0.mk (hbox); have n8_ := Aside0.mk ((by rw [hg]; exact (below_size (by repeat (first | (with_reducible first | exact HB.out | apply below_alloc | apply pw_below_drewN | apply below_drew1 | refine below_set ?_ GE530.out | refine below_set ?_ GE549.out) | exact HB.out))) : w.heap.size ≤ gb557)); have n9_ := Aside0.mk ((by rw [hg]; exact (below_size (by repeat (first | (with_reducible first | exact HB.out | apply below_alloc | apply pw_below_drewN | apply below_drew1 | refine below_set ?_ GE530.out | refine below_set ?_ GE549.out) | exact HB.out))) : w.heap.size ≤ gb557)); have n10_ := Aside0.mk ((by rw [hg]; exact Nat.ne_of_lt (blk_lt (g := gb530) (o := .cells #[.int .u32 a0_0, .int .u32 a0_1, .int .i64 a0_2, .int .i64 a0_3, .bool false, .slice A0_5 l0_5.length c0_5] 49 (0, 0)) (by (with_reducible repeat (first | refine blk_drewN ?_ _ | refine blk_drew ?_ | refine blk_alloc ?_ _)); exact BK530.out)) : gb530 ≠ gb557)); have n11_ := Aside0.mk ((by rw [hg]; exact Nat.ne_of_gt (blk_lt (g := gb530) (o := .cells #[.int .u32 a0_0, .int .u32 a0_1, .int .i64 a0_2, .int .i64 a0_3, .bool false, .slice A0_5 l0_5.length c0_5] 49 (0, 0)) (by (with_reducible repeat (first | refine blk_drewN ?_ _ | refine blk_drew ?_ | refine blk_alloc ?_ _)); exact BK530.out)) : gb557 ≠ gb530)); have n12_ := Aside0.mk ((by rw [hg]; exact Nat.ne_of_lt (blk_lt (g := gb549) (o := .cells #[.int .i64 t542, .int .i64 t543, .bool t544, .slice Ao77 t545.length co77] 47 (0, 0)) (by (with_reducible repeat (first | refine blk_drewN ?_ _ | refine blk_drew ?_ | refine blk_alloc ?_ _)); exact BK549.out)) : gb549 ≠ gb557)); have n13_ := Aside0.mk ((by rw [hg]; exact Nat.ne_of_gt (blk_lt (g := gb549) (o := .cells #[.int .i64 t542, .int .i64 t543, .bool t544, .slice Ao77 t545.length co77] 47 (0, 0)) (by (with_reducible repeat (first | refine blk_drewN ?_ _ | refine blk_drew ?_ | refine blk_alloc ?_ _)); exact BK549.out)) : gb557 ≠ gb549)); clear HO534; clear HO541; clear HO547; clear HO555; clear BK530; clear BK549; clear HB; have HO534 := n0_; have HO541 := n1_; have HO547 := n2_; have HO555 := n3_; have BK530 := n4_; have BK549 := n5_; have HB := n6_; have BK557 := n7_; have GW557 := n8_; have GE557 := n9_; have NB530_557 := n10_; have NB557_530 := n11_; have NB549_557 := n12_; have NB557_549 := n13_; clear n0_ n1_ n2_ n3_ n4_ n5_ n6_ n7_ n8_ n9_ n10_ n11_ n12_ n13_; clear hb hbox hg; have hnb83 := NB557_530.out; have hnc83 := NB530_557.out; have hnb84 := NB557_549.out; have hnc84 := NB549_557.out; have hcz85_0 : w82.cell? ⟨gb557, 0, none⟩ = some (.int .i64 0) := (blk_cell BK557.out 0).trans rfl; have hcz85_1 : w82.cell? ⟨gb557, 1, none⟩ = some (.int .i64 0) := (blk_cell BK557.out 1).trans rfl; have hcz85_2 : w82.cell? ⟨gb557, 2, none⟩ = some (.bool false) := (blk_cell BK557.out 2).trans rfl; have hcz85_3 : w82.cell? ⟨gb557, 3, none⟩ = some (.slice none 0 0) := (blk_cell BK557.out 3).trans rfl; have hfz85_0 := blk_frozen BK557.out 0; have hfz85_1 := blk_frozen BK557.out 1; have hfz85_2 := blk_frozen BK557.out 2; have hfz85_3 := blk_frozen BK557.out 3; obtain ⟨Ao86, co86, eo86⟩ := Kd.R_slice HO555.out; subst eo86; have hcz87_0 : w82.cell? ⟨gb530, 0, none⟩ = some (.int .u32 a0_0) := (blk_cell BK530.out 0).trans rfl; have hcz87_1 : w82.cell? ⟨gb530, 1, none⟩ = some (.int .u32 a0_1) := (blk_cell BK530.out 1).trans rfl; have hcz87_2 : w82.cell? ⟨gb530, 2, none⟩ = some (.int .i64 a0_2) := (blk_cell BK530.out 2).trans rfl; have hcz87_3 : w82.cell? ⟨gb530, 3, none⟩ = some (.int .i64 a0_3) := (blk_cell BK530.out 3).trans rfl; have hcz87_4 : w82.cell? ⟨gb530, 4, none⟩ = some (.bool false) := (blk_cell BK530.out 4).trans rfl; have hcz87_5 : w82.cell? ⟨gb530, 5, none⟩ = some (.slice A0_5 l0_5.length c0_5) := (blk_cell BK530.out 5).trans rfl; have hfz87_0 := blk_frozen BK530.out 0; have hfz87_1 := blk_frozen BK530.out 1; have hfz87_2 := blk_frozen BK530.out 2; have hfz87_3 := blk_frozen BK530.out 3; have hfz87_4 := blk_frozen BK530.out 4; have hfz87_5 := blk_frozen BK530.out 5) | ((with_reducible refine gate_callee (f := 41) rfl ?_); refine goesL_ (some 65) rfl rfl Try.func41 (by kernel_rfl) rfl #[.int .u32 a0_0, .int .u32 a0_1, .int .i64 17, .int .i64 (t532.length : Int)] rfl (by (try simp only [List.map_toArray, List.map_cons, List.map_nil]); first | done | rfl | (simp only [List.length_drop, List.length_take]; rfl)) ?_; (with_reducible refine (udp_Pseudo.calls kj5 a0_0 a0_1 17 (t532.length : Int) t558 _ A19.out).mono ?_); rintro e w88 ⟨v559, rfl, ho0, hb⟩; refine ⟨_, rfl, ?_⟩; have n0_ := Aside0.mk (Kd.R_elder' (by (with_reducible repeat (first | apply Kd.R_alloc | apply Kd.R_drewN | apply Kd.R_drew)); exact (Kd.R_mono (Kd.R_far (p := ⟨gb557, 3, none⟩) (Kd.R_far (p := ⟨gb557, 2, none⟩) (Kd.R_far (p := ⟨gb557, 1, none⟩) (Kd.R_far (p := ⟨gb557, 0, none⟩) (Kd.R_types HO534.out BK557.out (by decide)) (fun _ hk => hk.2) (.int .i64 t550)) (fun _ hk => hk.2) (.int .i64 t551)) (fun _ hk => hk.2) (.bool t552)) (fun _ hk => hk.2) (.slice Ao86 t553.length co86)) (fun _ h_ => h_.1))) (Kd.R_base ho0) hb); have n1_ := Aside0.mk (Kd.R_elder' (by (with_reducible repeat (first | apply Kd.R_alloc | apply Kd.R_drewN | apply Kd.R_drew)); exact (Kd.R_mono (Kd.R_far (p := ⟨gb557, 3, none⟩) (Kd.R_far (p := ⟨gb557, 2, none⟩) (Kd.R_far (p := ⟨gb557, 1, none⟩) (Kd.R_far (p := ⟨gb557, 0, none⟩) (Kd.R_types HO541.out BK557.out (by decide)) (fun _ hk => hk.2) (.int .i64 t550)) (fun _ hk => hk.2) (.int .i64 t551)) (fun _ hk => hk.2) (.bool t552)) (fun _ hk => hk.2) (.slice Ao86 t553.length co86)) (fun _ h_ => h_.1))) (Kd.R_base ho0) hb); have n2_ := Aside0.mk (Kd.R_elder' (by (with_reducible repeat (first | apply Kd.R_alloc | apply Kd.R_drewN | apply Kd.R_drew)); exact (Kd.R_mono (Kd.R_far (p := ⟨gb557, 3, none⟩) (Kd.R_far (p := ⟨gb557, 2, none⟩) (Kd.R_far (p := ⟨gb557, 1, none⟩) (Kd.R_far (p := ⟨gb557, 0, none⟩) (Kd.R_types HO547.out BK557.out (by decide)) (fun _ hk => hk.2) (.int .i64 t550)) (fun _ hk => hk.2) (.int .i64 t551)) (fun _ hk => hk.2) (.bool t552)) (fun _ hk => hk.2) (.slice Ao86 t553.length co86)) (fun _ h_ => h_.1))) (Kd.R_base ho0) hb); have n3_ := Aside0.mk (Kd.R_elder' (by (with_reducible repeat (first | apply Kd.R_alloc | apply Kd.R_drewN | apply Kd.R_drew)); exact (Kd.R_mono (Kd.R_far (p := ⟨gb557, 3, none⟩) (Kd.R_far (p := ⟨gb557, 2, none⟩) (Kd.R_far (p := ⟨gb557, 1, none⟩) (Kd.R_far (p := ⟨gb557, 0, none⟩) (Kd.R_types HO555.out BK557.out (by decide)) (fun _ hk => hk.2) (.int .i64 t550)) (fun _ hk => hk.2) (.int .i64 t551)) (fun _ hk => hk.2) (.bool t552)) (fun _ hk => hk.2) (.slice Ao86 t553.length co86)) (fun _ h_ => h_.1))) (Kd.R_base ho0) hb); have n4_ := Aside0.mk (Kd.R_lower (Kd.R_new' (Kd.R_new' (Kd.R_new' (Kd.R_new' ho0 (Kd.R_lt (by (with_reducible repeat (first | apply Kd.R_alloc | apply Kd.R_drewN | apply Kd.R_drew)); exact (Kd.R_mono (Kd.R_far (p := ⟨gb557, 3, none⟩) (Kd.R_far (p := ⟨gb557, 2, none⟩) (Kd.R_far (p := ⟨gb557, 1, none⟩) (Kd.R_far (p := ⟨gb557, 0, none⟩) (Kd.R_types HO534.out BK557.out (by decide)) (fun _ hk => hk.2) (.int .i64 t550)) (fun _ hk => hk.2) (.int .i64 t551)) (fun _ hk => hk.2) (.bool t552)) (fun _ hk => hk.2) (.slice Ao86 t553.length co86)) (fun _ h_ => h_.1))))) (Kd.R_lt (by (with_reducible repeat (first | apply Kd.R_alloc | apply Kd.R_drewN | apply Kd.R_drew)); exact (Kd.R_mono (Kd.R_far (p := ⟨gb557, 3, none⟩) (Kd.R_far (p := ⟨gb557, 2, none⟩) (Kd.R_far (p := ⟨gb557, 1, none⟩) (Kd.R_far (p := ⟨gb557, 0, none⟩) (Kd.R_types HO541.out BK557.out (by decide)) (fun _ hk => hk.2) (.int .i64 t550)) (fun _ hk => hk.2) (.int .i64 t551)) (fun _ hk => hk.2) (.bool t552)) (fun _ hk => hk.2) (.slice Ao86 t553.length co86)) (fun _ h_ => h_.1))))) (Kd.R_lt (by (with_reducible repeat (first | apply Kd.R_alloc | apply Kd.R_drewN | apply Kd.R_drew)); exact (Kd.R_mono (Kd.R_far (p := ⟨gb557, 3, none⟩) (Kd.R_far (p := ⟨gb557, 2, none⟩) (Kd.R_far (p := ⟨gb557, 1, none⟩) (Kd.R_far (p := ⟨gb557, 0, none⟩) (Kd.R_types HO547.out BK557.out (by decide)) (fun _ hk => hk.2) (.int .i64 t550)) (fun _ hk => hk.2) (.int .i64 t551)) (fun _ hk => hk.2) (.bool t552)) (fun _ hk => hk.2) (.slice Ao86 t553.length co86)) (fun _ h_ => h_.1))))) (Kd.R_lt (by (with_reducible repeat (first | apply Kd.R_alloc | apply Kd.R_drewN | apply Kd.R_drew)); exact (Kd.R_mono (Kd.R_far (p := ⟨gb557, 3, none⟩) (Kd.R_far (p := ⟨gb557, 2, none⟩) (Kd.R_far (p := ⟨gb557, 1, none⟩) (Kd.R_far (p := ⟨gb557, 0, none⟩) (Kd.R_types HO555.out BK557.out (by decide)) (fun _ hk => hk.2) (.int .i64 t550)) (fun _ hk => hk.2) (.int .i64 t551)) (fun _ hk => hk.2) (.bool t552)) (fun _ hk => hk.2) (.slice Ao86 t553.length co86)) (fun _ h_ => h_.1))))) (below_size (by repeat (first | (with_reducible first | exact HB.out | apply below_alloc | apply pw_below_drewN | apply below_drew1 | refine below_set ?_ GE530.out | refine below_set ?_ GE549.out | refine below_set ?_ GE557.out) | exact HB.out)))); have n5_ := Aside0.mk (blk_below (g := gb530) (o := .cells #[.int .u32 a0_0, .int .u32 a0_1, .int .i64 a0_2, .int .i64 a0_3, .bool false, .slice A0_5 l0_5.length c0_5] 49 (0, 0)) (by (with_reducible repeat (first | refine blk_drewN ?_ _ | refine blk_drew ?_ | refine blk_alloc ?_ _)); refine blk_far ?_ NB530_557.out _; (with_reducible repeat (first | refine blk_drewN ?_ _ | refine blk_drew ?_ | refine blk_alloc ?_ _)); refine blk_far ?_ NB530_557.out _; (with_reducible repeat (first | refine blk_drewN ?_ _ | refine blk_drew ?_ | refine blk_alloc ?_ _)); refine blk_far ?_ NB530_557.out _; (with_reducible repeat (first | refine blk_drewN ?_ _ | refine blk_drew ?_ | refine blk_alloc ?_ _)); refine blk_far ?_ NB530_557.out _; (with_reducible repeat (first | refine blk_drewN ?_ _ | refine blk_drew ?_ | refine blk_alloc ?_ _)); exact BK530.out) hb); have n6_ := Aside0.mk (blk_below (g := gb549) (o := .cells #[.int .i64 t542, .int .i64 t543, .bool t544, .slice Ao77 t545.length co77] 47 (0, 0)) (by (with_reducible repeat (first | refine blk_drewN ?_ _ | refine blk_drew ?_ | refine blk_alloc ?_ _)); refine blk_far ?_ NB549_557.out _; (with_reducible repeat (first | refine blk_drewN ?_ _ | refine blk_drew ?_ | refine blk_alloc ?_ _)); refine blk_far ?_ NB549_557.out _; (with_reducible repeat (first | refine blk_drewN ?_ _ | refine blk_drew ?_ | refine blk_alloc ?_ _)); refine blk_far ?_ NB549_557.out _; (with_reducible repeat (first | refine blk_drewN ?_ _ | refine blk_drew ?_ | refine blk_alloc ?_ _)); refine blk_far ?_ NB549_557.out _; (with_reducible repeat (first | refine blk_drewN ?_ _ | refine blk_drew ?_ | refine blk_alloc ?_ _)); exact BK549.out) hb); have n7_ := Aside0.mk (blk_below (g := gb557) (o := .cells #[.int .i64 t550, .int .i64 t551, .bool t552, .slice Ao86 t553.length co86] 47 (0, 0)) (by (with_reducible repeat (first | refine blk_drewN ?_ _ | refine blk_drew ?_ | refine blk_alloc ?_ _)); refine blk_put (cs := #[.int .i64 t550, .int .i64 t551, .bool t552, .slice none 0 0]) ?_ 3 _ rfl; (with_reducible repeat (first | refine blk_drewN ?_ _ | refine blk_drew ?_ | refine blk_alloc ?_ _)); refine blk_put (cs := #[.int .i64 t550, .int .i64 t551, .bool false, .slice none 0 0]) ?_ 2 _ rfl; (with_reducible repeat (first | refine blk_drewN ?_ _ | refine blk_drew ?_ | refine blk_alloc ?_ _)); refine blk_put (cs := #[.int .i64 t550, .int .i64 0, .bool false, .slice none 0 0]) ?_ 1 _ rfl; (with_reducible repeat (first | refine blk_drewN ?_ _ | refine blk_drew ?_ | refine blk_alloc ?_ _)); refine blk_put (cs := #[.int .i64 0, .int .i64 0, .bool false, .slice none 0 0]) ?_ 0 _ rfl; (with_reducible repeat (first | refine blk_drewN ?_ _ | refine blk_drew ?_ | refine blk_alloc ?_ _)); exact BK557.out) hb); have n8_ := Aside0.mk (below_step (by repeat (first | (with_reducible first | exact HB.out | apply below_alloc | apply pw_below_drewN | apply below_drew1 | refine below_set ?_ GE530.out | refine below_set ?_ GE549.out | refine below_set ?_ GE557.out) | exact HB.out)) hb); clear HO534; clear HO541; clear HO547; clear HO555; clear BK530; clear BK549; clear BK557; clear HB; have HO534 := n0_; have HO541 := n1_; have HO547 := n2_; have HO555 := n3_; have HO560 := n4_; have BK530 := n5_; have BK549 := n6_; have BK557 := n7_; have HB := n8_; clear n0_ n1_ n2_ n3_ n4_ n5_ n6_ n7_ n8_; (try clear hb); (try clear hb2); (try clear hk); (try clear hi); (try clear ho0); obtain ⟨Ao89, co89, eo89⟩ := Kd.R_slice HO560.out; subst eo89) | ((with_reducible refine gate_dst (N := 66) rfl ?_); (try (refine gate_guard (by rfl) ?_; dsimp only)); refine Kd.N_lit (Kd.slice 5 (Kd.int .u8)) _ 22 ?hg (N' := 66) ?hd (xs := ([t558] : List (List Int))) (inner := [.slice Ao89 t558.length co89]) (ok := fun _ => True) (okp := fun _ => True) ?hr ?hp (fun _ _ => trivial) trivial (Below.refl _ _) (Nat.le_refl _) (by simp) ?_; (case hd => rfl); (case hg => rfl); (case hr => first | (go_simp; done) | (go_simp; rfl)); (case hp => exact (Reps.one (show Kd.FK (Kd.slice 5 (Kd.int .u8)) _ _ t558 [.slice Ao89 t558.length co89] from Kd.FK_slice_mk (by exact (Kd.R_reads' HO560.out).2.1) (Kd.F_mono (Kd.C_F (Kd.heap_int .u8) (by repeat (first | exact (Kd.R_reads' HO560.out).2.2 | (with_reducible refine Kd.C_alloc ?_ _) | (with_reducible refine Kd.C_drewN ?_ _) | (with_reducible refine Kd.C_drew ?_)))) (fun _ _ => trivial))) (Reps.none _ _))); intro vl564 w90 ho hb hg_ hnew_; clear hg_ hnew_; (first | rw [← Ny561.out] at ho | (simp only [Int.reduceToNat] at ho; rw [← Ny561.out] at ho)); obtain ⟨Al564, cl564, el564⟩ := Kd.N_slice ho; subst el564; have hr := (Kd.N_reads' ho).2.2; have hl := (Kd.N_reads' ho).2.1; clear ho; have n0_ := Aside0.mk (Kd.R_below (by (with_reducible repeat (first | apply Kd.R_alloc | apply Kd.R_drewN | apply Kd.R_drew)); exact HO534.out) hb); have n1_ := Aside0.mk (Kd.R_below (by (with_reducible repeat (first | apply Kd.R_alloc | apply Kd.R_drewN | apply Kd.R_drew)); exact HO541.out) hb); have n2_ := Aside0.mk (Kd.R_below (by (with_reducible repeat (first | apply Kd.R_alloc | apply Kd.R_drewN | apply Kd.R_drew)); exact HO547.out) hb); have n3_ := Aside0.mk (Kd.R_below (by (with_reducible repeat (first | apply Kd.R_alloc | apply Kd.R_drewN | apply Kd.R_drew)); exact HO555.out) hb); have n4_ := Aside0.mk (Kd.R_below (by (with_reducible repeat (first | apply Kd.R_alloc | apply Kd.R_drewN | apply Kd.R_drew)); exact HO560.out) hb); have n5_ := Aside0.mk (blk_below (g := gb530) (o := .cells #[.int .u32 a0_0, .int .u32 a0_1, .int .i64 a0_2, .int .i64 a0_3, .bool false, .slice A0_5 l0_5.length c0_5] 49 (0, 0)) (by (with_reducible repeat (first | refine blk_drewN ?_ _ | refine blk_drew ?_ | refine blk_alloc ?_ _)); exact BK530.out) hb); have n6_ := Aside0.mk (blk_below (g := gb549) (o := .cells #[.int .i64 t542, .int .i64 t543, .bool t544, .slice Ao77 t545.length co77] 47 (0, 0)) (by (with_reducible repeat (first | refine blk_drewN ?_ _ | refine blk_drew ?_ | refine blk_alloc ?_ _)); exact BK549.out) hb); have n7_ := Aside0.mk (blk_below (g := gb557) (o := .cells #[.int .i64 t550, .int .i64 t551, .bool t552, .slice Ao86 t553.length co86] 47 (0, 0)) (by (with_reducible repeat (first | refine blk_drewN ?_ _ | refine blk_drew ?_ | refine blk_alloc ?_ _)); exact BK557.out) hb); have n8_ := Aside0.mk (below_step (by repeat (first | (with_reducible first | exact HB.out | apply below_alloc | apply pw_below_drewN | apply below_drew1 | refine below_set ?_ GE530.out | refine below_set ?_ GE549.out | refine below_set ?_ GE557.out) | exact HB.out)) hb); have n9_ := Aside0.mk (hr); have n10_ := Aside0.mk (hl); clear HO534; clear HO541; clear HO547; clear HO555; clear HO560; clear BK530; clear BK549; clear BK557; clear HB; have HO534 := n0_; have HO541 := n1_; have HO547 := n2_; have HO555 := n3_; have HO560 := n4_; have BK530 := n5_; have BK549 := n6_; have BK557 := n7_; have HB := n8_; have HRl564 := n9_; have HCl564 := n10_; clear n0_ n1_ n2_ n3_ n4_ n5_ n6_ n7_ n8_ n9_ n10_; clear hb hr hl; have n_ := Aside0.mk (Kd.R_mono (ok' := (fun k_ => some k_ ≠ (v540 : Value).ownBlock ∧ some k_ ≠ (.slice Ao77 t545.length co77 : Value).ownBlock ∧ some k_ ≠ (.slice Ao86 t553.length co86 : Value).ownBlock ∧ some k_ ≠ (.slice Ao89 t558.length co89 : Value).ownBlock)) HO534.out (fun k_ hk => ⟨hk.1.1.1, ⟨hk.1.1.2, ⟨hk.1.2, hk.2⟩⟩⟩)); clear HO534; have HO534 := n_; clear n_; have n_ := Aside0.mk (Kd.R_mono (ok' := (fun k_ => some k_ ≠ (.slice Ao66 t532.length co66 : Value).ownBlock ∧ some k_ ≠ (.slice Ao77 t545.length co77 : Value).ownBlock ∧ some k_ ≠ (.slice Ao86 t553.length co86 : Value).ownBlock ∧ some k_ ≠ (.slice Ao89 t558.length co89 : Value).ownBlock)) HO541.out (fun k_ hk => ⟨hk.1.1.1, ⟨hk.1.1.2, ⟨hk.1.2, hk.2⟩⟩⟩)); clear HO541; have HO541 := n_; clear n_; have n_ := Aside0.mk (Kd.R_mono (ok' := (fun k_ => some k_ ≠ (.slice Ao66 t532.length co66 : Value).ownBlock ∧ some k_ ≠ (v540 : Value).ownBlock ∧ some k_ ≠ (.slice Ao86 t553.length co86 : Value).ownBlock ∧ some k_ ≠ (.slice Ao89 t558.length co89 : Value).ownBlock)) HO547.out (fun k_ hk => ⟨hk.1.1.1, ⟨hk.1.1.2, ⟨hk.1.2, hk.2⟩⟩⟩)); clear HO547; have HO547 := n_; clear n_; have n_ := Aside0.mk (Kd.R_mono (ok' := (fun k_ => some k_ ≠ (.slice Ao66 t532.length co66 : Value).ownBlock ∧ some k_ ≠ (v540 : Value).ownBlock ∧ some k_ ≠ (.slice Ao77 t545.length co77 : Value).ownBlock ∧ some k_ ≠ (.slice Ao89 t558.length co89 : Value).ownBlock)) HO555.out (fun k_ hk => ⟨hk.1.1.1.2, ⟨hk.1.1.2, ⟨hk.1.2, hk.2⟩⟩⟩)); clear HO555; have HO555 := n_; clear n_; have n_ := Aside0.mk (Kd.R_mono (ok' := (fun k_ => some k_ ≠ (.slice Ao66 t532.length co66 : Value).ownBlock ∧ some k_ ≠ (v540 : Value).ownBlock ∧ some k_ ≠ (.slice Ao77 t545.length co77 : Value).ownBlock ∧ some k_ ≠ (.slice Ao86 t553.length co86 : Value).ownBlock)) HO560.out (fun k_ hk => ⟨hk.1.1.1.2, ⟨hk.1.1.2, ⟨hk.1.2, hk.2⟩⟩⟩)); clear HO560; have HO560 := n_; clear n_) | ((with_reducible refine gate_callee (f := 26) rfl ?_); refine goesL_ (some 67) rfl rfl Try.func26 (by kernel_rfl) rfl #[.slice Al564 y561.length cl564] rfl (by (try simp only [List.map_toArray, List.map_cons, List.map_nil]); first | done | rfl | (simp only [List.length_drop, List.length_take]; rfl)) ?_; (with_reducible refine (octet_Sum.calls _ _ y561 t565 _ ?side1 ?side2 A20.out).mono ?_); (case side1 => repeat (first | exact (by repeat (first | (with_reducible exact HRl564.out) | (with_reducible refine Kd.C_alloc ?_ _) | (with_reducible refine Kd.C_drewN ?_ _) | (with_reducible refine Kd.C_drew ?_) | exact HRl564.out)) | (with_reducible refine Kd.C_alloc ?_ _) | (with_reducible refine Kd.C_drewN ?_ _) | (with_reducible refine Kd.C_drew ?_))); (case side2 => exact HCl564.out); rintro e w91 ⟨rfl, hb⟩; refine ⟨_, rfl, ?_⟩; have n0_ := Aside0.mk (Kd.R_below (by (with_reducible repeat (first | apply Kd.R_alloc | apply Kd.R_drewN | apply Kd.R_drew)); exact HO534.out) hb); have n1_ := Aside0.mk (Kd.R_below (by (with_reducible repeat (first | apply Kd.R_alloc | apply Kd.R_drewN | apply Kd.R_drew)); exact HO541.out) hb); have n2_ := Aside0.mk (Kd.R_below (by (with_reducible repeat (first | apply Kd.R_alloc | apply Kd.R_drewN | apply Kd.R_drew)); exact HO547.out) hb); have n3_ := Aside0.mk (Kd.R_below (by (with_reducible repeat (first | apply Kd.R_alloc | apply Kd.R_drewN | apply Kd.R_drew)); exact HO555.out) hb); have n4_ := Aside0.mk (Kd.R_below (by (with_reducible repeat (first | apply Kd.R_alloc | apply Kd.R_drewN | apply Kd.R_drew)); exact HO560.out) hb); have n5_ := Aside0.mk (blk_below (g := gb530) (o := .cells #[.int .u32 a0_0, .int .u32 a0_1, .int .i64 a0_2, .int .i64 a0_3, .bool false, .slice A0_5 l0_5.length c0_5] 49 (0, 0)) (by (with_reducible repeat (first | refine blk_drewN ?_ _ | refine blk_drew ?_ | refine blk_alloc ?_ _)); exact BK530.out) hb); have n6_ := Aside0.mk (blk_below (g := gb549) (o := .cells #[.int .i64 t542, .int .i64 t543, .bool t544, .slice Ao77 t545.length co77] 47 (0, 0)) (by (with_reducible repeat (first | refine blk_drewN ?_ _ | refine blk_drew ?_ | refine blk_alloc ?_ _)); exact BK549.out) hb); have n7_ := Aside0.mk (blk_below (g := gb557) (o := .cells #[.int .i64 t550, .int .i64 t551, .bool t552, .slice Ao86 t553.length co86] 47 (0, 0)) (by (with_reducible repeat (first | refine blk_drewN ?_ _ | refine blk_drew ?_ | refine blk_alloc ?_ _)); exact BK557.out) hb); have n8_ := Aside0.mk (Kd.C_below (by repeat (first | (with_reducible exact HRl564.out) | (with_reducible refine Kd.C_alloc ?_ _) | (with_reducible refine Kd.C_drewN ?_ _) | (with_reducible refine Kd.C_drew ?_) | exact HRl564.out)) hb); have n9_ := Aside0.mk (below_step (by repeat (first | (with_reducible first | exact HB.out | apply below_alloc | apply pw_below_drewN | apply below_drew1 | refine below_set ?_ GE530.out | refine below_set ?_ GE549.out | refine below_set ?_ GE557.out) | exact HB.out)) hb); clear HO534; clear HO541; clear HO547; clear HO555; clear HO560; clear BK530; clear BK549; clear BK557; clear HRl564; clear HB; have HO534 := n0_; have HO541 := n1_; have HO547 := n2_; have HO555 := n3_; have HO560 := n4_; have BK530 := n5_; have BK549 := n6_; have BK557 := n7_; have HRl564 := n8_; have HB := n9_; clear n0_ n1_ n2_ n3_ n4_ n5_ n6_ n7_ n8_ n9_; (try clear hb); (try clear hb2); (try clear hk); (try clear hi); have hcz92_0 : w91.cell? ⟨gb530, 0, none⟩ = some (.int .u32 a0_0) := (blk_cell BK530.out 0).trans rfl; have hcz92_1 : w91.cell? ⟨gb530, 1, none⟩ = some (.int .u32 a0_1) := (blk_cell BK530.out 1).trans rfl; have hcz92_2 : w91.cell? ⟨gb530, 2, none⟩ = some (.int .i64 a0_2) := (blk_cell BK530.out 2).trans rfl; have hcz92_3 : w91.cell? ⟨gb530, 3, none⟩ = some (.int .i64 a0_3) := (blk_cell BK530.out 3).trans rfl; have hcz92_4 : w91.cell? ⟨gb530, 4, none⟩ = some (.bool false) := (blk_cell BK530.out 4).trans rfl; have hcz92_5 : w91.cell? ⟨gb530, 5, none⟩ = some (.slice A0_5 l0_5.length c0_5) := (blk_cell BK530.out 5).trans rfl; have hfz92_0 := blk_frozen BK530.out 0; have hfz92_1 := blk_frozen BK530.out 1; have hfz92_2 := blk_frozen BK530.out 2; have hfz92_3 := blk_frozen BK530.out 3; have hfz92_4 := blk_frozen BK530.out 4; have hfz92_5 := blk_frozen BK530.out 5) | ((with_reducible refine gate_callee (f := 41) rfl ?_); refine goesL_ (some 73) rfl rfl Try.func41 (by kernel_rfl) rfl #[.int .u32 a0_0, .int .u32 a2, .int .i64 17, .int .i64 (t532.length : Int)] rfl (by (try simp only [List.map_toArray, List.map_cons, List.map_nil]); first | done | rfl | (simp only [List.length_drop, List.length_take]; rfl)) ?_; (with_reducible refine (udp_Pseudo.calls kj5 a0_0 a2 17 (t532.length : Int) t566 _ A21.out).mono ?_); rintro e w93 ⟨v567, rfl, ho0, hb⟩; refine ⟨_, rfl, ?_⟩; have n0_ := Aside0.mk (Kd.R_elder' (by (with_reducible repeat (first | apply Kd.R_alloc | apply Kd.R_drewN | apply Kd.R_drew)); exact HO534.out) (Kd.R_base ho0) hb); have n1_ := Aside0.mk (Kd.R_elder' (by (with_reducible repeat (first | apply Kd.R_alloc | apply Kd.R_drewN | apply Kd.R_drew)); exact HO541.out) (Kd.R_base ho0) hb); have n2_ := Aside0.mk (Kd.R_elder' (by (with_reducible repeat (first | apply Kd.R_alloc | apply Kd.R_drewN | apply Kd.R_drew)); exact HO547.out) (Kd.R_base ho0) hb); have n3_ := Aside0.mk (Kd.R_elder' (by (with_reducible repeat (first | apply Kd.R_alloc | apply Kd.R_drewN | apply Kd.R_drew)); exact HO555.out) (Kd.R_base ho0) hb); have n4_ := Aside0.mk (Kd.R_elder' (by (with_reducible repeat (first | apply Kd.R_alloc | apply Kd.R_drewN | apply Kd.R_drew)); exact HO560.out) (Kd.R_base ho0) hb); have n5_ := Aside0.mk (Kd.R_lower (Kd.R_new' (Kd.R_new' (Kd.R_new' (Kd.R_new' (Kd.R_new' ho0 (Kd.R_lt (by (with_reducible repeat (first | apply Kd.R_alloc | apply Kd.R_drewN | apply Kd.R_drew)); exact HO534.out))) (Kd.R_lt (by (with_reducible repeat (first | apply Kd.R_alloc | apply Kd.R_drewN | apply Kd.R_drew)); exact HO541.out))) (Kd.R_lt (by (with_reducible repeat (first | apply Kd.R_alloc | apply Kd.R_drewN | apply Kd.R_drew)); exact HO547.out))) (Kd.R_lt (by (with_reducible repeat (first | apply Kd.R_alloc | apply Kd.R_drewN | apply Kd.R_drew)); exact HO555.out))) (Kd.R_lt (by (with_reducible repeat (first | apply Kd.R_alloc | apply Kd.R_drewN | apply Kd.R_drew)); exact HO560.out))) (below_size (by repeat (first | (with_reducible first | exact HB.out | apply below_alloc | apply pw_below_drewN | apply below_drew1 | refine below_set ?_ GE530.out | refine below_set ?_ GE549.out | refine below_set ?_ GE557.out) | exact HB.out)))); have n6_ := Aside0.mk (blk_below (g := gb530) (o := .cells #[.int .u32 a0_0, .int .u32 a0_1, .int .i64 a0_2, .int .i64 a0_3, .bool false, .slice A0_5 l0_5.length c0_5] 49 (0, 0)) (by (with_reducible repeat (first | refine blk_drewN ?_ _ | refine blk_drew ?_ | refine blk_alloc ?_ _)); exact BK530.out) hb); have n7_ := Aside0.mk (blk_below (g := gb549) (o := .cells #[.int .i64 t542, .int .i64 t543, .bool t544, .slice Ao77 t545.length co77] 47 (0, 0)) (by (with_reducible repeat (first | refine blk_drewN ?_ _ | refine blk_drew ?_ | refine blk_alloc ?_ _)); exact BK549.out) hb); have n8_ := Aside0.mk (blk_below (g := gb557) (o := .cells #[.int .i64 t550, .int .i64 t551, .bool t552, .slice Ao86 t553.length co86] 47 (0, 0)) (by (with_reducible repeat (first | refine blk_drewN ?_ _ | refine blk_drew ?_ | refine blk_alloc ?_ _)); exact BK557.out) hb); have n9_ := Aside0.mk (Kd.C_below (by repeat (first | (with_reducible exact HRl564.out) | (with_reducible refine Kd.C_alloc ?_ _) | (with_reducible refine Kd.C_drewN ?_ _) | (with_reducible refine Kd.C_drew ?_) | exact HRl564.out)) hb); have n10_ := Aside0.mk (below_step (by repeat (first | (with_reducible first | exact HB.out | apply below_alloc | apply pw_below_drewN | apply below_drew1 | refine below_set ?_ GE530.out | refine below_set ?_ GE549.out | refine below_set ?_ GE557.out) | exact HB.out)) hb); clear HO534; clear HO541; clear HO547; clear HO555; clear HO560; clear BK530; clear BK549; clear BK557; clear HRl564; clear HB; have HO534 := n0_; have HO541 := n1_; have HO547 := n2_; have HO555 := n3_; have HO560 := n4_; have HO568 := n5_; have BK530 := n6_; have BK549 := n7_; have BK557 := n8_; have HRl564 := n9_; have HB := n10_; clear n0_ n1_ n2_ n3_ n4_ n5_ n6_ n7_ n8_ n9_ n10_; (try clear hb); (try clear hb2); (try clear hk); (try clear hi); (try clear ho0); obtain ⟨Ao94, co94, eo94⟩ := Kd.R_slice HO568.out; subst eo94) | ((with_reducible refine gate_dst (N := 74) rfl ?_); (try (refine gate_guard (by rfl) ?_; dsimp only)); refine Kd.N_lit (Kd.slice 5 (Kd.int .u8)) _ 22 ?hg (N' := 74) ?hd (xs := ([t566] : List (List Int))) (inner := [.slice Ao94 t566.length co94]) (ok := fun _ => True) (okp := fun _ => True) ?hr ?hp (fun _ _ => trivial) trivial (Below.refl _ _) (Nat.le_refl _) (by simp) ?_; (case hd => rfl); (case hg => rfl); (case hr => first | (go_simp; done) | (go_simp; rfl)); (case hp => exact (Reps.one (show Kd.FK (Kd.slice 5 (Kd.int .u8)) _ _ t566 [.slice Ao94 t566.length co94] from Kd.FK_slice_mk (by exact (Kd.R_reads' HO568.out).2.1) (Kd.F_mono (Kd.C_F (Kd.heap_int .u8) (by repeat (first | exact (Kd.R_reads' HO568.out).2.2 | (with_reducible refine Kd.C_alloc ?_ _) | (with_reducible refine Kd.C_drewN ?_ _) | (with_reducible refine Kd.C_drew ?_)))) (fun _ _ => trivial))) (Reps.none _ _))); intro vl572 w95 ho hb hg_ hnew_; clear hg_ hnew_; (first | rw [← Ny569.out] at ho | (simp only [Int.reduceToNat] at ho; rw [← Ny569.out] at ho)); obtain ⟨Al572, cl572, el572⟩ := Kd.N_slice ho; subst el572; have hr := (Kd.N_reads' ho).2.2; have hl := (Kd.N_reads' ho).2.1; clear ho; have n0_ := Aside0.mk (Kd.R_below (by (with_reducible repeat (first | apply Kd.R_alloc | apply Kd.R_drewN | apply Kd.R_drew)); exact HO534.out) hb); have n1_ := Aside0.mk (Kd.R_below (by (with_reducible repeat (first | apply Kd.R_alloc | apply Kd.R_drewN | apply Kd.R_drew)); exact HO541.out) hb); have n2_ := Aside0.mk (Kd.R_below (by (with_reducible repeat (first | apply Kd.R_alloc | apply Kd.R_drewN | apply Kd.R_drew)); exact HO547.out) hb); have n3_ := Aside0.mk (Kd.R_below (by (with_reducible repeat (first | apply Kd.R_alloc | apply Kd.R_drewN | apply Kd.R_drew)); exact HO555.out) hb); have n4_ := Aside0.mk (Kd.R_below (by (with_reducible repeat (first | apply Kd.R_alloc | apply Kd.R_drewN | apply Kd.R_drew)); exact HO560.out) hb); have n5_ := Aside0.mk (Kd.R_below (by (with_reducible repeat (first | apply Kd.R_alloc | apply Kd.R_drewN | apply Kd.R_drew)); exact HO568.out) hb); have n6_ := Aside0.mk (blk_below (g := gb530) (o := .cells #[.int .u32 a0_0, .int .u32 a0_1, .int .i64 a0_2, .int .i64 a0_3, .bool false, .slice A0_5 l0_5.length c0_5] 49 (0, 0)) (by (with_reducible repeat (first | refine blk_drewN ?_ _ | refine blk_drew ?_ | refine blk_alloc ?_ _)); exact BK530.out) hb); have n7_ := Aside0.mk (blk_below (g := gb549) (o := .cells #[.int .i64 t542, .int .i64 t543, .bool t544, .slice Ao77 t545.length co77] 47 (0, 0)) (by (with_reducible repeat (first | refine blk_drewN ?_ _ | refine blk_drew ?_ | refine blk_alloc ?_ _)); exact BK549.out) hb); have n8_ := Aside0.mk (blk_below (g := gb557) (o := .cells #[.int .i64 t550, .int .i64 t551, .bool t552, .slice Ao86 t553.length co86] 47 (0, 0)) (by (with_reducible repeat (first | refine blk_drewN ?_ _ | refine blk_drew ?_ | refine blk_alloc ?_ _)); exact BK557.out) hb); have n9_ := Aside0.mk (Kd.C_below (by repeat (first | (with_reducible exact HRl564.out) | (with_reducible refine Kd.C_alloc ?_ _) | (with_reducible refine Kd.C_drewN ?_ _) | (with_reducible refine Kd.C_drew ?_) | exact HRl564.out)) hb); have n10_ := Aside0.mk (below_step (by repeat (first | (with_reducible first | exact HB.out | apply below_alloc | apply pw_below_drewN | apply below_drew1 | refine below_set ?_ GE530.out | refine below_set ?_ GE549.out | refine below_set ?_ GE557.out) | exact HB.out)) hb); have n11_ := Aside0.mk (hr); have n12_ := Aside0.mk (hl); clear HO534; clear HO541; clear HO547; clear HO555; clear HO560; clear HO568; clear BK530; clear BK549; clear BK557; clear HRl564; clear HB; have HO534 := n0_; have HO541 := n1_; have HO547 := n2_; have HO555 := n3_; have HO560 := n4_; have HO568 := n5_; have BK530 := n6_; have BK549 := n7_; have BK557 := n8_; have HRl564 := n9_; have HB := n10_; have HRl572 := n11_; have HCl572 := n12_; clear n0_ n1_ n2_ n3_ n4_ n5_ n6_ n7_ n8_ n9_ n10_ n11_ n12_; clear hb hr hl; have n_ := Aside0.mk (Kd.R_mono (ok' := (fun k_ => some k_ ≠ (v540 : Value).ownBlock ∧ some k_ ≠ (.slice Ao77 t545.length co77 : Value).ownBlock ∧ some k_ ≠ (.slice Ao86 t553.length co86 : Value).ownBlock ∧ some k_ ≠ (.slice Ao89 t558.length co89 : Value).ownBlock ∧ some k_ ≠ (.slice Ao94 t566.length co94 : Value).ownBlock)) HO534.out (fun k_ hk => ⟨hk.1.1, ⟨hk.1.2.1, ⟨hk.1.2.2.1, ⟨hk.1.2.2.2, hk.2⟩⟩⟩⟩)); clear HO534; have HO534 := n_; clear n_; have n_ := Aside0.mk (Kd.R_mono (ok' := (fun k_ => some k_ ≠ (.slice Ao66 t532.length co66 : Value).ownBlock ∧ some k_ ≠ (.slice Ao77 t545.length co77 : Value).ownBlock ∧ some k_ ≠ (.slice Ao86 t553.length co86 : Value).ownBlock ∧ some k_ ≠ (.slice Ao89 t558.length co89 : Value).ownBlock ∧ some k_ ≠ (.slice Ao94 t566.length co94 : Value).ownBlock)) HO541.out (fun k_ hk => ⟨hk.1.1, ⟨hk.1.2.1, ⟨hk.1.2.2.1, ⟨hk.1.2.2.2, hk.2⟩⟩⟩⟩)); clear HO541; have HO541 := n_; clear n_; have n_ := Aside0.mk (Kd.R_mono (ok' := (fun k_ => some k_ ≠ (.slice Ao66 t532.length co66 : Value).ownBlock ∧ some k_ ≠ (v540 : Value).ownBlock ∧ some k_ ≠ (.slice Ao86 t553.length co86 : Value).ownBlock ∧ some k_ ≠ (.slice Ao89 t558.length co89 : Value).ownBlock ∧ some k_ ≠ (.slice Ao94 t566.length co94 : Value).ownBlock)) HO547.out (fun k_ hk => ⟨hk.1.1, ⟨hk.1.2.1, ⟨hk.1.2.2.1, ⟨hk.1.2.2.2, hk.2⟩⟩⟩⟩)); clear HO547; have HO547 := n_; clear n_; have n_ := Aside0.mk (Kd.R_mono (ok' := (fun k_ => some k_ ≠ (.slice Ao66 t532.length co66 : Value).ownBlock ∧ some k_ ≠ (v540 : Value).ownBlock ∧ some k_ ≠ (.slice Ao77 t545.length co77 : Value).ownBlock ∧ some k_ ≠ (.slice Ao89 t558.length co89 : Value).ownBlock ∧ some k_ ≠ (.slice Ao94 t566.length co94 : Value).ownBlock)) HO555.out (fun k_ hk => ⟨hk.1.1, ⟨hk.1.2.1, ⟨hk.1.2.2.1, ⟨hk.1.2.2.2, hk.2⟩⟩⟩⟩)); clear HO555; have HO555 := n_; clear n_; have n_ := Aside0.mk (Kd.R_mono (ok' := (fun k_ => some k_ ≠ (.slice Ao66 t532.length co66 : Value).ownBlock ∧ some k_ ≠ (v540 : Value).ownBlock ∧ some k_ ≠ (.slice Ao77 t545.length co77 : Value).ownBlock ∧ some k_ ≠ (.slice Ao86 t553.length co86 : Value).ownBlock ∧ some k_ ≠ (.slice Ao94 t566.length co94 : Value).ownBlock)) HO560.out (fun k_ hk => ⟨hk.1.1, ⟨hk.1.2.1, ⟨hk.1.2.2.1, ⟨hk.1.2.2.2, hk.2⟩⟩⟩⟩)); clear HO560; have HO560 := n_; clear n_; have n_ := Aside0.mk (Kd.R_mono (ok' := (fun k_ => some k_ ≠ (.slice Ao66 t532.length co66 : Value).ownBlock ∧ some k_ ≠ (v540 : Value).ownBlock ∧ some k_ ≠ (.slice Ao77 t545.length co77 : Value).ownBlock ∧ some k_ ≠ (.slice Ao86 t553.length co86 : Value).ownBlock ∧ some k_ ≠ (.slice Ao89 t558.length co89 : Value).ownBlock)) HO568.out (fun k_ hk => ⟨hk.1.1.1.1.2, ⟨hk.1.1.1.2, ⟨hk.1.1.2, ⟨hk.1.2, hk.2⟩⟩⟩⟩)); clear HO568; have HO568 := n_; clear n_) | ((with_reducible refine gate_callee (f := 26) rfl ?_); refine goesL_ (some 75) rfl rfl Try.func26 (by kernel_rfl) rfl #[.slice Al572 y569.length cl572] rfl (by (try simp only [List.map_toArray, List.map_cons, List.map_nil]); first | done | rfl | (simp only [List.length_drop, List.length_take]; rfl)) ?_; (with_reducible refine (octet_Sum.calls _ _ y569 t573 _ ?side1 ?side2 A22.out).mono ?_); (case side1 => repeat (first | exact (by repeat (first | (with_reducible exact HRl572.out) | (with_reducible refine Kd.C_alloc ?_ _) | (with_reducible refine Kd.C_drewN ?_ _) | (with_reducible refine Kd.C_drew ?_) | exact HRl572.out)) | (with_reducible refine Kd.C_alloc ?_ _) | (with_reducible refine Kd.C_drewN ?_ _) | (with_reducible refine Kd.C_drew ?_))); (case side2 => exact HCl572.out); rintro e w96 ⟨rfl, hb⟩; refine ⟨_, rfl, ?_⟩; have n0_ := Aside0.mk (Kd.R_below (by (with_reducible repeat (first | apply Kd.R_alloc | apply Kd.R_drewN | apply Kd.R_drew)); exact HO534.out) hb); have n1_ := Aside0.mk (Kd.R_below (by (with_reducible repeat (first | apply Kd.R_alloc | apply Kd.R_drewN | apply Kd.R_drew)); exact HO541.out) hb); have n2_ := Aside0.mk (Kd.R_below (by (with_reducible repeat (first | apply Kd.R_alloc | apply Kd.R_drewN | apply Kd.R_drew)); exact HO547.out) hb); have n3_ := Aside0.mk (Kd.R_below (by (with_reducible repeat (first | apply Kd.R_alloc | apply Kd.R_drewN | apply Kd.R_drew)); exact HO555.out) hb); have n4_ := Aside0.mk (Kd.R_below (by (with_reducible repeat (first | apply Kd.R_alloc | apply Kd.R_drewN | apply Kd.R_drew)); exact HO560.out) hb); have n5_ := Aside0.mk (Kd.R_below (by (with_reducible repeat (first | apply Kd.R_alloc | apply Kd.R_drewN | apply Kd.R_drew)); exact HO568.out) hb); have n6_ := Aside0.mk (blk_below (g := gb530) (o := .cells #[.int .u32 a0_0, .int .u32 a0_1, .int .i64 a0_2, .int .i64 a0_3, .bool false, .slice A0_5 l0_5.length c0_5] 49 (0, 0)) (by (with_reducible repeat (first | refine blk_drewN ?_ _ | refine blk_drew ?_ | refine blk_alloc ?_ _)); exact BK530.out) hb); have n7_ := Aside0.mk (blk_below (g := gb549) (o := .cells #[.int .i64 t542, .int .i64 t543, .bool t544, .slice Ao77 t545.length co77] 47 (0, 0)) (by (with_reducible repeat (first | refine blk_drewN ?_ _ | refine blk_drew ?_ | refine blk_alloc ?_ _)); exact BK549.out) hb); have n8_ := Aside0.mk (blk_below (g := gb557) (o := .cells #[.int .i64 t550, .int .i64 t551, .bool t552, .slice Ao86 t553.length co86] 47 (0, 0)) (by (with_reducible repeat (first | refine blk_drewN ?_ _ | refine blk_drew ?_ | refine blk_alloc ?_ _)); exact BK557.out) hb); have n9_ := Aside0.mk (Kd.C_below (by repeat (first | (with_reducible exact HRl564.out) | (with_reducible refine Kd.C_alloc ?_ _) | (with_reducible refine Kd.C_drewN ?_ _) | (with_reducible refine Kd.C_drew ?_) | exact HRl564.out)) hb); have n10_ := Aside0.mk (Kd.C_below (by repeat (first | (with_reducible exact HRl572.out) | (with_reducible refine Kd.C_alloc ?_ _) | (with_reducible refine Kd.C_drewN ?_ _) | (with_reducible refine Kd.C_drew ?_) | exact HRl572.out)) hb); have n11_ := Aside0.mk (below_step (by repeat (first | (with_reducible first | exact HB.out | apply below_alloc | apply pw_below_drewN | apply below_drew1 | refine below_set ?_ GE530.out | refine below_set ?_ GE549.out | refine below_set ?_ GE557.out) | exact HB.out)) hb); clear HO534; clear HO541; clear HO547; clear HO555; clear HO560; clear HO568; clear BK530; clear BK549; clear BK557; clear HRl564; clear HRl572; clear HB; have HO534 := n0_; have HO541 := n1_; have HO547 := n2_; have HO555 := n3_; have HO560 := n4_; have HO568 := n5_; have BK530 := n6_; have BK549 := n7_; have BK557 := n8_; have HRl564 := n9_; have HRl572 := n10_; have HB := n11_; clear n0_ n1_ n2_ n3_ n4_ n5_ n6_ n7_ n8_ n9_ n10_ n11_; (try clear hb); (try clear hb2); (try clear hk); (try clear hi); have hcz97_0 : w96.cell? ⟨gb549, 0, none⟩ = some (.int .i64 t542) := (blk_cell BK549.out 0).trans rfl; have hcz97_1 : w96.cell? ⟨gb549, 1, none⟩ = some (.int .i64 t543) := (blk_cell BK549.out 1).trans rfl; have hcz97_2 : w96.cell? ⟨gb549, 2, none⟩ = some (.bool t544) := (blk_cell BK549.out 2).trans rfl; have hcz97_3 : w96.cell? ⟨gb549, 3, none⟩ = some (.slice Ao77 t545.length co77) := (blk_cell BK549.out 3).trans rfl; have hfz97_0 := blk_frozen BK549.out 0; have hfz97_1 := blk_frozen BK549.out 1; have hfz97_2 := blk_frozen BK549.out 2; have hfz97_3 := blk_frozen BK549.out 3; have hcz98_0 : w96.cell? ⟨gb530, 0, none⟩ = some (.int .u32 a0_0) := (blk_cell BK530.out 0).trans rfl; have hcz98_1 : w96.cell? ⟨gb530, 1, none⟩ = some (.int .u32 a0_1) := (blk_cell BK530.out 1).trans rfl; have hcz98_2 : w96.cell? ⟨gb530, 2, none⟩ = some (.int .i64 a0_2) := (blk_cell BK530.out 2).trans rfl; have hcz98_3 : w96.cell? ⟨gb530, 3, none⟩ = some (.int .i64 a0_3) := (blk_cell BK530.out 3).trans rfl; have hcz98_4 : w96.cell? ⟨gb530, 4, none⟩ = some (.bool false) := (blk_cell BK530.out 4).trans rfl; have hcz98_5 : w96.cell? ⟨gb530, 5, none⟩ = some (.slice A0_5 l0_5.length c0_5) := (blk_cell BK530.out 5).trans rfl; have hfz98_0 := blk_frozen BK530.out 0; have hfz98_1 := blk_frozen BK530.out 1; have hfz98_2 := blk_frozen BK530.out 2; have hfz98_3 := blk_frozen BK530.out 3; have hfz98_4 := blk_frozen BK530.out 4; have hfz98_5 := blk_frozen BK530.out 5) | (go_at_call 44; (with_reducible refine (bailiwickref3_SameDatagram.calls kj5 t542 t543 t544 _ _ t545 a0_2 a0_3 false _ _ l0_5 true _ ?side1 ?side2 ?side3 ?side4 A24.out).mono ?_); (case side1 => repeat (first | exact (Kd.R_reads' HO547.out).2.2 | (with_reducible refine Kd.C_alloc ?_ _) | (with_reducible refine Kd.C_drewN ?_ _) | (with_reducible refine Kd.C_drew ?_))); (case side2 => exact (Kd.R_reads' HO547.out).2.1); (case side3 => repeat (first | exact (Kd.C_below HR0_5.out HB.out) | (with_reducible refine Kd.C_alloc ?_ _) | (with_reducible refine Kd.C_drewN ?_ _) | (with_reducible refine Kd.C_drew ?_))); (case side4 => exact HC0_5.out); rintro e w99 ⟨rfl, hb⟩; have n0_ := Aside0.mk (Kd.R_below (by (with_reducible repeat (first | apply Kd.R_alloc | apply Kd.R_drewN | apply Kd.R_drew)); exact HO534.out) hb); have n1_ := Aside0.mk (Kd.R_below (by (with_reducible repeat (first | apply Kd.R_alloc | apply Kd.R_drewN | apply Kd.R_drew)); exact HO541.out) hb); have n2_ := Aside0.mk (Kd.R_below (by (with_reducible repeat (first | apply Kd.R_alloc | apply Kd.R_drewN | apply Kd.R_drew)); exact HO547.out) hb); have n3_ := Aside0.mk (Kd.R_below (by (with_reducible repeat (first | apply Kd.R_alloc | apply Kd.R_drewN | apply Kd.R_drew)); exact HO555.out) hb); have n4_ := Aside0.mk (Kd.R_below (by (with_reducible repeat (first | apply Kd.R_alloc | apply Kd.R_drewN | apply Kd.R_drew)); exact HO560.out) hb); have n5_ := Aside0.mk (Kd.R_below (by (with_reducible repeat (first | apply Kd.R_alloc | apply Kd.R_drewN | apply Kd.R_drew)); exact HO568.out) hb); have n6_ := Aside0.mk (blk_below (g := gb530) (o := .cells #[.int .u32 a0_0, .int .u32 a0_1, .int .i64 a0_2, .int .i64 a0_3, .bool false, .slice A0_5 l0_5.length c0_5] 49 (0, 0)) (by (with_reducible repeat (first | refine blk_drewN ?_ _ | refine blk_drew ?_ | refine blk_alloc ?_ _)); exact BK530.out) hb); have n7_ := Aside0.mk (blk_below (g := gb549) (o := .cells #[.int .i64 t542, .int .i64 t543, .bool t544, .slice Ao77 t545.length co77] 47 (0, 0)) (by (with_reducible repeat (first | refine blk_drewN ?_ _ | refine blk_drew ?_ | refine blk_alloc ?_ _)); exact BK549.out) hb); have n8_ := Aside0.mk (blk_below (g := gb557) (o := .cells #[.int .i64 t550, .int .i64 t551, .bool t552, .slice Ao86 t553.length co86] 47 (0, 0)) (by (with_reducible repeat (first | refine blk_drewN ?_ _ | refine blk_drew ?_ | refine blk_alloc ?_ _)); exact BK557.out) hb); have n9_ := Aside0.mk (Kd.C_below (by repeat (first | (with_reducible exact HRl564.out) | (with_reducible refine Kd.C_alloc ?_ _) | (with_reducible refine Kd.C_drewN ?_ _) | (with_reducible refine Kd.C_drew ?_) | exact HRl564.out)) hb); have n10_ := Aside0.mk (Kd.C_below (by repeat (first | (with_reducible exact HRl572.out) | (with_reducible refine Kd.C_alloc ?_ _) | (with_reducible refine Kd.C_drewN ?_ _) | (with_reducible refine Kd.C_drew ?_) | exact HRl572.out)) hb); have n11_ := Aside0.mk (below_step (by repeat (first | (with_reducible first | exact HB.out | apply below_alloc | apply pw_below_drewN | apply below_drew1 | refine below_set ?_ GE530.out | refine below_set ?_ GE549.out | refine below_set ?_ GE557.out) | exact HB.out)) hb); clear HO534; clear HO541; clear HO547; clear HO555; clear HO560; clear HO568; clear BK530; clear BK549; clear BK557; clear HRl564; clear HRl572; clear HB; have HO534 := n0_; have HO541 := n1_; have HO547 := n2_; have HO555 := n3_; have HO560 := n4_; have HO568 := n5_; have BK530 := n6_; have BK549 := n7_; have BK557 := n8_; have HRl564 := n9_; have HRl572 := n10_; have HB := n11_; clear n0_ n1_ n2_ n3_ n4_ n5_ n6_ n7_ n8_ n9_ n10_ n11_; (try clear hb); (try clear hb2); (try clear hk); (try clear hi); have hcz100_0 : w99.cell? ⟨gb530, 0, none⟩ = some (.int .u32 a0_0) := (blk_cell BK530.out 0).trans rfl; have hcz100_1 : w99.cell? ⟨gb530, 1, none⟩ = some (.int .u32 a0_1) := (blk_cell BK530.out 1).trans rfl; have hcz100_2 : w99.cell? ⟨gb530, 2, none⟩ = some (.int .i64 a0_2) := (blk_cell BK530.out 2).trans rfl; have hcz100_3 : w99.cell? ⟨gb530, 3, none⟩ = some (.int .i64 a0_3) := (blk_cell BK530.out 3).trans rfl; have hcz100_4 : w99.cell? ⟨gb530, 4, none⟩ = some (.bool false) := (blk_cell BK530.out 4).trans rfl; have hcz100_5 : w99.cell? ⟨gb530, 5, none⟩ = some (.slice A0_5 l0_5.length c0_5) := (blk_cell BK530.out 5).trans rfl; have hfz100_0 := blk_frozen BK530.out 0; have hfz100_1 := blk_frozen BK530.out 1; have hfz100_2 := blk_frozen BK530.out 2; have hfz100_3 := blk_frozen BK530.out 3; have hfz100_4 := blk_frozen BK530.out 4; have hfz100_5 := blk_frozen BK530.out 5))
          go_ret
          exact ⟨by first | rfl | (simp [errW_none, errW_some] <;> rfl) | (simp [*, errW_none, errW_some] <;> rfl), by repeat (first | (with_reducible first | exact HB.out | apply below_alloc | apply pw_below_drewN | apply below_drew1 | refine below_set ?_ GE530.out | refine below_set ?_ GE549.out | refine below_set ?_ GE557.out) | exact HB.out)⟩
        ·replace c25 := Bool.eq_false_iff.mpr c25
         subst c25
         have H1 : (some false) = some r := by rw [if_neg (show ¬ (false = true) by decide)] at H; exact H
         clear H
         have H := H1
         clear H1
         exact absurd ((Option.some.inj H).trans hT) (by decide)
       ·rw [if_neg c23] at H
        have c23b0 : (t548 == 0) = false := beq_eq_false_iff_ne.mpr c23
        have c23b1 : (t548 != 0) = true := bne_iff_ne.mpr c23
        exact absurd ((Option.some.inj H).trans hT) (by decide)
      ·rw [if_neg c16] at H
       exact absurd H (by simp)
     ·rw [if_neg c14] at H
      have c14b0 : (t535 == 0) = false := beq_eq_false_iff_ne.mpr c14
      have c14b1 : (t535 != 0) = true := bne_iff_ne.mpr c14
      obtain rfl := Option.some.inj H
      have hcz170_0 : wc.cell? ⟨gb530, 0, none⟩ = some (.int .u32 a0_0) := (blk_cell BK530.out 0).trans rfl
      have hcz170_1 : wc.cell? ⟨gb530, 1, none⟩ = some (.int .u32 a0_1) := (blk_cell BK530.out 1).trans rfl
      have hcz170_2 : wc.cell? ⟨gb530, 2, none⟩ = some (.int .i64 a0_2) := (blk_cell BK530.out 2).trans rfl
      have hcz170_3 : wc.cell? ⟨gb530, 3, none⟩ = some (.int .i64 a0_3) := (blk_cell BK530.out 3).trans rfl
      have hcz170_4 : wc.cell? ⟨gb530, 4, none⟩ = some (.bool a0_4) := (blk_cell BK530.out 4).trans rfl
      have hcz170_5 : wc.cell? ⟨gb530, 5, none⟩ = some (.slice A0_5 l0_5.length c0_5) := (blk_cell BK530.out 5).trans rfl
      have hfz170_0 := blk_frozen BK530.out 0
      have hfz170_1 := blk_frozen BK530.out 1
      have hfz170_2 := blk_frozen BK530.out 2
      have hfz170_3 := blk_frozen BK530.out 3
      have hfz170_4 := blk_frozen BK530.out 4
      have hfz170_5 := blk_frozen BK530.out 5
      go_wp2_with (first | ((with_reducible refine gate_callee (f := 39) rfl ?_); refine goesL_ (some 34) rfl rfl Try.func39 (by kernel_rfl) rfl #[.int .u32 a0_0, .int .u32 a0_1, .agg #[.int .i64 a0_2, .int .i64 a0_3, .bool a0_4, .slice A0_5 l0_5.length c0_5]] rfl (by (try simp only [List.map_toArray, List.map_cons, List.map_nil]); first | done | rfl | (simp only [List.length_drop, List.length_take]; rfl)) ?_; (with_reducible refine (udp_Build.calls kj5 a0_0 a0_1 a0_2 a0_3 a0_4 _ _ l0_5 t532 t535 _ ?side1 ?side2 A13.out).mono ?_); (case side1 => repeat (first | exact (Kd.C_below HR0_5.out HB.out) | (with_reducible refine Kd.C_alloc ?_ _) | (with_reducible refine Kd.C_drewN ?_ _) | (with_reducible refine Kd.C_drew ?_))); (case side2 => exact HC0_5.out); rintro e w171 ⟨v533, rfl, ho0, hb⟩; refine ⟨_, rfl, ?_⟩; have n0_ := Aside0.mk (Kd.R_lower ho0 (below_size (by repeat (first | (with_reducible first | exact HB.out | apply below_alloc | apply pw_below_drewN | apply below_drew1 | refine below_set ?_ GE530.out) | exact HB.out)))); have n1_ := Aside0.mk (blk_below (g := gb530) (o := .cells #[.int .u32 a0_0, .int .u32 a0_1, .int .i64 a0_2, .int .i64 a0_3, .bool a0_4, .slice A0_5 l0_5.length c0_5] 49 (0, 0)) (by (with_reducible repeat (first | refine blk_drewN ?_ _ | refine blk_drew ?_ | refine blk_alloc ?_ _)); exact BK530.out) hb); have n2_ := Aside0.mk (below_step (by repeat (first | (with_reducible first | exact HB.out | apply below_alloc | apply pw_below_drewN | apply below_drew1 | refine below_set ?_ GE530.out) | exact HB.out)) hb); clear BK530; clear HB; have HO534 := n0_; have BK530 := n1_; have HB := n2_; clear n0_ n1_ n2_; (try clear hb); (try clear hb2); (try clear hk); (try clear hi); (try clear ho0)))
      go_ret
      exact ⟨by first | rfl | (simp [errW_none, errW_some] <;> rfl) | (simp [*, errW_none, errW_some] <;> rfl), by repeat (first | (with_reducible first | exact HB.out | apply below_alloc | apply pw_below_drewN | apply below_drew1 | refine below_set ?_ GE530.out) | exact HB.out)⟩
 ·replace c5 := Bool.eq_false_iff.mpr c5
  subst c5
  have H1 : (some false) = some r := by rw [if_neg (show ¬ (false = true) by decide)] at H; exact H
  clear H
  have H := H1
  clear H1
  exact absurd ((Option.some.inj H).trans hT) (by decide)
def bailiwicklaw3_UdpBack.Pure : Prop := ∀ (a0_0 : Int) (a0_1 : Int) (a0_2 : Int) (a0_3 : Int) (a0_4 : Bool) (l0_5 : List Int) (l1 : List Int) (a2 : Int), (Lit.int .u32 a0_0).wf = true → (Lit.int .u32 a0_1).wf = true → (Lit.int .i64 a0_2).wf = true → (Lit.int .i64 a0_3).wf = true → (l0_5.length ≤ maxLen ∧ l0_5.length * 1 ≤ 140737488351232 ∧ ∀ a__ ∈ l0_5, (Lit.int .u8 a__).wf = true) → (l1.length ≤ maxLen ∧ l1.length * 1 ≤ 140737488351232 ∧ ∀ a_ ∈ l1, (Lit.int .u8 a_).wf = true) → (Lit.int .u32 a2).wf = true → ∃ k, bailiwicklaw3_UdpBack.f k a0_0 a0_1 a0_2 a0_3 a0_4 l0_5 l1 a2 = some true

end Go.Proofs.Ytdppnkgblklmmaa.P
