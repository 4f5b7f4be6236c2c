-- Laid by a program (wip/tools/myprint.py) out of the translation. Not trusted: Lean checks it.
import Derived.Test.YtljnnhloinbjhaaP0
import Derived.Test.YtljnnhloinbjhaaPEq1
import Derived.Test.YtljnnhloinbjhaaPbailiwicklaw6
import Derived.Test.YtljnnhloinbjhaaPbailiwickref6Quote
import Derived.Test.YtljnnhloinbjhaaPframeQuote
namespace Go.Proofs.Ytljnnhloinbjhaa.P
open Go.RowKit Go.Proofs.YtljnnhloinbjhaaW.PrintWords Go.Proofs.YtljnnhloinbjhaaW.PrintLast
set_option linter.unusedVariables false
set_option linter.unusedSimpArgs false

attribute [local go_sem high] eqA35
/-! ### bailiwicklaw6_FrameQuotes: function 5 -/
def bailiwicklaw6_FrameQuotes.f (k : Nat) (l0 : List Int) : Option (Bool) := (bailiwicklaw6_awake.f).bind fun t629 => (if t629 = true then (if (l0.length : Int) > 100000 then (some true) else ((frame_Quote.f l0).bind fun bt630 => ((bailiwickref6_Quote.f k l0).bind fun bt637 => (if (bt630.2.2.2.2.2 == bt637.2.2.2.2.2) = true then (some (bt630.1 == bt637.1 && ((bt630.2.1 == bt637.2.1 && (bt630.2.2.1 == bt637.2.2.1)) && ((bt630.2.2.2.1 == bt637.2.2.2.1 && (bt630.2.2.2.2.1 == bt637.2.2.2.2.1)))))) else (some false))))) else (some false))
theorem bailiwicklaw6_FrameQuotes.mono : ∀ a0 k, LeO (bailiwicklaw6_FrameQuotes.f k a0) (bailiwicklaw6_FrameQuotes.f (k + 1) a0) := by
 intro a0 k
 unfold bailiwicklaw6_FrameQuotes.f
 repeat' first
   | (with_reducible exact bailiwickref6_Quote.mono _ _)
   | (with_reducible exact LeO.refl _)
   | (with_reducible exact LeO.none _)
   | (with_reducible refine LeO.ite ?_ ?_)
   | (with_reducible refine LeO.bind ?_ (fun _ => ?_))
   | exact bailiwickref6_Quote.mono _ _
   | exact LeO.none _
   | refine LeO.ite ?_ ?_
   | refine LeO.bind ?_ (fun _ => ?_)
set_option maxHeartbeats 8000000 in
set_option maxRecDepth 100000 in
theorem bailiwicklaw6_FrameQuotes.calls (k : Nat) (A0 : Option Addr) (c0 : Nat) (l0 : List Int) (r : Bool) (hT : r = true) (w : World) (hr0 : Kd.C (Kd.int .u8) w A0 l0.length l0) (hc0 : l0.length ≤ c0) (h : bailiwicklaw6_FrameQuotes.f k l0 = some r) :
  Calls Try.prog 5 #[.slice A0 l0.length c0] w fun e w' => e = .returned (.bool r) ∧ Below w.heap.size w w' := by
 have hu35 := Try.underlying35
 have HR0 := Aside0.mk hr0
 have HC0 := Aside0.mk hc0
 clear hr0 hc0
 have HB := Aside0.mk (Below.refl w.heap.size w)
 have H : ((bailiwicklaw6_awake.f).bind fun t629 => (if t629 = true then (if (l0.length : Int) > 100000 then (some true) else ((frame_Quote.f l0).bind fun bt630 => ((bailiwickref6_Quote.f k l0).bind fun bt637 => (if (bt630.2.2.2.2.2 == bt637.2.2.2.2.2) = true then (some (bt630.1 == bt637.1 && ((bt630.2.1 == bt637.2.1 && (bt630.2.2.1 == bt637.2.2.1)) && ((bt630.2.2.2.1 == bt637.2.2.2.1 && (bt630.2.2.2.2.1 == bt637.2.2.2.2.1)))))) else (some false))))) else (some false))) = some r := h
 clear h
 replace H := Option.bind_eq_some_iff.mp H
 obtain ⟨t629, A20, H⟩ := H
 replace H : (if t629 = true then (if (l0.length : Int) > 100000 then (some true) else ((frame_Quote.f l0).bind fun bt630 => ((bailiwickref6_Quote.f k l0).bind fun bt637 => (if (bt630.2.2.2.2.2 == bt637.2.2.2.2.2) = true then (some (bt630.1 == bt637.1 && ((bt630.2.1 == bt637.2.1 && (bt630.2.2.1 == bt637.2.2.1)) && ((bt630.2.2.2.1 == bt637.2.2.2.1 && (bt630.2.2.2.2.1 == bt637.2.2.2.2.1)))))) else (some false))))) else (some false)) = some r := H
 have A2 := Aside0.mk A20
 clear A20
 by_cases c3 : t629 = true
 ·subst c3
  have H1 : (if (l0.length : Int) > 100000 then (some true) else ((frame_Quote.f l0).bind fun bt630 => ((bailiwickref6_Quote.f k l0).bind fun bt637 => (if (bt630.2.2.2.2.2 == bt637.2.2.2.2.2) = true then (some (bt630.1 == bt637.1 && ((bt630.2.1 == bt637.2.1 && (bt630.2.2.1 == bt637.2.2.1)) && ((bt630.2.2.2.1 == bt637.2.2.2.1 && (bt630.2.2.2.2.1 == bt637.2.2.2.2.1)))))) else (some false))))) = some r := by rw [if_pos rfl] at H; exact H
  clear H
  have H := H1
  clear H1
  by_cases c4 : (l0.length : Int) > 100000
  ·rw [if_pos c4] at H
   have c4b0 : decide (100000 < (l0.length : Int)) = true := decide_eq_true c4
   have c4b1 : decide (100000 < l0.length) = true := decide_eq_true (by omega)
   clear c4
   obtain rfl := Option.some.inj H
   go_enter Try.func5, Try.ntmps5
   go_wp2_with (first | ((with_reducible refine gate_callee (f := 21) rfl ?_); refine goesL_ (some 7) rfl rfl Try.func21 (by kernel_rfl) rfl #[] rfl (by (try simp only [List.map_toArray, List.map_cons, List.map_nil]); first | done | rfl | (simp only [List.length_drop, List.length_take]; rfl)) ?_; (with_reducible refine (bailiwicklaw6_awake.calls  true _ A2.out).mono ?_); rintro e w5 ⟨rfl, hb⟩; refine ⟨_, rfl, ?_⟩; have n0_ := Aside0.mk (below_step (by repeat (first | (with_reducible first | exact HB.out | apply below_alloc | apply pw_below_drewN | apply below_drew1) | exact HB.out)) hb); clear HB; have HB := n0_; clear n0_; (try clear hb); (try clear hb2); (try clear hk); (try clear hi)))
   go_ret
   exact ⟨by first | rfl | (simp [errW_none, errW_some] <;> rfl) | (simp [*, errW_none, errW_some] <;> rfl), by repeat (first | (with_reducible first | exact HB.out | apply below_alloc | apply pw_below_drewN | apply below_drew1) | exact HB.out)⟩
  ·rw [if_neg c4] at H
   have c4b0 : decide (100000 < (l0.length : Int)) = false := decide_eq_false c4
   have c4b1 : decide (100000 < l0.length) = false := decide_eq_false (by omega)
   clear c4
   replace H := Option.bind_eq_some_iff.mp H
   obtain ⟨⟨t630, t631, t632, t633, t634, t635⟩, A60, H⟩ := H
   replace H : ((bailiwickref6_Quote.f k l0).bind fun bt637 => (if (t635 == bt637.2.2.2.2.2) = true then (some (t630 == bt637.1 && ((t631 == bt637.2.1 && (t632 == bt637.2.2.1)) && ((t633 == bt637.2.2.2.1 && (t634 == bt637.2.2.2.2.1)))))) else (some false))) = some r := H
   have A6 := Aside0.mk A60
   clear A60
   replace H := Option.bind_eq_some_iff.mp H
   obtain ⟨⟨t637, t638, t639, t640, t641, t642⟩, A70, H⟩ := H
   replace H : (if (t635 == t642) = true then (some (t630 == t637 && ((t631 == t638 && (t632 == t639)) && ((t633 == t640 && (t634 == t641)))))) else (some false)) = some r := H
   have A7 := Aside0.mk A70
   clear A70
   by_cases c8 : (t635 == t642) = true
   ·rw [if_pos c8] at H
    have c8b0 : (t635 == t642) = true := c8
    (try (have c8b1 : decide (t635 = t642) = true := by simpa using c8))
    (try (have c8b2 : (t635 == t642) = true := by simpa using c8))
    clear c8
    obtain rfl := Option.some.inj H
    go_enter Try.func5, Try.ntmps5
    go_wp2_with (first | ((with_reducible refine gate_callee (f := 21) rfl ?_); refine goesL_ (some 7) rfl rfl Try.func21 (by kernel_rfl) rfl #[] rfl (by (try simp only [List.map_toArray, List.map_cons, List.map_nil]); first | done | rfl | (simp only [List.length_drop, List.length_take]; rfl)) ?_; (with_reducible refine (bailiwicklaw6_awake.calls  true _ A2.out).mono ?_); rintro e w9 ⟨rfl, hb⟩; refine ⟨_, rfl, ?_⟩; have n0_ := Aside0.mk (below_step (by repeat (first | (with_reducible first | exact HB.out | apply below_alloc | apply pw_below_drewN | apply below_drew1) | exact HB.out)) hb); clear HB; have HB := n0_; clear n0_; (try clear hb); (try clear hb2); (try clear hk); (try clear hi)) | ((with_reducible refine gate_callee (f := 28) rfl ?_); refine goesL_ (some 14) rfl rfl Try.func28 (by kernel_rfl) rfl #[.slice A0 l0.length c0] rfl (by (try simp only [List.map_toArray, List.map_cons, List.map_nil]); first | done | rfl | (simp only [List.length_drop, List.length_take]; rfl)) ?_; (with_reducible refine (frame_Quote.calls _ _ l0 t630 t631 t632 t633 t634 t635 _ ?side1 ?side2 A6.out).mono ?_); (case side1 => repeat (first | exact (Kd.C_below HR0.out HB.out) | (with_reducible refine Kd.C_alloc ?_ _) | (with_reducible refine Kd.C_drewN ?_ _) | (with_reducible refine Kd.C_drew ?_))); (case side2 => exact HC0.out); rintro e w10 ⟨rfl, hb⟩; refine ⟨_, rfl, ?_⟩; have n0_ := Aside0.mk (below_step (by repeat (first | (with_reducible first | exact HB.out | apply below_alloc | apply pw_below_drewN | apply below_drew1) | exact HB.out)) hb); clear HB; have HB := n0_; clear n0_; (try clear hb); (try clear hb2); (try clear hk); (try clear hi)) | ((with_reducible refine gate_dst (N := 3) rfl ?_); refine box_event ?hg (N := 3) ?hd (cs := #[.int .i64 0, .int .u32 0, .int .i64 0, .int .u32 0, .int .i64 0]) (t := 35) ?hr ?_; (case hd => rfl); (case hg => rfl); (case hr => first | (go_simp; done) | (go_simp; rfl)); intro gb636 hg w11 hbox hb; have n0_ := Aside0.mk (below_step (by repeat (first | (with_reducible first | exact HB.out | apply below_alloc | apply pw_below_drewN | apply below_drew1) | exact HB.out)) hb); have n1_ := Aside0.mk (hbox); have n2_ := Aside0.mk ((by rw [hg]; exact (below_size (by repeat (first | (with_reducible first | exact HB.out | apply below_alloc | apply pw_below_drewN | apply below_drew1) | exact HB.out))) : w.heap.size ≤ gb636)); have n3_ := Aside0.mk ((by rw [hg]; exact (below_size (by repeat (first | (with_reducible first | exact HB.out | apply below_alloc | apply pw_below_drewN | apply below_drew1) | exact HB.out))) : w.heap.size ≤ gb636)); clear HB; have HB := n0_; have BK636 := n1_; have GW636 := n2_; have GE636 := n3_; clear n0_ n1_ n2_ n3_; clear hb hbox hg; have hcz12_0 : w11.cell? ⟨gb636, 0, none⟩ = some (.int .i64 0) := (blk_cell BK636.out 0).trans rfl; have hcz12_1 : w11.cell? ⟨gb636, 1, none⟩ = some (.int .u32 0) := (blk_cell BK636.out 1).trans rfl; have hcz12_2 : w11.cell? ⟨gb636, 2, none⟩ = some (.int .i64 0) := (blk_cell BK636.out 2).trans rfl; have hcz12_3 : w11.cell? ⟨gb636, 3, none⟩ = some (.int .u32 0) := (blk_cell BK636.out 3).trans rfl; have hcz12_4 : w11.cell? ⟨gb636, 4, none⟩ = some (.int .i64 0) := (blk_cell BK636.out 4).trans rfl; have hfz12_0 := blk_frozen BK636.out 0; have hfz12_1 := blk_frozen BK636.out 1; have hfz12_2 := blk_frozen BK636.out 2; have hfz12_3 := blk_frozen BK636.out 3; have hfz12_4 := blk_frozen BK636.out 4) | ((with_reducible refine gate_callee (f := 29) rfl ?_); refine goesL_ (some 19) rfl rfl Try.func29 (by kernel_rfl) rfl #[.slice A0 l0.length c0] rfl (by (try simp only [List.map_toArray, List.map_cons, List.map_nil]); first | done | rfl | (simp only [List.length_drop, List.length_take]; rfl)) ?_; (with_reducible refine (bailiwickref6_Quote.calls k _ _ l0 t637 t638 t639 t640 t641 t642 _ ?side1 ?side2 A7.out).mono ?_); (case side1 => exact Kd.C_below HR0.out (by repeat (first | (with_reducible first | exact HB.out | apply below_alloc | apply pw_below_drewN | apply below_drew1 | refine below_set ?_ GE636.out) | exact HB.out))); (case side2 => exact HC0.out); rintro e w13 ⟨rfl, hb⟩; refine ⟨_, rfl, ?_⟩; have n0_ := Aside0.mk (blk_below (g := gb636) (o := .cells #[.int .i64 t630, .int .u32 t631, .int .i64 t632, .int .u32 t633, .int .i64 t634] 35 (0, 0)) (by (with_reducible repeat (first | refine blk_drewN ?_ _ | refine blk_drew ?_ | refine blk_alloc ?_ _)); refine blk_put (cs := #[.int .i64 t630, .int .u32 t631, .int .i64 t632, .int .u32 t633, .int .i64 0]) ?_ 4 _ rfl; (with_reducible repeat (first | refine blk_drewN ?_ _ | refine blk_drew ?_ | refine blk_alloc ?_ _)); refine blk_put (cs := #[.int .i64 t630, .int .u32 t631, .int .i64 t632, .int .u32 0, .int .i64 0]) ?_ 3 _ rfl; (with_reducible repeat (first | refine blk_drewN ?_ _ | refine blk_drew ?_ | refine blk_alloc ?_ _)); refine blk_put (cs := #[.int .i64 t630, .int .u32 t631, .int .i64 0, .int .u32 0, .int .i64 0]) ?_ 2 _ rfl; (with_reducible repeat (first | refine blk_drewN ?_ _ | refine blk_drew ?_ | refine blk_alloc ?_ _)); refine blk_put (cs := #[.int .i64 t630, .int .u32 0, .int .i64 0, .int .u32 0, .int .i64 0]) ?_ 1 _ rfl; (with_reducible repeat (first | refine blk_drewN ?_ _ | refine blk_drew ?_ | refine blk_alloc ?_ _)); refine blk_put (cs := #[.int .i64 0, .int .u32 0, .int .i64 0, .int .u32 0, .int .i64 0]) ?_ 0 _ rfl; (with_reducible repeat (first | refine blk_drewN ?_ _ | refine blk_drew ?_ | refine blk_alloc ?_ _)); exact BK636.out) hb); have n1_ := Aside0.mk (below_step (by repeat (first | (with_reducible first | exact HB.out | apply below_alloc | apply pw_below_drewN | apply below_drew1 | refine below_set ?_ GE636.out) | exact HB.out)) hb); clear BK636; clear HB; have BK636 := n0_; have HB := n1_; clear n0_ n1_; (try clear hb); (try clear hb2); (try clear hk); (try clear hi)) | ((with_reducible refine gate_dst (N := 5) rfl ?_); refine box_event ?hg (N := 5) ?hd (cs := #[.int .i64 0, .int .u32 0, .int .i64 0, .int .u32 0, .int .i64 0]) (t := 35) ?hr ?_; (case hd => rfl); (case hg => rfl); (case hr => first | (go_simp; done) | (go_simp; rfl)); intro gb643 hg w14 hbox hb; have n0_ := Aside0.mk (blk_below (g := gb636) (o := .cells #[.int .i64 t630, .int .u32 t631, .int .i64 t632, .int .u32 t633, .int .i64 t634] 35 (0, 0)) (by (with_reducible repeat (first | refine blk_drewN ?_ _ | refine blk_drew ?_ | refine blk_alloc ?_ _)); exact BK636.out) hb); have n1_ := Aside0.mk (below_step (by repeat (first | (with_reducible first | exact HB.out | apply below_alloc | apply pw_below_drewN | apply below_drew1 | refine below_set ?_ GE636.out) | exact HB.out)) hb); have n2_ := Aside0.mk (hbox); have n3_ := Aside0.mk ((by rw [hg]; exact (below_size (by repeat (first | (with_reducible first | exact HB.out | apply below_alloc | apply pw_below_drewN | apply below_drew1 | refine below_set ?_ GE636.out) | exact HB.out))) : w.heap.size ≤ gb643)); have n4_ := Aside0.mk ((by rw [hg]; exact (below_size (by repeat (first | (with_reducible first | exact HB.out | apply below_alloc | apply pw_below_drewN | apply below_drew1 | refine below_set ?_ GE636.out) | exact HB.out))) : w.heap.size ≤ gb643)); have n5_ := Aside0.mk ((by rw [hg]; exact Nat.ne_of_lt (blk_lt (g := gb636) (o := .cells #[.int .i64 t630, .int .u32 t631, .int .i64 t632, .int .u32 t633, .int .i64 t634] 35 (0, 0)) (by (with_reducible repeat (first | refine blk_drewN ?_ _ | refine blk_drew ?_ | refine blk_alloc ?_ _)); exact BK636.out)) : gb636 ≠ gb643)); have n6_ := Aside0.mk ((by rw [hg]; exact Nat.ne_of_gt (blk_lt (g := gb636) (o := .cells #[.int .i64 t630, .int .u32 t631, .int .i64 t632, .int .u32 t633, .int .i64 t634] 35 (0, 0)) (by (with_reducible repeat (first | refine blk_drewN ?_ _ | refine blk_drew ?_ | refine blk_alloc ?_ _)); exact BK636.out)) : gb643 ≠ gb636)); clear BK636; clear HB; have BK636 := n0_; have HB := n1_; have BK643 := n2_; have GW643 := n3_; have GE643 := n4_; have NB636_643 := n5_; have NB643_636 := n6_; clear n0_ n1_ n2_ n3_ n4_ n5_ n6_; clear hb hbox hg; have hnb15 := NB643_636.out; have hnc15 := NB636_643.out; have hcz16_0 : w14.cell? ⟨gb643, 0, none⟩ = some (.int .i64 0) := (blk_cell BK643.out 0).trans rfl; have hcz16_1 : w14.cell? ⟨gb643, 1, none⟩ = some (.int .u32 0) := (blk_cell BK643.out 1).trans rfl; have hcz16_2 : w14.cell? ⟨gb643, 2, none⟩ = some (.int .i64 0) := (blk_cell BK643.out 2).trans rfl; have hcz16_3 : w14.cell? ⟨gb643, 3, none⟩ = some (.int .u32 0) := (blk_cell BK643.out 3).trans rfl; have hcz16_4 : w14.cell? ⟨gb643, 4, none⟩ = some (.int .i64 0) := (blk_cell BK643.out 4).trans rfl; have hfz16_0 := blk_frozen BK643.out 0; have hfz16_1 := blk_frozen BK643.out 1; have hfz16_2 := blk_frozen BK643.out 2; have hfz16_3 := blk_frozen BK643.out 3; have hfz16_4 := blk_frozen BK643.out 4; have hcz17_0 : w14.cell? ⟨gb636, 0, none⟩ = some (.int .i64 t630) := (blk_cell BK636.out 0).trans rfl; have hcz17_1 : w14.cell? ⟨gb636, 1, none⟩ = some (.int .u32 t631) := (blk_cell BK636.out 1).trans rfl; have hcz17_2 : w14.cell? ⟨gb636, 2, none⟩ = some (.int .i64 t632) := (blk_cell BK636.out 2).trans rfl; have hcz17_3 : w14.cell? ⟨gb636, 3, none⟩ = some (.int .u32 t633) := (blk_cell BK636.out 3).trans rfl; have hcz17_4 : w14.cell? ⟨gb636, 4, none⟩ = some (.int .i64 t634) := (blk_cell BK636.out 4).trans rfl; have hfz17_0 := blk_frozen BK636.out 0; have hfz17_1 := blk_frozen BK636.out 1; have hfz17_2 := blk_frozen BK636.out 2; have hfz17_3 := blk_frozen BK636.out 3; have hfz17_4 := blk_frozen BK636.out 4))
    go_ret
    exact ⟨by first | rfl | (simp [errW_none, errW_some] <;> rfl) | (simp [*, errW_none, errW_some] <;> rfl), by repeat (first | (with_reducible first | exact HB.out | apply below_alloc | apply pw_below_drewN | apply below_drew1 | refine below_set ?_ GE636.out | refine below_set ?_ GE643.out) | exact HB.out)⟩
   ·rw [if_neg c8] at H
    have c8b0 : (t635 == t642) = false := by simpa using c8
    (try (have c8b1 : decide (t635 = t642) = false := by simpa using c8))
    (try (have c8b2 : (t635 == t642) = false := by simpa using c8))
    (try (have c8b3 : ¬ (t635 = t642) := by simpa using c8))
    clear c8
    exact absurd ((Option.some.inj H).trans hT) (by decide)
 ·replace c3 := Bool.eq_false_iff.mpr c3
  subst c3
  have H1 : (some false) = some r := by rw [if_neg (show ¬ (false = true) by decide)] at H; exact H
  clear H
  have H := H1
  clear H1
  exact absurd ((Option.some.inj H).trans hT) (by decide)
def bailiwicklaw6_FrameQuotes.Pure : Prop := ∀ (l0 : List Int), (l0.length ≤ maxLen ∧ l0.length * 1 ≤ 140737488351232 ∧ ∀ a_ ∈ l0, (Lit.int .u8 a_).wf = true) → ∃ k, bailiwicklaw6_FrameQuotes.f k l0 = some true

end Go.Proofs.Ytljnnhloinbjhaa.P
