-- Laid by a program (wip/tools/myprint.py) out of the translation. Not trusted: Lean checks it.
import Derived.Test.YtnbanjbhjjhkdaaP0
import Derived.Test.YtnbanjbhjjhkdaaPEq1
import Derived.Test.YtnbanjbhjjhkdaaPline
import Derived.Test.YtnbanjbhjjhkdaaPbailiwicklaw23
import Derived.Test.YtnbanjbhjjhkdaaPbailiwickref1
namespace Go.Proofs.Ytnbanjbhjjhkdaa.P
open Go.RowKit Go.Proofs.YtnbanjbhjjhkdaaW.PrintWords Go.Proofs.YtnbanjbhjjhkdaaW.PrintLast Go.Proofs.YtnbanjbhjjhkdaaW.PrintMore
attribute [local go_sem] max2_int min2_int max_two min_two max_three min_three max_four min_four   -- for this text's walks alone
set_option linter.unusedVariables false
set_option linter.unusedSimpArgs false

attribute [local go_sem high] eqA28
/-! ### bailiwicklaw23_LineCases: function 4 -/
mutual
def bailiwicklaw23_LineCases.l0 : Nat → List Int → List Bool → Int → Bool → List Int → Int → Int → Int → Int → Int → Int → Option (Bool)
  | 0, _, _, _, _, _, _, _, _, _, _, _ => none
  | k + 1, x0, x1, x2, x8, x9, x10, x204000, x204001, x204002, x204003, x204004 => if x10 < (x9.length : Int) then (if x10 < (x1.length : Int) then (bailiwicklaw23_LineCases.j1 k x0 x1 x2 x8 x9 x10 (decide (x10 < 4)) x204000 x204001 x204002 x204003 x204004) else (bailiwicklaw23_LineCases.j1 k x0 x1 x2 x8 x9 x10 false x204000 x204001 x204002 x204003 x204004)) else (bailiwicklaw23_LineCases.j1 k x0 x1 x2 x8 x9 x10 false x204000 x204001 x204002 x204003 x204004)
def bailiwicklaw23_LineCases.j1 : Nat → List Int → List Bool → Int → Bool → List Int → Int → Bool → Int → Int → Int → Int → Int → Option (Bool)
  | 0, _, _, _, _, _, _, _, _, _, _, _, _ => none
  | k + 1, x0, x1, x2, x8, x9, x10, x40, x204000, x204001, x204002, x204003, x204004 => if x40 = true then (if 0 ≤ x10 then (if x10 < (x1.length : Int) then (if rdOf false x1 x10 = true then (if x10 < (x9.length : Int) then (if (rd x9 x10) ≥ 97 then (if (rd x9 x10) ≤ 122 then (bailiwicklaw23_LineCases.l0 k x0 x1 x2 x8 (x9.set (x10 : Int).toNat (Go.bits .xor .u8 (rd x9 x10) 32)) (wrap64 (x10 + 1)) x204000 x204001 x204002 x204003 x204004) else (if (rd x9 x10) ≥ 65 then (if (rd x9 x10) ≤ 90 then (bailiwicklaw23_LineCases.l0 k x0 x1 x2 x8 (x9.set (x10 : Int).toNat (Go.bits .xor .u8 (rd x9 x10) 32)) (wrap64 (x10 + 1)) x204000 x204001 x204002 x204003 x204004) else (bailiwicklaw23_LineCases.l0 k x0 x1 x2 x8 x9 (wrap64 (x10 + 1)) x204000 x204001 x204002 x204003 x204004)) else (bailiwicklaw23_LineCases.l0 k x0 x1 x2 x8 x9 (wrap64 (x10 + 1)) x204000 x204001 x204002 x204003 x204004))) else (if (rd x9 x10) ≥ 65 then (if (rd x9 x10) ≤ 90 then (bailiwicklaw23_LineCases.l0 k x0 x1 x2 x8 (x9.set (x10 : Int).toNat (Go.bits .xor .u8 (rd x9 x10) 32)) (wrap64 (x10 + 1)) x204000 x204001 x204002 x204003 x204004) else (bailiwicklaw23_LineCases.l0 k x0 x1 x2 x8 x9 (wrap64 (x10 + 1)) x204000 x204001 x204002 x204003 x204004)) else (bailiwicklaw23_LineCases.l0 k x0 x1 x2 x8 x9 (wrap64 (x10 + 1)) x204000 x204001 x204002 x204003 x204004))) else (none)) else (bailiwicklaw23_LineCases.l0 k x0 x1 x2 x8 x9 (wrap64 (x10 + 1)) x204000 x204001 x204002 x204003 x204004)) else (none)) else (none)) else ((line_Find.f x9).bind fun bt220 => ((bailiwickref1_Copy.f k x0).bind fun t227 => (if t227.length < 140737488355328 then ((line_Find.f (t227 ++ [x2])).bind fun bt233 => (if (x8 == bt220.2.2.2.2.2) = true then (if (x204000 == bt220.1 && (x204001 == bt220.2.1 && (x204002 == bt220.2.2.1 && ((x204003 == bt220.2.2.2.1 && (x204004 == bt220.2.2.2.2.1)))))) = true then (if x8 = true then (some (!bt233.2.2.2.2.2)) else (some (!false))) else (some false)) else (some false))) else (none))))
end
def bailiwicklaw23_LineCases.f (k : Nat) (l0 : List Int) (l1 : List Bool) (a2 : Int) : Option (Bool) := (bailiwicklaw23_awake.f).bind fun t196 => (if t196 = true then (if (l0.length : Int) > 100000 then (some true) else ((line_Find.f l0).bind fun bt197 => ((bailiwickref1_Copy.f k l0).bind fun t204 => (bailiwicklaw23_LineCases.l0 k l0 l1 a2 bt197.2.2.2.2.2 t204 0 bt197.1 bt197.2.1 bt197.2.2.1 bt197.2.2.2.1 bt197.2.2.2.2.1)))) else (some false))
theorem bailiwicklaw23_LineCases.mono_l : ∀ k, (∀ y0 y1 y2 y3 y4 y5 y6 y7 y8 y9 y10, LeO (bailiwicklaw23_LineCases.l0 k y0 y1 y2 y3 y4 y5 y6 y7 y8 y9 y10) (bailiwicklaw23_LineCases.l0 (k + 1) y0 y1 y2 y3 y4 y5 y6 y7 y8 y9 y10)) ∧ (∀ y0 y1 y2 y3 y4 y5 y6 y7 y8 y9 y10 y11, LeO (bailiwicklaw23_LineCases.j1 k y0 y1 y2 y3 y4 y5 y6 y7 y8 y9 y10 y11) (bailiwicklaw23_LineCases.j1 (k + 1) y0 y1 y2 y3 y4 y5 y6 y7 y8 y9 y10 y11))
  | 0 => ⟨fun _ _ _ _ _ _ _ _ _ _ _ r h => by simp [bailiwicklaw23_LineCases.l0] at h, fun _ _ _ _ _ _ _ _ _ _ _ _ r h => by simp [bailiwicklaw23_LineCases.j1] at h⟩
  | k + 1 => by
    obtain ⟨ih0, ih1⟩ := bailiwicklaw23_LineCases.mono_l k
    refine ⟨?_, ?_⟩
    · intro y0 y1 y2 y3 y4 y5 y6 y7 y8 y9 y10
      unfold bailiwicklaw23_LineCases.l0
      repeat' first
      | (with_reducible exact ih0 _ _ _ _ _ _ _ _ _ _ _)
      | (with_reducible exact ih1 _ _ _ _ _ _ _ _ _ _ _ _)
      | (with_reducible exact bailiwickref1_Copy.mono _ _)
      | (with_reducible exact LeO.refl _)
      | (with_reducible exact LeO.none _)
      | (with_reducible refine LeO.ite ?_ ?_)
      | (with_reducible refine LeO.bind ?_ (fun _ => ?_))
      | exact ih0 _ _ _ _ _ _ _ _ _ _ _
      | exact ih1 _ _ _ _ _ _ _ _ _ _ _ _
      | exact bailiwickref1_Copy.mono _ _
      | exact LeO.none _
      | refine LeO.ite ?_ ?_
      | refine LeO.bind ?_ (fun _ => ?_)
    · intro y0 y1 y2 y3 y4 y5 y6 y7 y8 y9 y10 y11
      unfold bailiwicklaw23_LineCases.j1
      repeat' first
      | (with_reducible exact ih0 _ _ _ _ _ _ _ _ _ _ _)
      | (with_reducible exact ih1 _ _ _ _ _ _ _ _ _ _ _ _)
      | (with_reducible exact bailiwickref1_Copy.mono _ _)
      | (with_reducible exact LeO.refl _)
      | (with_reducible exact LeO.none _)
      | (with_reducible refine LeO.ite ?_ ?_)
      | (with_reducible refine LeO.bind ?_ (fun _ => ?_))
      | exact ih0 _ _ _ _ _ _ _ _ _ _ _
      | exact ih1 _ _ _ _ _ _ _ _ _ _ _ _
      | exact bailiwickref1_Copy.mono _ _
      | exact LeO.none _
      | refine LeO.ite ?_ ?_
      | refine LeO.bind ?_ (fun _ => ?_)
theorem bailiwicklaw23_LineCases.mono : ∀ a0 a1 a2 k, LeO (bailiwicklaw23_LineCases.f k a0 a1 a2) (bailiwicklaw23_LineCases.f (k + 1) a0 a1 a2) := by
  intro a0 a1 a2 k
  obtain ⟨ih0, ih1⟩ := bailiwicklaw23_LineCases.mono_l k
  unfold bailiwicklaw23_LineCases.f
  repeat' first
      | (with_reducible exact ih0 _ _ _ _ _ _ _ _ _ _ _)
      | (with_reducible exact ih1 _ _ _ _ _ _ _ _ _ _ _ _)
      | (with_reducible exact bailiwickref1_Copy.mono _ _)
      | (with_reducible exact LeO.refl _)
      | (with_reducible exact LeO.none _)
      | (with_reducible refine LeO.ite ?_ ?_)
      | (with_reducible refine LeO.bind ?_ (fun _ => ?_))
      | exact ih0 _ _ _ _ _ _ _ _ _ _ _
      | exact ih1 _ _ _ _ _ _ _ _ _ _ _ _
      | exact bailiwickref1_Copy.mono _ _
      | exact LeO.none _
      | refine LeO.ite ?_ ?_
      | refine LeO.bind ?_ (fun _ => ?_)
set_option maxHeartbeats 8000000 in
set_option maxRecDepth 100000 in
theorem bailiwicklaw23_LineCases.calls (k : Nat) (A0 : Option Addr) (c0 : Nat) (l0 : List Int) (A1 : Option Addr) (c1 : Nat) (l1 : List Bool) (a2 : Int) (r : Bool) (hT : r = true) (w : World) (hr0 : Kd.C (Kd.int .u8) w A0 l0.length l0) (hc0 : l0.length ≤ c0) (hr1 : Kd.C Kd.bool w A1 l1.length l1) (hc1 : l1.length ≤ c1) (h : bailiwicklaw23_LineCases.f k l0 l1 a2 = some r) :
    Calls Try.prog 4 #[.slice A0 l0.length c0, .slice A1 l1.length c1, .int .u8 a2] w fun e w' => e = .returned (.bool r) ∧ Below w.heap.size w w' := by
  have hu28 := Try.underlying28
  have HR0 := Aside0.mk hr0
  have HC0 := Aside0.mk hc0
  clear hr0 hc0
  have HR1 := Aside0.mk hr1
  have HC1 := Aside0.mk hc1
  clear hr1 hc1
  have HB := Aside0.mk (Below.refl w.heap.size w)
  have H : ((bailiwicklaw23_awake.f).bind fun t196 => (if t196 = true then (if (l0.length : Int) > 100000 then (some true) else ((line_Find.f l0).bind fun bt197 => ((bailiwickref1_Copy.f k l0).bind fun t204 => (bailiwicklaw23_LineCases.l0 k l0 l1 a2 bt197.2.2.2.2.2 t204 0 bt197.1 bt197.2.1 bt197.2.2.1 bt197.2.2.2.1 bt197.2.2.2.2.1)))) else (some false))) = some r := h
  clear h
  replace H := Option.bind_eq_some_iff.mp H
  obtain ⟨t196, A40, H⟩ := H
  replace H : (if t196 = true then (if (l0.length : Int) > 100000 then (some true) else ((line_Find.f l0).bind fun bt197 => ((bailiwickref1_Copy.f k l0).bind fun t204 => (bailiwicklaw23_LineCases.l0 k l0 l1 a2 bt197.2.2.2.2.2 t204 0 bt197.1 bt197.2.1 bt197.2.2.1 bt197.2.2.2.1 bt197.2.2.2.2.1)))) else (some false)) = some r := H
  have A4 := Aside0.mk A40
  clear A40
  by_cases c5 : t196 = true
  · subst c5
    have H1 : (if (l0.length : Int) > 100000 then (some true) else ((line_Find.f l0).bind fun bt197 => ((bailiwickref1_Copy.f k l0).bind fun t204 => (bailiwicklaw23_LineCases.l0 k l0 l1 a2 bt197.2.2.2.2.2 t204 0 bt197.1 bt197.2.1 bt197.2.2.1 bt197.2.2.2.1 bt197.2.2.2.2.1)))) = some r := by rw [if_pos rfl] at H; exact H
    clear H
    have H := H1
    clear H1
    by_cases c6 : (l0.length : Int) > 100000
    · rw [if_pos c6] at H
      have c6b0 : decide (100000 < (l0.length : Int)) = true := decide_eq_true c6
      have c6b1 : decide (100000 < l0.length) = true := decide_eq_true (by omega)
      clear c6
      obtain rfl := Option.some.inj H
      go_enter Try.func4, Try.ntmps4
      go_wp2_with (first | ((with_reducible refine gate_callee (f := 5) rfl ?_); refine goesL_ (some 15) rfl rfl Try.func5 (by kernel_rfl) rfl #[] rfl (by (try simp only [List.map_toArray, List.map_cons, List.map_nil]); first | done | rfl | (simp only [List.length_drop, List.length_take]; rfl)) ?_; (with_reducible refine (bailiwicklaw23_awake.calls  true _ A4.out).mono ?_); rintro e w7 ⟨rfl, hb⟩; refine ⟨_, rfl, ?_⟩; have n0_ := Aside0.mk (below_step (by repeat (first | (with_reducible first | exact HB.out | apply below_alloc | apply pw_below_drewN | apply below_drew1) | exact HB.out)) hb); clear HB; have HB := n0_; clear n0_; (try clear hb); (try clear hb2); (try clear hk); (try clear hi)))
      go_ret
      exact ⟨by first | rfl | (simp [errW_none, errW_some] <;> rfl) | (simp [*, errW_none, errW_some] <;> rfl), by repeat (first | (with_reducible first | exact HB.out | apply below_alloc | apply pw_below_drewN | apply below_drew1) | exact HB.out)⟩
    · rw [if_neg c6] at H
      have c6b0 : decide (100000 < (l0.length : Int)) = false := decide_eq_false c6
      have c6b1 : decide (100000 < l0.length) = false := decide_eq_false (by omega)
      clear c6
      replace H := Option.bind_eq_some_iff.mp H
      obtain ⟨⟨t197, t198, t199, t200, t201, t202⟩, A80, H⟩ := H
      replace H : ((bailiwickref1_Copy.f k l0).bind fun t204 => (bailiwicklaw23_LineCases.l0 k l0 l1 a2 t202 t204 0 t197 t198 t199 t200 t201)) = some r := H
      have A8 := Aside0.mk A80
      clear A80
      replace H := Option.bind_eq_some_iff.mp H
      obtain ⟨t204, A90, H⟩ := H
      replace H : (bailiwicklaw23_LineCases.l0 k l0 l1 a2 t202 t204 0 t197 t198 t199 t200 t201) = some r := H
      have A9 := Aside0.mk A90
      clear A90
      have H' := Aside0.mk H
      clear H
      go_enter Try.func4, Try.ntmps4
      go_wp2_with (first | ((with_reducible refine gate_callee (f := 5) rfl ?_); refine goesL_ (some 15) rfl rfl Try.func5 (by kernel_rfl) rfl #[] rfl (by (try simp only [List.map_toArray, List.map_cons, List.map_nil]); first | done | rfl | (simp only [List.length_drop, List.length_take]; rfl)) ?_; (with_reducible refine (bailiwicklaw23_awake.calls  true _ A4.out).mono ?_); rintro e w10 ⟨rfl, hb⟩; refine ⟨_, rfl, ?_⟩; have n0_ := Aside0.mk (below_step (by repeat (first | (with_reducible first | exact HB.out | apply below_alloc | apply pw_below_drewN | apply below_drew1) | exact HB.out)) hb); clear HB; have HB := n0_; clear n0_; (try clear hb); (try clear hb2); (try clear hk); (try clear hi)) | ((with_reducible refine gate_callee (f := 6) rfl ?_); refine goesL_ (some 22) rfl rfl Try.func6 (by kernel_rfl) rfl #[.slice A0 l0.length c0] rfl (by (try simp only [List.map_toArray, List.map_cons, List.map_nil]); first | done | rfl | (simp only [List.length_drop, List.length_take]; rfl)) ?_; (with_reducible refine (line_Find.calls _ _ l0 t197 t198 t199 t200 t201 t202 _ ?side1 ?side2 A8.out).mono ?_); (case side1 => repeat (first | exact (Kd.C_below HR0.out HB.out) | (with_reducible refine Kd.C_alloc ?_ _) | (with_reducible refine Kd.C_drewN ?_ _) | (with_reducible refine Kd.C_drew ?_))); (case side2 => exact HC0.out); rintro e w11 ⟨rfl, hb⟩; refine ⟨_, rfl, ?_⟩; have n0_ := Aside0.mk (below_step (by repeat (first | (with_reducible first | exact HB.out | apply below_alloc | apply pw_below_drewN | apply below_drew1) | exact HB.out)) hb); clear HB; have HB := n0_; clear n0_; (try clear hb); (try clear hb2); (try clear hk); (try clear hi)) | ((with_reducible refine gate_dst (N := 7) rfl ?_); (try (refine gate_guard (by rfl) ?_; dsimp only)); refine box_event ?hg (N := 7) ?hd (cs := #[.int .i64 0, .int .i64 0, .int .i64 0, .int .u32 0, .int .i64 0]) (t := 28) ?hr ?_; (case hd => rfl); (case hg => rfl); (case hr => first | (go_simp; done) | (go_simp; rfl)); intro gb203 hg w12 hbox hb; have n0_ := Aside0.mk (below_step (by repeat (first | (with_reducible first | exact HB.out | apply below_alloc | apply pw_below_drewN | apply below_drew1) | exact HB.out)) hb); have n1_ := Aside0.mk (hbox); have n2_ := Aside0.mk ((by rw [hg]; exact (below_size (by repeat (first | (with_reducible first | exact HB.out | apply below_alloc | apply pw_below_drewN | apply below_drew1) | exact HB.out))) : w.heap.size ≤ gb203)); have n3_ := Aside0.mk ((by rw [hg]; exact (below_size (by repeat (first | (with_reducible first | exact HB.out | apply below_alloc | apply pw_below_drewN | apply below_drew1) | exact HB.out))) : w.heap.size ≤ gb203)); clear HB; have HB := n0_; have BK203 := n1_; have GW203 := n2_; have GE203 := n3_; clear n0_ n1_ n2_ n3_; clear hb hbox hg; have hcz13_0 : w12.cell? ⟨gb203, 0, none⟩ = some (.int .i64 0) := (blk_cell BK203.out 0).trans rfl; have hcz13_1 : w12.cell? ⟨gb203, 1, none⟩ = some (.int .i64 0) := (blk_cell BK203.out 1).trans rfl; have hcz13_2 : w12.cell? ⟨gb203, 2, none⟩ = some (.int .i64 0) := (blk_cell BK203.out 2).trans rfl; have hcz13_3 : w12.cell? ⟨gb203, 3, none⟩ = some (.int .u32 0) := (blk_cell BK203.out 3).trans rfl; have hcz13_4 : w12.cell? ⟨gb203, 4, none⟩ = some (.int .i64 0) := (blk_cell BK203.out 4).trans rfl; have hfz13_0 := blk_frozen BK203.out 0; have hfz13_1 := blk_frozen BK203.out 1; have hfz13_2 := blk_frozen BK203.out 2; have hfz13_3 := blk_frozen BK203.out 3; have hfz13_4 := blk_frozen BK203.out 4) | ((with_reducible refine gate_callee (f := 9) rfl ?_); refine goesL_ (some 26) rfl rfl Try.func9 (by kernel_rfl) rfl #[.slice A0 l0.length c0] rfl (by (try simp only [List.map_toArray, List.map_cons, List.map_nil]); first | done | rfl | (simp only [List.length_drop, List.length_take]; rfl)) ?_; (with_reducible refine (bailiwickref1_Copy.calls k _ _ l0 t204 _ ?side1 ?side2 A9.out).mono ?_); (case side1 => exact Kd.C_below HR0.out (by repeat (first | (with_reducible first | exact HB.out | apply below_alloc | apply pw_below_drewN | apply below_drew1 | refine below_set ?_ GE203.out) | exact HB.out))); (case side2 => exact HC0.out); rintro e w14 ⟨v205, rfl, ho0, hb⟩; refine ⟨_, rfl, ?_⟩; have n0_ := Aside0.mk (Kd.R_lower ho0 (below_size (by repeat (first | (with_reducible first | exact HB.out | apply below_alloc | apply pw_below_drewN | apply below_drew1 | refine below_set ?_ GE203.out) | exact HB.out)))); have n1_ := Aside0.mk (blk_below (g := gb203) (o := .cells #[.int .i64 t197, .int .i64 t198, .int .i64 t199, .int .u32 t200, .int .i64 t201] 28 (0, 0)) (by (with_reducible repeat (first | refine blk_drewN ?_ _ | refine blk_drew ?_ | refine blk_alloc ?_ _)); refine blk_put (cs := #[.int .i64 t197, .int .i64 t198, .int .i64 t199, .int .u32 t200, .int .i64 0]) ?_ 4 _ rfl; (with_reducible repeat (first | refine blk_drewN ?_ _ | refine blk_drew ?_ | refine blk_alloc ?_ _)); refine blk_put (cs := #[.int .i64 t197, .int .i64 t198, .int .i64 t199, .int .u32 0, .int .i64 0]) ?_ 3 _ rfl; (with_reducible repeat (first | refine blk_drewN ?_ _ | refine blk_drew ?_ | refine blk_alloc ?_ _)); refine blk_put (cs := #[.int .i64 t197, .int .i64 t198, .int .i64 0, .int .u32 0, .int .i64 0]) ?_ 2 _ rfl; (with_reducible repeat (first | refine blk_drewN ?_ _ | refine blk_drew ?_ | refine blk_alloc ?_ _)); refine blk_put (cs := #[.int .i64 t197, .int .i64 0, .int .i64 0, .int .u32 0, .int .i64 0]) ?_ 1 _ rfl; (with_reducible repeat (first | refine blk_drewN ?_ _ | refine blk_drew ?_ | refine blk_alloc ?_ _)); refine blk_put (cs := #[.int .i64 0, .int .i64 0, .int .i64 0, .int .u32 0, .int .i64 0]) ?_ 0 _ rfl; (with_reducible repeat (first | refine blk_drewN ?_ _ | refine blk_drew ?_ | refine blk_alloc ?_ _)); exact BK203.out) hb); have n2_ := Aside0.mk (below_step (by repeat (first | (with_reducible first | exact HB.out | apply below_alloc | apply pw_below_drewN | apply below_drew1 | refine below_set ?_ GE203.out) | exact HB.out)) hb); clear BK203; clear HB; have HO206 := n0_; have BK203 := n1_; have HB := n2_; clear n0_ n1_ n2_; (try clear hb); (try clear hb2); (try clear hk); (try clear hi); (try clear ho0)))
      go_loopg [10] k (fun kq v10 w' => ∃ (x9_1 : List Int) (x10_1 : Int), v10 = .int .i64 x10_1 ∧ Aside0 (bailiwicklaw23_LineCases.l0 kq l0 l1 a2 t202 x9_1 x10_1 t197 t198 t199 t200 t201 = some r) ∧ Aside0 (kq ≤ k) ∧ Aside0 (Kd.R (Kd.int .u8) 5 w' w.heap.size (fun _ => True) v205 x9_1) ∧ Aside0 (w'.heap[gb203]? = some (.cells #[.int .i64 t197, .int .i64 t198, .int .i64 t199, .int .u32 t200, .int .i64 t201] 28 (0, 0))) ∧ Aside0 (Below w.heap.size w w'))
      case atStart => exact ⟨(t204), (0), (by first | rfl | (simp; done) | (simp [*]; done)), H', ⟨Nat.le_refl _⟩, ⟨by (with_reducible repeat (first | apply Kd.R_alloc | apply Kd.R_drewN | apply Kd.R_drew)); exact HO206.out⟩, ⟨by (with_reducible repeat (first | refine blk_drewN ?_ _ | refine blk_drew ?_ | refine blk_alloc ?_ _)); exact BK203.out⟩, ⟨by repeat (first | (with_reducible first | exact HB.out | apply below_alloc | apply pw_below_drewN | apply below_drew1 | refine below_set ?_ GE203.out) | exact HB.out)⟩⟩
      case round =>
        clear H'
        try clear c1
        try clear p2
        try clear c4
        try clear c5
        try clear c6
        try clear c6b0
        try clear c6b1
        try clear c9
        try clear hcz13_0
        try clear hcz13_1
        try clear hcz13_2
        try clear hcz13_3
        try clear hcz13_4
        try clear hfz13_0
        try clear hfz13_1
        try clear hfz13_2
        try clear hfz13_3
        try clear hfz13_4
        obtain ⟨x9_1, x10_1, rfl, HA, HK1, HO_9, BK203, HB⟩ := hrel
        cases gk with
        | zero => exact absurd HA.out (by simp [bailiwicklaw23_LineCases.l0])
        | succ k1 =>
          have H := HA.out
          clear HA
          simp only [bailiwicklaw23_LineCases.l0] at H
          have HC15 := Aside0.mk H
          clear H
          go_upto_region 8 with (fail)
          go_cut [40] (fun v40 wc => ∃ (kq : Nat) (x40_14 : Bool), v40 = .bool x40_14 ∧ Aside0 (bailiwicklaw23_LineCases.j1 kq l0 l1 a2 t202 x9_1 x10_1 x40_14 t197 t198 t199 t200 t201 = some r) ∧ Aside0 (kq ≤ k1) ∧ Aside0 (Kd.R (Kd.int .u8) 5 wc w.heap.size (fun _ => True) v205 x9_1) ∧ Aside0 (wc.heap[gb203]? = some (.cells #[.int .i64 t197, .int .i64 t198, .int .i64 t199, .int .u32 t200, .int .i64 t201] 28 (0, 0))) ∧ Aside0 (Below w.heap.size w wc))
          case first =>
            have H := HC15.out
            clear HC15
            by_cases c16 : x10_1 < (x9_1.length : Int)
            · rw [if_pos c16] at H
              have c16b0 : decide (x10_1 < (x9_1.length : Int)) = true := decide_eq_true c16
              clear c16
              (first | rw [c16b0] | (simp only [i64_w, i32_w]; rw [c16b0]) | skip)
              by_cases c17 : x10_1 < (l1.length : Int)
              · rw [if_pos c17] at H
                have c17b0 : decide (x10_1 < (l1.length : Int)) = true := decide_eq_true c17
                clear c17
                have H' := Aside0.mk H
                clear H
                obtain ⟨Ao18, co18, eo18⟩ := Kd.R_slice HO_9.out
                subst eo18
                go_wp2
                go_meet
                case rel => exact ⟨_, (decide (x10_1 < 4)), (by first | rfl | (simp; done) | (simp [*]; done)), H', ⟨by have := HK1.out; first | omega | exact Nat.le_refl _⟩, ⟨by (with_reducible repeat (first | apply Kd.R_alloc | apply Kd.R_drewN | apply Kd.R_drew)); exact HO_9.out⟩, ⟨by (with_reducible repeat (first | refine blk_drewN ?_ _ | refine blk_drew ?_ | refine blk_alloc ?_ _)); exact BK203.out⟩, ⟨by repeat (first | (with_reducible first | exact HB.out | apply below_alloc | apply pw_below_drewN | apply below_drew1 | refine below_set ?_ GE203.out) | exact HB.out)⟩⟩
              · rw [if_neg c17] at H
                have c17b0 : decide (x10_1 < (l1.length : Int)) = false := decide_eq_false c17
                clear c17
                have H' := Aside0.mk H
                clear H
                obtain ⟨Ao19, co19, eo19⟩ := Kd.R_slice HO_9.out
                subst eo19
                go_wp2
                go_meet
                case rel => exact ⟨_, (false), (by first | rfl | (simp; done) | (simp [*]; done)), H', ⟨by have := HK1.out; first | omega | exact Nat.le_refl _⟩, ⟨by (with_reducible repeat (first | apply Kd.R_alloc | apply Kd.R_drewN | apply Kd.R_drew)); exact HO_9.out⟩, ⟨by (with_reducible repeat (first | refine blk_drewN ?_ _ | refine blk_drew ?_ | refine blk_alloc ?_ _)); exact BK203.out⟩, ⟨by repeat (first | (with_reducible first | exact HB.out | apply below_alloc | apply pw_below_drewN | apply below_drew1 | refine below_set ?_ GE203.out) | exact HB.out)⟩⟩
            · rw [if_neg c16] at H
              have c16b0 : decide (x10_1 < (x9_1.length : Int)) = false := decide_eq_false c16
              clear c16
              (first | rw [c16b0] | (simp only [i64_w, i32_w]; rw [c16b0]) | skip)
              have H' := Aside0.mk H
              clear H
              obtain ⟨Ao20, co20, eo20⟩ := Kd.R_slice HO_9.out
              subst eo20
              go_wp2
              go_meet
              case rel => exact ⟨_, (false), (by first | rfl | (simp; done) | (simp [*]; done)), H', ⟨by have := HK1.out; first | omega | exact Nat.le_refl _⟩, ⟨by (with_reducible repeat (first | apply Kd.R_alloc | apply Kd.R_drewN | apply Kd.R_drew)); exact HO_9.out⟩, ⟨by (with_reducible repeat (first | refine blk_drewN ?_ _ | refine blk_drew ?_ | refine blk_alloc ?_ _)); exact BK203.out⟩, ⟨by repeat (first | (with_reducible first | exact HB.out | apply below_alloc | apply pw_below_drewN | apply below_drew1 | refine below_set ?_ GE203.out) | exact HB.out)⟩⟩
          case rest =>
            clear HC15
            try clear c1
            try clear p2
            try clear c4
            try clear c5
            try clear c6
            try clear c6b0
            try clear c6b1
            try clear c9
            try clear c16
            try clear c16b0
            try clear c17
            try clear c17b0
            try clear hcz13_0
            try clear hcz13_1
            try clear hcz13_2
            try clear hcz13_3
            try clear hcz13_4
            try clear hfz13_0
            try clear hfz13_1
            try clear hfz13_2
            try clear hfz13_3
            try clear hfz13_4
            try clear p2
            obtain ⟨kq, x40_14, rfl, HA, HJ14, HO_9, BK203, HB⟩ := hcut
            cases kq with
            | zero => exact absurd HA.out (by simp [bailiwicklaw23_LineCases.j1])
            | succ kj14 =>
              have H := HA.out
              clear HA
              simp only [bailiwicklaw23_LineCases.j1] at H
              by_cases c21 : x40_14 = true
              · subst c21
                have H1 : (if 0 ≤ x10_1 then (if x10_1 < (l1.length : Int) then (if rdOf false l1 x10_1 = true then (if x10_1 < (x9_1.length : Int) then (if (rd x9_1 x10_1) ≥ 97 then (if (rd x9_1 x10_1) ≤ 122 then (bailiwicklaw23_LineCases.l0 kj14 l0 l1 a2 t202 (x9_1.set (x10_1 : Int).toNat (Go.bits .xor .u8 (rd x9_1 x10_1) 32)) (wrap64 (x10_1 + 1)) t197 t198 t199 t200 t201) else (if (rd x9_1 x10_1) ≥ 65 then (if (rd x9_1 x10_1) ≤ 90 then (bailiwicklaw23_LineCases.l0 kj14 l0 l1 a2 t202 (x9_1.set (x10_1 : Int).toNat (Go.bits .xor .u8 (rd x9_1 x10_1) 32)) (wrap64 (x10_1 + 1)) t197 t198 t199 t200 t201) else (bailiwicklaw23_LineCases.l0 kj14 l0 l1 a2 t202 x9_1 (wrap64 (x10_1 + 1)) t197 t198 t199 t200 t201)) else (bailiwicklaw23_LineCases.l0 kj14 l0 l1 a2 t202 x9_1 (wrap64 (x10_1 + 1)) t197 t198 t199 t200 t201))) else (if (rd x9_1 x10_1) ≥ 65 then (if (rd x9_1 x10_1) ≤ 90 then (bailiwicklaw23_LineCases.l0 kj14 l0 l1 a2 t202 (x9_1.set (x10_1 : Int).toNat (Go.bits .xor .u8 (rd x9_1 x10_1) 32)) (wrap64 (x10_1 + 1)) t197 t198 t199 t200 t201) else (bailiwicklaw23_LineCases.l0 kj14 l0 l1 a2 t202 x9_1 (wrap64 (x10_1 + 1)) t197 t198 t199 t200 t201)) else (bailiwicklaw23_LineCases.l0 kj14 l0 l1 a2 t202 x9_1 (wrap64 (x10_1 + 1)) t197 t198 t199 t200 t201))) else (none)) else (bailiwicklaw23_LineCases.l0 kj14 l0 l1 a2 t202 x9_1 (wrap64 (x10_1 + 1)) t197 t198 t199 t200 t201)) else (none)) else (none)) = some r := by rw [if_pos rfl] at H; exact H
                clear H
                have H := H1
                clear H1
                by_cases c22 : 0 ≤ x10_1
                · rw [if_pos c22] at H
                  have c22b0 : decide (0 ≤ x10_1) = true := decide_eq_true c22
                  clear c22
                  by_cases c23 : x10_1 < (l1.length : Int)
                  · rw [if_pos c23] at H
                    have c23b0 : decide (x10_1 < (l1.length : Int)) = true := decide_eq_true c23
                    clear c23
                    obtain ⟨bq24, hbq24⟩ : ∃ b_ : Bool, b_ = (rdOf false l1 x10_1) := ⟨_, rfl⟩
                    replace H : (if bq24 = true then (if x10_1 < (x9_1.length : Int) then (if (rd x9_1 x10_1) ≥ 97 then (if (rd x9_1 x10_1) ≤ 122 then (bailiwicklaw23_LineCases.l0 kj14 l0 l1 a2 t202 (x9_1.set (x10_1 : Int).toNat (Go.bits .xor .u8 (rd x9_1 x10_1) 32)) (wrap64 (x10_1 + 1)) t197 t198 t199 t200 t201) else (if (rd x9_1 x10_1) ≥ 65 then (if (rd x9_1 x10_1) ≤ 90 then (bailiwicklaw23_LineCases.l0 kj14 l0 l1 a2 t202 (x9_1.set (x10_1 : Int).toNat (Go.bits .xor .u8 (rd x9_1 x10_1) 32)) (wrap64 (x10_1 + 1)) t197 t198 t199 t200 t201) else (bailiwicklaw23_LineCases.l0 kj14 l0 l1 a2 t202 x9_1 (wrap64 (x10_1 + 1)) t197 t198 t199 t200 t201)) else (bailiwicklaw23_LineCases.l0 kj14 l0 l1 a2 t202 x9_1 (wrap64 (x10_1 + 1)) t197 t198 t199 t200 t201))) else (if (rd x9_1 x10_1) ≥ 65 then (if (rd x9_1 x10_1) ≤ 90 then (bailiwicklaw23_LineCases.l0 kj14 l0 l1 a2 t202 (x9_1.set (x10_1 : Int).toNat (Go.bits .xor .u8 (rd x9_1 x10_1) 32)) (wrap64 (x10_1 + 1)) t197 t198 t199 t200 t201) else (bailiwicklaw23_LineCases.l0 kj14 l0 l1 a2 t202 x9_1 (wrap64 (x10_1 + 1)) t197 t198 t199 t200 t201)) else (bailiwicklaw23_LineCases.l0 kj14 l0 l1 a2 t202 x9_1 (wrap64 (x10_1 + 1)) t197 t198 t199 t200 t201))) else (none)) else (bailiwicklaw23_LineCases.l0 kj14 l0 l1 a2 t202 x9_1 (wrap64 (x10_1 + 1)) t197 t198 t199 t200 t201)) = some r := by rw [← hbq24] at H; exact H
                    have Nbq24 := Aside0.mk hbq24
                    clear hbq24
                    by_cases c25 : bq24 = true
                    · subst c25
                      have H1 : (if x10_1 < (x9_1.length : Int) then (if (rd x9_1 x10_1) ≥ 97 then (if (rd x9_1 x10_1) ≤ 122 then (bailiwicklaw23_LineCases.l0 kj14 l0 l1 a2 t202 (x9_1.set (x10_1 : Int).toNat (Go.bits .xor .u8 (rd x9_1 x10_1) 32)) (wrap64 (x10_1 + 1)) t197 t198 t199 t200 t201) else (if (rd x9_1 x10_1) ≥ 65 then (if (rd x9_1 x10_1) ≤ 90 then (bailiwicklaw23_LineCases.l0 kj14 l0 l1 a2 t202 (x9_1.set (x10_1 : Int).toNat (Go.bits .xor .u8 (rd x9_1 x10_1) 32)) (wrap64 (x10_1 + 1)) t197 t198 t199 t200 t201) else (bailiwicklaw23_LineCases.l0 kj14 l0 l1 a2 t202 x9_1 (wrap64 (x10_1 + 1)) t197 t198 t199 t200 t201)) else (bailiwicklaw23_LineCases.l0 kj14 l0 l1 a2 t202 x9_1 (wrap64 (x10_1 + 1)) t197 t198 t199 t200 t201))) else (if (rd x9_1 x10_1) ≥ 65 then (if (rd x9_1 x10_1) ≤ 90 then (bailiwicklaw23_LineCases.l0 kj14 l0 l1 a2 t202 (x9_1.set (x10_1 : Int).toNat (Go.bits .xor .u8 (rd x9_1 x10_1) 32)) (wrap64 (x10_1 + 1)) t197 t198 t199 t200 t201) else (bailiwicklaw23_LineCases.l0 kj14 l0 l1 a2 t202 x9_1 (wrap64 (x10_1 + 1)) t197 t198 t199 t200 t201)) else (bailiwicklaw23_LineCases.l0 kj14 l0 l1 a2 t202 x9_1 (wrap64 (x10_1 + 1)) t197 t198 t199 t200 t201))) else (none)) = some r := by rw [if_pos rfl] at H; exact H
                      clear H
                      have H := H1
                      clear H1
                      by_cases c26 : x10_1 < (x9_1.length : Int)
                      · rw [if_pos c26] at H
                        have c26b0 : decide (x10_1 < (x9_1.length : Int)) = true := decide_eq_true c26
                        clear c26
                        by_cases c27 : (rd x9_1 x10_1) ≥ 97
                        · rw [if_pos c27] at H
                          have c27b0 : decide (97 ≤ (rd x9_1 x10_1)) = true := decide_eq_true c27
                          clear c27
                          by_cases c28 : (rd x9_1 x10_1) ≤ 122
                          · rw [if_pos c28] at H
                            have c28b0 : decide ((rd x9_1 x10_1) ≤ 122) = true := decide_eq_true c28
                            clear c28
                            obtain ⟨y211, hy211⟩ : ∃ y_ : List Int, y_ = (x9_1.set (x10_1 : Int).toNat (Go.bits .xor .u8 (rd x9_1 x10_1) 32)) := ⟨_, rfl⟩
                            replace H : (bailiwicklaw23_LineCases.l0 kj14 l0 l1 a2 t202 y211 (wrap64 (x10_1 + 1)) t197 t198 t199 t200 t201) = some r := by first | (rw [hy211]; with_reducible exact H) | (have H2_ := (Option.bind_some _ _).symm.trans H; rw [hy211]; with_reducible exact H2_) | (have H2_ := (Option.bind_some _ _).symm.trans H; with_reducible exact H2_) | with_reducible exact H | (rw [hy211]; exact H) | exact H
                            have Ny211 := Aside0.mk hy211
                            clear hy211
                            have H' := Aside0.mk H
                            clear H
                            have p207 : 0 ≤ (x10_1 : Int) := of_decide_eq_true (by first | (with_reducible assumption) | assumption)
                            have q207 : x10_1 < (l1.length : Int) := of_decide_eq_true (by first | (with_reducible assumption) | assumption)
                            obtain ⟨ad207, e207, hx207_0⟩ := Kd.at_bool HR1.out x10_1 p207 q207
                            (try rw [← Nbq24.out] at hx207_0)
                            cases e207
                            replace hx207_0 := (HB.out.cell (World.block_lt_of_cell? w _ hx207_0)).trans hx207_0
                            replace p207 := eq_true p207
                            replace q207 := eq_true q207
                            obtain ⟨Ao30, co30, eo30⟩ := Kd.R_slice HO_9.out
                            subst eo30
                            have p208 : 0 ≤ (x10_1 : Int) := of_decide_eq_true (by first | (with_reducible assumption) | assumption)
                            have q208 : x10_1 < (x9_1.length : Int) := of_decide_eq_true (by first | (with_reducible assumption) | assumption)
                            obtain ⟨ad208, e208, hx208_0⟩ := Kd.at_int (Kd.R_reads' HO_9.out).2.2 x10_1 p208 q208
                            cases e208
                            replace p208 := eq_true p208
                            replace q208 := eq_true q208
                            have p209 : 0 ≤ (x10_1 : Int) := of_decide_eq_true (by first | (with_reducible assumption) | assumption)
                            have q209 : x10_1 < (x9_1.length : Int) := of_decide_eq_true (by first | (with_reducible assumption) | assumption)
                            obtain ⟨ad209, e209, hx209_0⟩ := Kd.at_int (Kd.R_reads' HO_9.out).2.2 x10_1 p209 q209
                            obtain rfl : ad208 = ad209 := (by injection e209)
                            replace p209 := eq_true p209
                            replace q209 := eq_true q209
                            have p210 : 0 ≤ (x10_1 : Int) := of_decide_eq_true (by first | (with_reducible assumption) | assumption)
                            have q210 : x10_1 < (x9_1.length : Int) := of_decide_eq_true (by first | (with_reducible assumption) | assumption)
                            obtain ⟨ad210, e210, hx210_0⟩ := Kd.at_int (Kd.R_reads' HO_9.out).2.2 x10_1 p210 q210
                            obtain rfl : ad208 = ad210 := (by injection e210)
                            replace p210 := eq_true p210
                            replace q210 := eq_true q210
                            have p29 : 0 ≤ (x10_1 : Int) := of_decide_eq_true (by first | (with_reducible assumption) | assumption)
                            have q29 : (x10_1 : Int) < ((x9_1.length : Int) : Int) := of_decide_eq_true (by first | (with_reducible assumption) | assumption)
                            obtain ⟨go29, co29, eo29, gb29, gl29, cl29, HG29⟩ := Kd.R_form HO_9.out (by omega)
                            (first | cases eo29 | (injection eo29 with ea_ en_ ec_; (first | subst ea_ | (injection ea_ with ea_; subst ea_)); subst ec_; clear en_))
                            have GB29 := Aside0.mk gb29
                            have GG29 := Aside0.mk HG29
                            clear gb29 gl29 HG29
                            (first | simp only [add_plain] at hx208_0 | skip)
                            (first | simp only [add_plain] at hx209_0 | skip)
                            (first | simp only [add_plain] at hx210_0 | skip)
                            obtain ⟨hx29_0, hf29_0⟩ := Kd.R_celln 0 HO_9.out (x10_1 : Int) p29 q29
                            replace p29 := eq_true p29
                            replace q29 := eq_true q29
                            have HP31 := Kd.R_putg HO_9.out (x10_1 : Int) (Go.bits .xor .u8 (rd x9_1 x10_1) 32)
                            go_wp2_with (first | ((with_reducible refine gate_store (t := 5) (p := 80) rfl ?_); refine store_event (t := 5) (p := 80) (v := ?vo_w32) (w1 := (wc.setCell ⟨go29, (x10_1 : Int).toNat, none⟩ (.int .u8 (Go.bits .xor .u8 (rd x9_1 x10_1) 32)))) ?hg ?ho ?hn ?hr ?_; (case ho => rfl); (case hg => rfl); (case hn => rfl); (case hr => first | (go_simp; done) | (go_simp; rfl)); intro w32 hw; have hg : wc.grownBy w32 (some go29) := (by rw [hw]; exact HP31.2); have hp_ : Kd.R (Kd.int .u8) 5 w32 w.heap.size (fun _ => True) (.slice (some ⟨go29, 0, none⟩) x9_1.length co30) y211 := (by rw [hw, Ny211.out]; exact HP31.1); clear HP31; have n0_ := Aside0.mk (hp_); have n1_ := Aside0.mk (blk_grown (g := gb203) (o := .cells #[.int .i64 t197, .int .i64 t198, .int .i64 t199, .int .u32 t200, .int .i64 t201] 28 (0, 0)) (by (with_reducible repeat (first | refine blk_drewN ?_ _ | refine blk_drew ?_ | refine blk_alloc ?_ _)); exact BK203.out) hg (Kd.R_ne HO_9.out BK203.out (by decide))); have n2_ := Aside0.mk ((by rw [hw]; exact below_set (HB.out) GB29.out : Below w.heap.size w w32)); clear HO_9; clear BK203; clear HB; have HO_9 := n0_; have BK203 := n1_; have HB := n2_; clear n0_ n1_ n2_; clear hg hw hp_))
                            go_roundg kj14
                            case measure => have := HK1.out; have := HJ14.out; omega
                            case rel => exact ⟨(y211), (wrap64 (x10_1 + 1)), (by first | rfl | (simp; done) | (simp [*]; done)), H', ⟨by have := HK1.out; have := HJ14.out; omega⟩, ⟨by (with_reducible repeat (first | apply Kd.R_alloc | apply Kd.R_drewN | apply Kd.R_drew)); exact HO_9.out⟩, ⟨by (with_reducible repeat (first | refine blk_drewN ?_ _ | refine blk_drew ?_ | refine blk_alloc ?_ _)); exact BK203.out⟩, ⟨by repeat (first | (with_reducible first | exact HB.out | apply below_alloc | apply pw_below_drewN | apply below_drew1 | refine below_set ?_ GE203.out) | exact HB.out)⟩⟩
                          · rw [if_neg c28] at H
                            have c28b0 : decide ((rd x9_1 x10_1) ≤ 122) = false := decide_eq_false c28
                            clear c28
                            by_cases c33 : (rd x9_1 x10_1) ≥ 65
                            · rw [if_pos c33] at H
                              have c33b0 : decide (65 ≤ (rd x9_1 x10_1)) = true := decide_eq_true c33
                              clear c33
                              by_cases c34 : (rd x9_1 x10_1) ≤ 90
                              · rw [if_pos c34] at H
                                have c34b0 : decide ((rd x9_1 x10_1) ≤ 90) = true := decide_eq_true c34
                                clear c34
                                obtain ⟨y215, hy215⟩ : ∃ y_ : List Int, y_ = (x9_1.set (x10_1 : Int).toNat (Go.bits .xor .u8 (rd x9_1 x10_1) 32)) := ⟨_, rfl⟩
                                replace H : (bailiwicklaw23_LineCases.l0 kj14 l0 l1 a2 t202 y215 (wrap64 (x10_1 + 1)) t197 t198 t199 t200 t201) = some r := by first | (rw [hy215]; with_reducible exact H) | (have H2_ := (Option.bind_some _ _).symm.trans H; rw [hy215]; with_reducible exact H2_) | (have H2_ := (Option.bind_some _ _).symm.trans H; with_reducible exact H2_) | with_reducible exact H | (rw [hy215]; exact H) | exact H
                                have Ny215 := Aside0.mk hy215
                                clear hy215
                                have H' := Aside0.mk H
                                clear H
                                have p207 : 0 ≤ (x10_1 : Int) := of_decide_eq_true (by first | (with_reducible assumption) | assumption)
                                have q207 : x10_1 < (l1.length : Int) := of_decide_eq_true (by first | (with_reducible assumption) | assumption)
                                obtain ⟨ad207, e207, hx207_0⟩ := Kd.at_bool HR1.out x10_1 p207 q207
                                (try rw [← Nbq24.out] at hx207_0)
                                cases e207
                                replace hx207_0 := (HB.out.cell (World.block_lt_of_cell? w _ hx207_0)).trans hx207_0
                                replace p207 := eq_true p207
                                replace q207 := eq_true q207
                                obtain ⟨Ao36, co36, eo36⟩ := Kd.R_slice HO_9.out
                                subst eo36
                                have p208 : 0 ≤ (x10_1 : Int) := of_decide_eq_true (by first | (with_reducible assumption) | assumption)
                                have q208 : x10_1 < (x9_1.length : Int) := of_decide_eq_true (by first | (with_reducible assumption) | assumption)
                                obtain ⟨ad208, e208, hx208_0⟩ := Kd.at_int (Kd.R_reads' HO_9.out).2.2 x10_1 p208 q208
                                cases e208
                                replace p208 := eq_true p208
                                replace q208 := eq_true q208
                                have p209 : 0 ≤ (x10_1 : Int) := of_decide_eq_true (by first | (with_reducible assumption) | assumption)
                                have q209 : x10_1 < (x9_1.length : Int) := of_decide_eq_true (by first | (with_reducible assumption) | assumption)
                                obtain ⟨ad209, e209, hx209_0⟩ := Kd.at_int (Kd.R_reads' HO_9.out).2.2 x10_1 p209 q209
                                obtain rfl : ad208 = ad209 := (by injection e209)
                                replace p209 := eq_true p209
                                replace q209 := eq_true q209
                                have p212 : 0 ≤ (x10_1 : Int) := of_decide_eq_true (by first | (with_reducible assumption) | assumption)
                                have q212 : x10_1 < (x9_1.length : Int) := of_decide_eq_true (by first | (with_reducible assumption) | assumption)
                                obtain ⟨ad212, e212, hx212_0⟩ := Kd.at_int (Kd.R_reads' HO_9.out).2.2 x10_1 p212 q212
                                obtain rfl : ad208 = ad212 := (by injection e212)
                                replace p212 := eq_true p212
                                replace q212 := eq_true q212
                                have p213 : 0 ≤ (x10_1 : Int) := of_decide_eq_true (by first | (with_reducible assumption) | assumption)
                                have q213 : x10_1 < (x9_1.length : Int) := of_decide_eq_true (by first | (with_reducible assumption) | assumption)
                                obtain ⟨ad213, e213, hx213_0⟩ := Kd.at_int (Kd.R_reads' HO_9.out).2.2 x10_1 p213 q213
                                obtain rfl : ad208 = ad213 := (by injection e213)
                                replace p213 := eq_true p213
                                replace q213 := eq_true q213
                                have p214 : 0 ≤ (x10_1 : Int) := of_decide_eq_true (by first | (with_reducible assumption) | assumption)
                                have q214 : x10_1 < (x9_1.length : Int) := of_decide_eq_true (by first | (with_reducible assumption) | assumption)
                                obtain ⟨ad214, e214, hx214_0⟩ := Kd.at_int (Kd.R_reads' HO_9.out).2.2 x10_1 p214 q214
                                obtain rfl : ad208 = ad214 := (by injection e214)
                                replace p214 := eq_true p214
                                replace q214 := eq_true q214
                                have p35 : 0 ≤ (x10_1 : Int) := of_decide_eq_true (by first | (with_reducible assumption) | assumption)
                                have q35 : (x10_1 : Int) < ((x9_1.length : Int) : Int) := of_decide_eq_true (by first | (with_reducible assumption) | assumption)
                                obtain ⟨go35, co35, eo35, gb35, gl35, cl35, HG35⟩ := Kd.R_form HO_9.out (by omega)
                                (first | cases eo35 | (injection eo35 with ea_ en_ ec_; (first | subst ea_ | (injection ea_ with ea_; subst ea_)); subst ec_; clear en_))
                                have GB35 := Aside0.mk gb35
                                have GG35 := Aside0.mk HG35
                                clear gb35 gl35 HG35
                                (first | simp only [add_plain] at hx208_0 | skip)
                                (first | simp only [add_plain] at hx209_0 | skip)
                                (first | simp only [add_plain] at hx212_0 | skip)
                                (first | simp only [add_plain] at hx213_0 | skip)
                                (first | simp only [add_plain] at hx214_0 | skip)
                                obtain ⟨hx35_0, hf35_0⟩ := Kd.R_celln 0 HO_9.out (x10_1 : Int) p35 q35
                                replace p35 := eq_true p35
                                replace q35 := eq_true q35
                                have HP37 := Kd.R_putg HO_9.out (x10_1 : Int) (Go.bits .xor .u8 (rd x9_1 x10_1) 32)
                                go_wp2_with (first | ((with_reducible refine gate_store (t := 5) (p := 80) rfl ?_); refine store_event (t := 5) (p := 80) (v := ?vo_w38) (w1 := (wc.setCell ⟨go35, (x10_1 : Int).toNat, none⟩ (.int .u8 (Go.bits .xor .u8 (rd x9_1 x10_1) 32)))) ?hg ?ho ?hn ?hr ?_; (case ho => rfl); (case hg => rfl); (case hn => rfl); (case hr => first | (go_simp; done) | (go_simp; rfl)); intro w38 hw; have hg : wc.grownBy w38 (some go35) := (by rw [hw]; exact HP37.2); have hp_ : Kd.R (Kd.int .u8) 5 w38 w.heap.size (fun _ => True) (.slice (some ⟨go35, 0, none⟩) x9_1.length co36) y215 := (by rw [hw, Ny215.out]; exact HP37.1); clear HP37; have n0_ := Aside0.mk (hp_); have n1_ := Aside0.mk (blk_grown (g := gb203) (o := .cells #[.int .i64 t197, .int .i64 t198, .int .i64 t199, .int .u32 t200, .int .i64 t201] 28 (0, 0)) (by (with_reducible repeat (first | refine blk_drewN ?_ _ | refine blk_drew ?_ | refine blk_alloc ?_ _)); exact BK203.out) hg (Kd.R_ne HO_9.out BK203.out (by decide))); have n2_ := Aside0.mk ((by rw [hw]; exact below_set (HB.out) GB35.out : Below w.heap.size w w38)); clear HO_9; clear BK203; clear HB; have HO_9 := n0_; have BK203 := n1_; have HB := n2_; clear n0_ n1_ n2_; clear hg hw hp_))
                                go_roundg kj14
                                case measure => have := HK1.out; have := HJ14.out; omega
                                case rel => exact ⟨(y215), (wrap64 (x10_1 + 1)), (by first | rfl | (simp; done) | (simp [*]; done)), H', ⟨by have := HK1.out; have := HJ14.out; omega⟩, ⟨by (with_reducible repeat (first | apply Kd.R_alloc | apply Kd.R_drewN | apply Kd.R_drew)); exact HO_9.out⟩, ⟨by (with_reducible repeat (first | refine blk_drewN ?_ _ | refine blk_drew ?_ | refine blk_alloc ?_ _)); exact BK203.out⟩, ⟨by repeat (first | (with_reducible first | exact HB.out | apply below_alloc | apply pw_below_drewN | apply below_drew1 | refine below_set ?_ GE203.out) | exact HB.out)⟩⟩
                              · rw [if_neg c34] at H
                                have c34b0 : decide ((rd x9_1 x10_1) ≤ 90) = false := decide_eq_false c34
                                clear c34
                                have H' := Aside0.mk H
                                clear H
                                have p207 : 0 ≤ (x10_1 : Int) := of_decide_eq_true (by first | (with_reducible assumption) | assumption)
                                have q207 : x10_1 < (l1.length : Int) := of_decide_eq_true (by first | (with_reducible assumption) | assumption)
                                obtain ⟨ad207, e207, hx207_0⟩ := Kd.at_bool HR1.out x10_1 p207 q207
                                (try rw [← Nbq24.out] at hx207_0)
                                cases e207
                                replace hx207_0 := (HB.out.cell (World.block_lt_of_cell? w _ hx207_0)).trans hx207_0
                                replace p207 := eq_true p207
                                replace q207 := eq_true q207
                                obtain ⟨Ao39, co39, eo39⟩ := Kd.R_slice HO_9.out
                                subst eo39
                                have p208 : 0 ≤ (x10_1 : Int) := of_decide_eq_true (by first | (with_reducible assumption) | assumption)
                                have q208 : x10_1 < (x9_1.length : Int) := of_decide_eq_true (by first | (with_reducible assumption) | assumption)
                                obtain ⟨ad208, e208, hx208_0⟩ := Kd.at_int (Kd.R_reads' HO_9.out).2.2 x10_1 p208 q208
                                cases e208
                                replace p208 := eq_true p208
                                replace q208 := eq_true q208
                                have p209 : 0 ≤ (x10_1 : Int) := of_decide_eq_true (by first | (with_reducible assumption) | assumption)
                                have q209 : x10_1 < (x9_1.length : Int) := of_decide_eq_true (by first | (with_reducible assumption) | assumption)
                                obtain ⟨ad209, e209, hx209_0⟩ := Kd.at_int (Kd.R_reads' HO_9.out).2.2 x10_1 p209 q209
                                obtain rfl : ad208 = ad209 := (by injection e209)
                                replace p209 := eq_true p209
                                replace q209 := eq_true q209
                                have p212 : 0 ≤ (x10_1 : Int) := of_decide_eq_true (by first | (with_reducible assumption) | assumption)
                                have q212 : x10_1 < (x9_1.length : Int) := of_decide_eq_true (by first | (with_reducible assumption) | assumption)
                                obtain ⟨ad212, e212, hx212_0⟩ := Kd.at_int (Kd.R_reads' HO_9.out).2.2 x10_1 p212 q212
                                obtain rfl : ad208 = ad212 := (by injection e212)
                                replace p212 := eq_true p212
                                replace q212 := eq_true q212
                                have p213 : 0 ≤ (x10_1 : Int) := of_decide_eq_true (by first | (with_reducible assumption) | assumption)
                                have q213 : x10_1 < (x9_1.length : Int) := of_decide_eq_true (by first | (with_reducible assumption) | assumption)
                                obtain ⟨ad213, e213, hx213_0⟩ := Kd.at_int (Kd.R_reads' HO_9.out).2.2 x10_1 p213 q213
                                obtain rfl : ad208 = ad213 := (by injection e213)
                                replace p213 := eq_true p213
                                replace q213 := eq_true q213
                                go_wp2
                                go_roundg kj14
                                case measure => have := HK1.out; have := HJ14.out; omega
                                case rel => exact ⟨(x9_1), (wrap64 (x10_1 + 1)), (by first | rfl | (simp; done) | (simp [*]; done)), H', ⟨by have := HK1.out; have := HJ14.out; omega⟩, ⟨by (with_reducible repeat (first | apply Kd.R_alloc | apply Kd.R_drewN | apply Kd.R_drew)); exact HO_9.out⟩, ⟨by (with_reducible repeat (first | refine blk_drewN ?_ _ | refine blk_drew ?_ | refine blk_alloc ?_ _)); exact BK203.out⟩, ⟨by repeat (first | (with_reducible first | exact HB.out | apply below_alloc | apply pw_below_drewN | apply below_drew1 | refine below_set ?_ GE203.out) | exact HB.out)⟩⟩
                            · rw [if_neg c33] at H
                              have c33b0 : decide (65 ≤ (rd x9_1 x10_1)) = false := decide_eq_false c33
                              clear c33
                              have H' := Aside0.mk H
                              clear H
                              have p207 : 0 ≤ (x10_1 : Int) := of_decide_eq_true (by first | (with_reducible assumption) | assumption)
                              have q207 : x10_1 < (l1.length : Int) := of_decide_eq_true (by first | (with_reducible assumption) | assumption)
                              obtain ⟨ad207, e207, hx207_0⟩ := Kd.at_bool HR1.out x10_1 p207 q207
                              (try rw [← Nbq24.out] at hx207_0)
                              cases e207
                              replace hx207_0 := (HB.out.cell (World.block_lt_of_cell? w _ hx207_0)).trans hx207_0
                              replace p207 := eq_true p207
                              replace q207 := eq_true q207
                              obtain ⟨Ao40, co40, eo40⟩ := Kd.R_slice HO_9.out
                              subst eo40
                              have p208 : 0 ≤ (x10_1 : Int) := of_decide_eq_true (by first | (with_reducible assumption) | assumption)
                              have q208 : x10_1 < (x9_1.length : Int) := of_decide_eq_true (by first | (with_reducible assumption) | assumption)
                              obtain ⟨ad208, e208, hx208_0⟩ := Kd.at_int (Kd.R_reads' HO_9.out).2.2 x10_1 p208 q208
                              cases e208
                              replace p208 := eq_true p208
                              replace q208 := eq_true q208
                              have p209 : 0 ≤ (x10_1 : Int) := of_decide_eq_true (by first | (with_reducible assumption) | assumption)
                              have q209 : x10_1 < (x9_1.length : Int) := of_decide_eq_true (by first | (with_reducible assumption) | assumption)
                              obtain ⟨ad209, e209, hx209_0⟩ := Kd.at_int (Kd.R_reads' HO_9.out).2.2 x10_1 p209 q209
                              obtain rfl : ad208 = ad209 := (by injection e209)
                              replace p209 := eq_true p209
                              replace q209 := eq_true q209
                              have p212 : 0 ≤ (x10_1 : Int) := of_decide_eq_true (by first | (with_reducible assumption) | assumption)
                              have q212 : x10_1 < (x9_1.length : Int) := of_decide_eq_true (by first | (with_reducible assumption) | assumption)
                              obtain ⟨ad212, e212, hx212_0⟩ := Kd.at_int (Kd.R_reads' HO_9.out).2.2 x10_1 p212 q212
                              obtain rfl : ad208 = ad212 := (by injection e212)
                              replace p212 := eq_true p212
                              replace q212 := eq_true q212
                              go_wp2
                              go_roundg kj14
                              case measure => have := HK1.out; have := HJ14.out; omega
                              case rel => exact ⟨(x9_1), (wrap64 (x10_1 + 1)), (by first | rfl | (simp; done) | (simp [*]; done)), H', ⟨by have := HK1.out; have := HJ14.out; omega⟩, ⟨by (with_reducible repeat (first | apply Kd.R_alloc | apply Kd.R_drewN | apply Kd.R_drew)); exact HO_9.out⟩, ⟨by (with_reducible repeat (first | refine blk_drewN ?_ _ | refine blk_drew ?_ | refine blk_alloc ?_ _)); exact BK203.out⟩, ⟨by repeat (first | (with_reducible first | exact HB.out | apply below_alloc | apply pw_below_drewN | apply below_drew1 | refine below_set ?_ GE203.out) | exact HB.out)⟩⟩
                        · rw [if_neg c27] at H
                          have c27b0 : decide (97 ≤ (rd x9_1 x10_1)) = false := decide_eq_false c27
                          clear c27
                          by_cases c41 : (rd x9_1 x10_1) ≥ 65
                          · rw [if_pos c41] at H
                            have c41b0 : decide (65 ≤ (rd x9_1 x10_1)) = true := decide_eq_true c41
                            clear c41
                            by_cases c42 : (rd x9_1 x10_1) ≤ 90
                            · rw [if_pos c42] at H
                              have c42b0 : decide ((rd x9_1 x10_1) ≤ 90) = true := decide_eq_true c42
                              clear c42
                              obtain ⟨y219, hy219⟩ : ∃ y_ : List Int, y_ = (x9_1.set (x10_1 : Int).toNat (Go.bits .xor .u8 (rd x9_1 x10_1) 32)) := ⟨_, rfl⟩
                              replace H : (bailiwicklaw23_LineCases.l0 kj14 l0 l1 a2 t202 y219 (wrap64 (x10_1 + 1)) t197 t198 t199 t200 t201) = some r := by first | (rw [hy219]; with_reducible exact H) | (have H2_ := (Option.bind_some _ _).symm.trans H; rw [hy219]; with_reducible exact H2_) | (have H2_ := (Option.bind_some _ _).symm.trans H; with_reducible exact H2_) | with_reducible exact H | (rw [hy219]; exact H) | exact H
                              have Ny219 := Aside0.mk hy219
                              clear hy219
                              have H' := Aside0.mk H
                              clear H
                              have p207 : 0 ≤ (x10_1 : Int) := of_decide_eq_true (by first | (with_reducible assumption) | assumption)
                              have q207 : x10_1 < (l1.length : Int) := of_decide_eq_true (by first | (with_reducible assumption) | assumption)
                              obtain ⟨ad207, e207, hx207_0⟩ := Kd.at_bool HR1.out x10_1 p207 q207
                              (try rw [← Nbq24.out] at hx207_0)
                              cases e207
                              replace hx207_0 := (HB.out.cell (World.block_lt_of_cell? w _ hx207_0)).trans hx207_0
                              replace p207 := eq_true p207
                              replace q207 := eq_true q207
                              obtain ⟨Ao44, co44, eo44⟩ := Kd.R_slice HO_9.out
                              subst eo44
                              have p208 : 0 ≤ (x10_1 : Int) := of_decide_eq_true (by first | (with_reducible assumption) | assumption)
                              have q208 : x10_1 < (x9_1.length : Int) := of_decide_eq_true (by first | (with_reducible assumption) | assumption)
                              obtain ⟨ad208, e208, hx208_0⟩ := Kd.at_int (Kd.R_reads' HO_9.out).2.2 x10_1 p208 q208
                              cases e208
                              replace p208 := eq_true p208
                              replace q208 := eq_true q208
                              have p216 : 0 ≤ (x10_1 : Int) := of_decide_eq_true (by first | (with_reducible assumption) | assumption)
                              have q216 : x10_1 < (x9_1.length : Int) := of_decide_eq_true (by first | (with_reducible assumption) | assumption)
                              obtain ⟨ad216, e216, hx216_0⟩ := Kd.at_int (Kd.R_reads' HO_9.out).2.2 x10_1 p216 q216
                              obtain rfl : ad208 = ad216 := (by injection e216)
                              replace p216 := eq_true p216
                              replace q216 := eq_true q216
                              have p217 : 0 ≤ (x10_1 : Int) := of_decide_eq_true (by first | (with_reducible assumption) | assumption)
                              have q217 : x10_1 < (x9_1.length : Int) := of_decide_eq_true (by first | (with_reducible assumption) | assumption)
                              obtain ⟨ad217, e217, hx217_0⟩ := Kd.at_int (Kd.R_reads' HO_9.out).2.2 x10_1 p217 q217
                              obtain rfl : ad208 = ad217 := (by injection e217)
                              replace p217 := eq_true p217
                              replace q217 := eq_true q217
                              have p218 : 0 ≤ (x10_1 : Int) := of_decide_eq_true (by first | (with_reducible assumption) | assumption)
                              have q218 : x10_1 < (x9_1.length : Int) := of_decide_eq_true (by first | (with_reducible assumption) | assumption)
                              obtain ⟨ad218, e218, hx218_0⟩ := Kd.at_int (Kd.R_reads' HO_9.out).2.2 x10_1 p218 q218
                              obtain rfl : ad208 = ad218 := (by injection e218)
                              replace p218 := eq_true p218
                              replace q218 := eq_true q218
                              have p43 : 0 ≤ (x10_1 : Int) := of_decide_eq_true (by first | (with_reducible assumption) | assumption)
                              have q43 : (x10_1 : Int) < ((x9_1.length : Int) : Int) := of_decide_eq_true (by first | (with_reducible assumption) | assumption)
                              obtain ⟨go43, co43, eo43, gb43, gl43, cl43, HG43⟩ := Kd.R_form HO_9.out (by omega)
                              (first | cases eo43 | (injection eo43 with ea_ en_ ec_; (first | subst ea_ | (injection ea_ with ea_; subst ea_)); subst ec_; clear en_))
                              have GB43 := Aside0.mk gb43
                              have GG43 := Aside0.mk HG43
                              clear gb43 gl43 HG43
                              (first | simp only [add_plain] at hx208_0 | skip)
                              (first | simp only [add_plain] at hx209_0 | skip)
                              (first | simp only [add_plain] at hx212_0 | skip)
                              (first | simp only [add_plain] at hx213_0 | skip)
                              (first | simp only [add_plain] at hx216_0 | skip)
                              (first | simp only [add_plain] at hx217_0 | skip)
                              (first | simp only [add_plain] at hx218_0 | skip)
                              obtain ⟨hx43_0, hf43_0⟩ := Kd.R_celln 0 HO_9.out (x10_1 : Int) p43 q43
                              replace p43 := eq_true p43
                              replace q43 := eq_true q43
                              have HP45 := Kd.R_putg HO_9.out (x10_1 : Int) (Go.bits .xor .u8 (rd x9_1 x10_1) 32)
                              go_wp2_with (first | ((with_reducible refine gate_store (t := 5) (p := 80) rfl ?_); refine store_event (t := 5) (p := 80) (v := ?vo_w46) (w1 := (wc.setCell ⟨go43, (x10_1 : Int).toNat, none⟩ (.int .u8 (Go.bits .xor .u8 (rd x9_1 x10_1) 32)))) ?hg ?ho ?hn ?hr ?_; (case ho => rfl); (case hg => rfl); (case hn => rfl); (case hr => first | (go_simp; done) | (go_simp; rfl)); intro w46 hw; have hg : wc.grownBy w46 (some go43) := (by rw [hw]; exact HP45.2); have hp_ : Kd.R (Kd.int .u8) 5 w46 w.heap.size (fun _ => True) (.slice (some ⟨go43, 0, none⟩) x9_1.length co44) y219 := (by rw [hw, Ny219.out]; exact HP45.1); clear HP45; have n0_ := Aside0.mk (hp_); have n1_ := Aside0.mk (blk_grown (g := gb203) (o := .cells #[.int .i64 t197, .int .i64 t198, .int .i64 t199, .int .u32 t200, .int .i64 t201] 28 (0, 0)) (by (with_reducible repeat (first | refine blk_drewN ?_ _ | refine blk_drew ?_ | refine blk_alloc ?_ _)); exact BK203.out) hg (Kd.R_ne HO_9.out BK203.out (by decide))); have n2_ := Aside0.mk ((by rw [hw]; exact below_set (HB.out) GB43.out : Below w.heap.size w w46)); clear HO_9; clear BK203; clear HB; have HO_9 := n0_; have BK203 := n1_; have HB := n2_; clear n0_ n1_ n2_; clear hg hw hp_))
                              go_roundg kj14
                              case measure => have := HK1.out; have := HJ14.out; omega
                              case rel => exact ⟨(y219), (wrap64 (x10_1 + 1)), (by first | rfl | (simp; done) | (simp [*]; done)), H', ⟨by have := HK1.out; have := HJ14.out; omega⟩, ⟨by (with_reducible repeat (first | apply Kd.R_alloc | apply Kd.R_drewN | apply Kd.R_drew)); exact HO_9.out⟩, ⟨by (with_reducible repeat (first | refine blk_drewN ?_ _ | refine blk_drew ?_ | refine blk_alloc ?_ _)); exact BK203.out⟩, ⟨by repeat (first | (with_reducible first | exact HB.out | apply below_alloc | apply pw_below_drewN | apply below_drew1 | refine below_set ?_ GE203.out) | exact HB.out)⟩⟩
                            · rw [if_neg c42] at H
                              have c42b0 : decide ((rd x9_1 x10_1) ≤ 90) = false := decide_eq_false c42
                              clear c42
                              have H' := Aside0.mk H
                              clear H
                              have p207 : 0 ≤ (x10_1 : Int) := of_decide_eq_true (by first | (with_reducible assumption) | assumption)
                              have q207 : x10_1 < (l1.length : Int) := of_decide_eq_true (by first | (with_reducible assumption) | assumption)
                              obtain ⟨ad207, e207, hx207_0⟩ := Kd.at_bool HR1.out x10_1 p207 q207
                              (try rw [← Nbq24.out] at hx207_0)
                              cases e207
                              replace hx207_0 := (HB.out.cell (World.block_lt_of_cell? w _ hx207_0)).trans hx207_0
                              replace p207 := eq_true p207
                              replace q207 := eq_true q207
                              obtain ⟨Ao47, co47, eo47⟩ := Kd.R_slice HO_9.out
                              subst eo47
                              have p208 : 0 ≤ (x10_1 : Int) := of_decide_eq_true (by first | (with_reducible assumption) | assumption)
                              have q208 : x10_1 < (x9_1.length : Int) := of_decide_eq_true (by first | (with_reducible assumption) | assumption)
                              obtain ⟨ad208, e208, hx208_0⟩ := Kd.at_int (Kd.R_reads' HO_9.out).2.2 x10_1 p208 q208
                              cases e208
                              replace p208 := eq_true p208
                              replace q208 := eq_true q208
                              have p216 : 0 ≤ (x10_1 : Int) := of_decide_eq_true (by first | (with_reducible assumption) | assumption)
                              have q216 : x10_1 < (x9_1.length : Int) := of_decide_eq_true (by first | (with_reducible assumption) | assumption)
                              obtain ⟨ad216, e216, hx216_0⟩ := Kd.at_int (Kd.R_reads' HO_9.out).2.2 x10_1 p216 q216
                              obtain rfl : ad208 = ad216 := (by injection e216)
                              replace p216 := eq_true p216
                              replace q216 := eq_true q216
                              have p217 : 0 ≤ (x10_1 : Int) := of_decide_eq_true (by first | (with_reducible assumption) | assumption)
                              have q217 : x10_1 < (x9_1.length : Int) := of_decide_eq_true (by first | (with_reducible assumption) | assumption)
                              obtain ⟨ad217, e217, hx217_0⟩ := Kd.at_int (Kd.R_reads' HO_9.out).2.2 x10_1 p217 q217
                              obtain rfl : ad208 = ad217 := (by injection e217)
                              replace p217 := eq_true p217
                              replace q217 := eq_true q217
                              go_wp2
                              go_roundg kj14
                              case measure => have := HK1.out; have := HJ14.out; omega
                              case rel => exact ⟨(x9_1), (wrap64 (x10_1 + 1)), (by first | rfl | (simp; done) | (simp [*]; done)), H', ⟨by have := HK1.out; have := HJ14.out; omega⟩, ⟨by (with_reducible repeat (first | apply Kd.R_alloc | apply Kd.R_drewN | apply Kd.R_drew)); exact HO_9.out⟩, ⟨by (with_reducible repeat (first | refine blk_drewN ?_ _ | refine blk_drew ?_ | refine blk_alloc ?_ _)); exact BK203.out⟩, ⟨by repeat (first | (with_reducible first | exact HB.out | apply below_alloc | apply pw_below_drewN | apply below_drew1 | refine below_set ?_ GE203.out) | exact HB.out)⟩⟩
                          · rw [if_neg c41] at H
                            have c41b0 : decide (65 ≤ (rd x9_1 x10_1)) = false := decide_eq_false c41
                            clear c41
                            have H' := Aside0.mk H
                            clear H
                            have p207 : 0 ≤ (x10_1 : Int) := of_decide_eq_true (by first | (with_reducible assumption) | assumption)
                            have q207 : x10_1 < (l1.length : Int) := of_decide_eq_true (by first | (with_reducible assumption) | assumption)
                            obtain ⟨ad207, e207, hx207_0⟩ := Kd.at_bool HR1.out x10_1 p207 q207
                            (try rw [← Nbq24.out] at hx207_0)
                            cases e207
                            replace hx207_0 := (HB.out.cell (World.block_lt_of_cell? w _ hx207_0)).trans hx207_0
                            replace p207 := eq_true p207
                            replace q207 := eq_true q207
                            obtain ⟨Ao48, co48, eo48⟩ := Kd.R_slice HO_9.out
                            subst eo48
                            have p208 : 0 ≤ (x10_1 : Int) := of_decide_eq_true (by first | (with_reducible assumption) | assumption)
                            have q208 : x10_1 < (x9_1.length : Int) := of_decide_eq_true (by first | (with_reducible assumption) | assumption)
                            obtain ⟨ad208, e208, hx208_0⟩ := Kd.at_int (Kd.R_reads' HO_9.out).2.2 x10_1 p208 q208
                            cases e208
                            replace p208 := eq_true p208
                            replace q208 := eq_true q208
                            have p216 : 0 ≤ (x10_1 : Int) := of_decide_eq_true (by first | (with_reducible assumption) | assumption)
                            have q216 : x10_1 < (x9_1.length : Int) := of_decide_eq_true (by first | (with_reducible assumption) | assumption)
                            obtain ⟨ad216, e216, hx216_0⟩ := Kd.at_int (Kd.R_reads' HO_9.out).2.2 x10_1 p216 q216
                            obtain rfl : ad208 = ad216 := (by injection e216)
                            replace p216 := eq_true p216
                            replace q216 := eq_true q216
                            go_wp2
                            go_roundg kj14
                            case measure => have := HK1.out; have := HJ14.out; omega
                            case rel => exact ⟨(x9_1), (wrap64 (x10_1 + 1)), (by first | rfl | (simp; done) | (simp [*]; done)), H', ⟨by have := HK1.out; have := HJ14.out; omega⟩, ⟨by (with_reducible repeat (first | apply Kd.R_alloc | apply Kd.R_drewN | apply Kd.R_drew)); exact HO_9.out⟩, ⟨by (with_reducible repeat (first | refine blk_drewN ?_ _ | refine blk_drew ?_ | refine blk_alloc ?_ _)); exact BK203.out⟩, ⟨by repeat (first | (with_reducible first | exact HB.out | apply below_alloc | apply pw_below_drewN | apply below_drew1 | refine below_set ?_ GE203.out) | exact HB.out)⟩⟩
                      · rw [if_neg c26] at H
                        exact absurd H (by simp)
                    · replace c25 := Bool.eq_false_iff.mpr c25
                      subst c25
                      have H1 : (bailiwicklaw23_LineCases.l0 kj14 l0 l1 a2 t202 x9_1 (wrap64 (x10_1 + 1)) t197 t198 t199 t200 t201) = some r := by rw [if_neg (show ¬ (false = true) by decide)] at H; exact H
                      clear H
                      have H := H1
                      clear H1
                      have H' := Aside0.mk H
                      clear H
                      have p207 : 0 ≤ (x10_1 : Int) := of_decide_eq_true (by first | (with_reducible assumption) | assumption)
                      have q207 : x10_1 < (l1.length : Int) := of_decide_eq_true (by first | (with_reducible assumption) | assumption)
                      obtain ⟨ad207, e207, hx207_0⟩ := Kd.at_bool HR1.out x10_1 p207 q207
                      (try rw [← Nbq24.out] at hx207_0)
                      cases e207
                      replace hx207_0 := (HB.out.cell (World.block_lt_of_cell? w _ hx207_0)).trans hx207_0
                      replace p207 := eq_true p207
                      replace q207 := eq_true q207
                      go_wp2
                      go_roundg kj14
                      case measure => have := HK1.out; have := HJ14.out; omega
                      case rel => exact ⟨(x9_1), (wrap64 (x10_1 + 1)), (by first | rfl | (simp; done) | (simp [*]; done)), H', ⟨by have := HK1.out; have := HJ14.out; omega⟩, ⟨by (with_reducible repeat (first | apply Kd.R_alloc | apply Kd.R_drewN | apply Kd.R_drew)); exact HO_9.out⟩, ⟨by (with_reducible repeat (first | refine blk_drewN ?_ _ | refine blk_drew ?_ | refine blk_alloc ?_ _)); exact BK203.out⟩, ⟨by repeat (first | (with_reducible first | exact HB.out | apply below_alloc | apply pw_below_drewN | apply below_drew1 | refine below_set ?_ GE203.out) | exact HB.out)⟩⟩
                  · rw [if_neg c23] at H
                    exact absurd H (by simp)
                · rw [if_neg c22] at H
                  exact absurd H (by simp)
              · replace c21 := Bool.eq_false_iff.mpr c21
                subst c21
                have H1 : ((line_Find.f x9_1).bind fun bt220 => ((bailiwickref1_Copy.f kj14 l0).bind fun t227 => (if t227.length < 140737488355328 then ((line_Find.f (t227 ++ [a2])).bind fun bt233 => (if (t202 == bt220.2.2.2.2.2) = true then (if (t197 == bt220.1 && (t198 == bt220.2.1 && (t199 == bt220.2.2.1 && ((t200 == bt220.2.2.2.1 && (t201 == bt220.2.2.2.2.1)))))) = true then (if t202 = true then (some (!bt233.2.2.2.2.2)) else (some (!false))) else (some false)) else (some false))) else (none)))) = some r := by rw [if_neg (show ¬ (false = true) by decide)] at H; exact H
                clear H
                have H := H1
                clear H1
                replace H := Option.bind_eq_some_iff.mp H
                obtain ⟨⟨t220, t221, t222, t223, t224, t225⟩, A490, H⟩ := H
                replace H : ((bailiwickref1_Copy.f kj14 l0).bind fun t227 => (if t227.length < 140737488355328 then ((line_Find.f (t227 ++ [a2])).bind fun bt233 => (if (t202 == t225) = true then (if (t197 == t220 && (t198 == t221 && (t199 == t222 && ((t200 == t223 && (t201 == t224)))))) = true then (if t202 = true then (some (!bt233.2.2.2.2.2)) else (some (!false))) else (some false)) else (some false))) else (none))) = some r := H
                have A49 := Aside0.mk A490
                clear A490
                replace H := Option.bind_eq_some_iff.mp H
                obtain ⟨t227, A500, H⟩ := H
                replace H : (if t227.length < 140737488355328 then ((line_Find.f (t227 ++ [a2])).bind fun bt233 => (if (t202 == t225) = true then (if (t197 == t220 && (t198 == t221 && (t199 == t222 && ((t200 == t223 && (t201 == t224)))))) = true then (if t202 = true then (some (!bt233.2.2.2.2.2)) else (some (!false))) else (some false)) else (some false))) else (none)) = some r := H
                have A50 := Aside0.mk A500
                clear A500
                by_cases c51 : t227.length < 140737488355328
                · rw [if_pos c51] at H
                  have LMc51 := Aside0.mk c51
                  clear c51
                  obtain ⟨y230, hy230⟩ : ∃ y_ : List Int, y_ = (t227 ++ [a2]) := ⟨_, rfl⟩
                  replace H : ((line_Find.f y230).bind fun bt233 => (if (t202 == t225) = true then (if (t197 == t220 && (t198 == t221 && (t199 == t222 && ((t200 == t223 && (t201 == t224)))))) = true then (if t202 = true then (some (!bt233.2.2.2.2.2)) else (some (!false))) else (some false)) else (some false))) = some r := by first | (rw [hy230]; with_reducible exact H) | (have H2_ := (Option.bind_some _ _).symm.trans H; rw [hy230]; with_reducible exact H2_) | (have H2_ := (Option.bind_some _ _).symm.trans H; with_reducible exact H2_) | with_reducible exact H | (rw [hy230]; exact H) | exact H
                  have Ny230 := Aside0.mk hy230
                  clear hy230
                  replace H := Option.bind_eq_some_iff.mp H
                  obtain ⟨⟨t233, t234, t235, t236, t237, t238⟩, A520, H⟩ := H
                  replace H : (if (t202 == t225) = true then (if (t197 == t220 && (t198 == t221 && (t199 == t222 && ((t200 == t223 && (t201 == t224)))))) = true then (if t202 = true then (some (!t238)) else (some (!false))) else (some false)) else (some false)) = some r := H
                  have A52 := Aside0.mk A520
                  clear A520
                  by_cases c53 : (t202 == t225) = true
                  · rw [if_pos c53] at H
                    have c53b0 : (t202 == t225) = true := c53
                    (try (have c53b1 : decide (t202 = t225) = true := by simpa using c53))
                    (try (have c53b2 : (t202 == t225) = true := by simpa using c53))
                    clear c53
                    by_cases c54 : (t197 == t220 && (t198 == t221 && (t199 == t222 && ((t200 == t223 && (t201 == t224)))))) = true
                    · rw [if_pos c54] at H
                      have c54b0 : (t197 == t220 && (t198 == t221 && (t199 == t222 && ((t200 == t223 && (t201 == t224)))))) = true := c54
                      (try (have c54b1 : decide (t197 = t220 && (t198 == t221 && (t199 == t222 && ((t200 == t223 && (t201 == t224)))))) = true := by simpa using c54))
                      (try (have c54b2 : (t197 == t220 && (t198 == t221 && (t199 == t222 && ((t200 == t223 && (t201 == t224)))))) = true := by simpa using c54))
                      clear c54
                      by_cases c55 : t202 = true
                      · subst c55
                        have H1 : (some (!t238)) = some r := by rw [if_pos rfl] at H; exact H
                        clear H
                        have H := H1
                        clear H1
                        obtain rfl := Option.some.inj H
                        obtain ⟨Ao56, co56, eo56⟩ := Kd.R_slice HO_9.out
                        subst eo56
                        go_wp2_with (first | ((with_reducible refine gate_callee (f := 6) rfl ?_); refine goesL_ (some 83) rfl rfl Try.func6 (by kernel_rfl) rfl #[.slice Ao56 x9_1.length co56] rfl (by (try simp only [List.map_toArray, List.map_cons, List.map_nil]); first | done | rfl | (simp only [List.length_drop, List.length_take]; rfl)) ?_; (with_reducible refine (line_Find.calls _ _ x9_1 t220 t221 t222 t223 t224 t225 _ ?side1 ?side2 A49.out).mono ?_); (case side1 => repeat (first | exact (Kd.R_reads' HO_9.out).2.2 | (with_reducible refine Kd.C_alloc ?_ _) | (with_reducible refine Kd.C_drewN ?_ _) | (with_reducible refine Kd.C_drew ?_))); (case side2 => exact (Kd.R_reads' HO_9.out).2.1); rintro e w57 ⟨rfl, hb⟩; refine ⟨_, rfl, ?_⟩; have n0_ := Aside0.mk (Kd.R_below (by (with_reducible repeat (first | apply Kd.R_alloc | apply Kd.R_drewN | apply Kd.R_drew)); exact HO_9.out) hb); have n1_ := Aside0.mk (blk_below (g := gb203) (o := .cells #[.int .i64 t197, .int .i64 t198, .int .i64 t199, .int .u32 t200, .int .i64 t201] 28 (0, 0)) (by (with_reducible repeat (first | refine blk_drewN ?_ _ | refine blk_drew ?_ | refine blk_alloc ?_ _)); exact BK203.out) hb); have n2_ := Aside0.mk (below_step (by repeat (first | (with_reducible first | exact HB.out | apply below_alloc | apply pw_below_drewN | apply below_drew1 | refine below_set ?_ GE203.out) | exact HB.out)) hb); clear HO_9; clear BK203; clear HB; have HO_9 := n0_; have BK203 := n1_; have HB := n2_; clear n0_ n1_ n2_; (try clear hb); (try clear hb2); (try clear hk); (try clear hi)) | ((with_reducible refine gate_dst (N := 11) rfl ?_); (try (refine gate_guard (by rfl) ?_; dsimp only)); refine box_event ?hg (N := 11) ?hd (cs := #[.int .i64 0, .int .i64 0, .int .i64 0, .int .u32 0, .int .i64 0]) (t := 28) ?hr ?_; (case hd => rfl); (case hg => rfl); (case hr => first | (go_simp; done) | (go_simp; rfl)); intro gb226 hg w58 hbox hb; have n0_ := Aside0.mk (Kd.R_below (by (with_reducible repeat (first | apply Kd.R_alloc | apply Kd.R_drewN | apply Kd.R_drew)); exact HO_9.out) hb); have n1_ := Aside0.mk (blk_below (g := gb203) (o := .cells #[.int .i64 t197, .int .i64 t198, .int .i64 t199, .int .u32 t200, .int .i64 t201] 28 (0, 0)) (by (with_reducible repeat (first | refine blk_drewN ?_ _ | refine blk_drew ?_ | refine blk_alloc ?_ _)); exact BK203.out) hb); have n2_ := Aside0.mk (below_step (by repeat (first | (with_reducible first | exact HB.out | apply below_alloc | apply pw_below_drewN | apply below_drew1 | refine below_set ?_ GE203.out) | exact HB.out)) hb); have n3_ := Aside0.mk (hbox); have n4_ := Aside0.mk ((by rw [hg]; exact (below_size (by repeat (first | (with_reducible first | exact HB.out | apply below_alloc | apply pw_below_drewN | apply below_drew1 | refine below_set ?_ GE203.out) | exact HB.out))) : w.heap.size ≤ gb226)); have n5_ := Aside0.mk ((by rw [hg]; exact (below_size (by repeat (first | (with_reducible first | exact HB.out | apply below_alloc | apply pw_below_drewN | apply below_drew1 | refine below_set ?_ GE203.out) | exact HB.out))) : w.heap.size ≤ gb226)); have n6_ := Aside0.mk ((by rw [hg]; exact Nat.ne_of_lt (blk_lt (g := gb203) (o := .cells #[.int .i64 t197, .int .i64 t198, .int .i64 t199, .int .u32 t200, .int .i64 t201] 28 (0, 0)) (by (with_reducible repeat (first | refine blk_drewN ?_ _ | refine blk_drew ?_ | refine blk_alloc ?_ _)); exact BK203.out)) : gb203 ≠ gb226)); have n7_ := Aside0.mk ((by rw [hg]; exact Nat.ne_of_gt (blk_lt (g := gb203) (o := .cells #[.int .i64 t197, .int .i64 t198, .int .i64 t199, .int .u32 t200, .int .i64 t201] 28 (0, 0)) (by (with_reducible repeat (first | refine blk_drewN ?_ _ | refine blk_drew ?_ | refine blk_alloc ?_ _)); exact BK203.out)) : gb226 ≠ gb203)); clear HO_9; clear BK203; clear HB; have HO_9 := n0_; have BK203 := n1_; have HB := n2_; have BK226 := n3_; have GW226 := n4_; have GE226 := n5_; have NB203_226 := n6_; have NB226_203 := n7_; clear n0_ n1_ n2_ n3_ n4_ n5_ n6_ n7_; clear hb hbox hg; have hnb59 := NB226_203.out; have hnc59 := NB203_226.out; have hcz60_0 : w58.cell? ⟨gb226, 0, none⟩ = some (.int .i64 0) := (blk_cell BK226.out 0).trans rfl; have hcz60_1 : w58.cell? ⟨gb226, 1, none⟩ = some (.int .i64 0) := (blk_cell BK226.out 1).trans rfl; have hcz60_2 : w58.cell? ⟨gb226, 2, none⟩ = some (.int .i64 0) := (blk_cell BK226.out 2).trans rfl; have hcz60_3 : w58.cell? ⟨gb226, 3, none⟩ = some (.int .u32 0) := (blk_cell BK226.out 3).trans rfl; have hcz60_4 : w58.cell? ⟨gb226, 4, none⟩ = some (.int .i64 0) := (blk_cell BK226.out 4).trans rfl; have hfz60_0 := blk_frozen BK226.out 0; have hfz60_1 := blk_frozen BK226.out 1; have hfz60_2 := blk_frozen BK226.out 2; have hfz60_3 := blk_frozen BK226.out 3; have hfz60_4 := blk_frozen BK226.out 4) | ((with_reducible refine gate_callee (f := 9) rfl ?_); refine goesL_ (some 88) rfl rfl Try.func9 (by kernel_rfl) rfl #[.slice A0 l0.length c0] rfl (by (try simp only [List.map_toArray, List.map_cons, List.map_nil]); first | done | rfl | (simp only [List.length_drop, List.length_take]; rfl)) ?_; (with_reducible refine (bailiwickref1_Copy.calls kj14 _ _ l0 t227 _ ?side1 ?side2 A50.out).mono ?_); (case side1 => exact Kd.C_below HR0.out (by repeat (first | (with_reducible first | exact HB.out | apply below_alloc | apply pw_below_drewN | apply below_drew1 | refine below_set ?_ GE203.out | refine below_set ?_ GE226.out) | exact HB.out))); (case side2 => exact HC0.out); rintro e w61 ⟨v228, rfl, ho0, hb⟩; refine ⟨_, rfl, ?_⟩; have n0_ := Aside0.mk (Kd.R_elder' (by (with_reducible repeat (first | apply Kd.R_alloc | apply Kd.R_drewN | apply Kd.R_drew)); exact (Kd.R_mono (Kd.R_far (p := ⟨gb226, 4, none⟩) (Kd.R_far (p := ⟨gb226, 3, none⟩) (Kd.R_far (p := ⟨gb226, 2, none⟩) (Kd.R_far (p := ⟨gb226, 1, none⟩) (Kd.R_far (p := ⟨gb226, 0, none⟩) (Kd.R_types HO_9.out BK226.out (by decide)) (fun _ hk => hk.2) (.int .i64 t220)) (fun _ hk => hk.2) (.int .i64 t221)) (fun _ hk => hk.2) (.int .i64 t222)) (fun _ hk => hk.2) (.int .u32 t223)) (fun _ hk => hk.2) (.int .i64 t224)) (fun _ h_ => h_.1))) (Kd.R_base ho0) hb); have n1_ := Aside0.mk (Kd.R_lower (Kd.R_new' ho0 (Kd.R_lt (by (with_reducible repeat (first | apply Kd.R_alloc | apply Kd.R_drewN | apply Kd.R_drew)); exact (Kd.R_mono (Kd.R_far (p := ⟨gb226, 4, none⟩) (Kd.R_far (p := ⟨gb226, 3, none⟩) (Kd.R_far (p := ⟨gb226, 2, none⟩) (Kd.R_far (p := ⟨gb226, 1, none⟩) (Kd.R_far (p := ⟨gb226, 0, none⟩) (Kd.R_types HO_9.out BK226.out (by decide)) (fun _ hk => hk.2) (.int .i64 t220)) (fun _ hk => hk.2) (.int .i64 t221)) (fun _ hk => hk.2) (.int .i64 t222)) (fun _ hk => hk.2) (.int .u32 t223)) (fun _ hk => hk.2) (.int .i64 t224)) (fun _ h_ => h_.1))))) (below_size (by repeat (first | (with_reducible first | exact HB.out | apply below_alloc | apply pw_below_drewN | apply below_drew1 | refine below_set ?_ GE203.out | refine below_set ?_ GE226.out) | exact HB.out)))); have n2_ := Aside0.mk (blk_below (g := gb203) (o := .cells #[.int .i64 t197, .int .i64 t198, .int .i64 t199, .int .u32 t200, .int .i64 t201] 28 (0, 0)) (by (with_reducible repeat (first | refine blk_drewN ?_ _ | refine blk_drew ?_ | refine blk_alloc ?_ _)); refine blk_far ?_ NB203_226.out _; (with_reducible repeat (first | refine blk_drewN ?_ _ | refine blk_drew ?_ | refine blk_alloc ?_ _)); refine blk_far ?_ NB203_226.out _; (with_reducible repeat (first | refine blk_drewN ?_ _ | refine blk_drew ?_ | refine blk_alloc ?_ _)); refine blk_far ?_ NB203_226.out _; (with_reducible repeat (first | refine blk_drewN ?_ _ | refine blk_drew ?_ | refine blk_alloc ?_ _)); refine blk_far ?_ NB203_226.out _; (with_reducible repeat (first | refine blk_drewN ?_ _ | refine blk_drew ?_ | refine blk_alloc ?_ _)); refine blk_far ?_ NB203_226.out _; (with_reducible repeat (first | refine blk_drewN ?_ _ | refine blk_drew ?_ | refine blk_alloc ?_ _)); exact BK203.out) hb); have n3_ := Aside0.mk (blk_below (g := gb226) (o := .cells #[.int .i64 t220, .int .i64 t221, .int .i64 t222, .int .u32 t223, .int .i64 t224] 28 (0, 0)) (by (with_reducible repeat (first | refine blk_drewN ?_ _ | refine blk_drew ?_ | refine blk_alloc ?_ _)); refine blk_put (cs := #[.int .i64 t220, .int .i64 t221, .int .i64 t222, .int .u32 t223, .int .i64 0]) ?_ 4 _ rfl; (with_reducible repeat (first | refine blk_drewN ?_ _ | refine blk_drew ?_ | refine blk_alloc ?_ _)); refine blk_put (cs := #[.int .i64 t220, .int .i64 t221, .int .i64 t222, .int .u32 0, .int .i64 0]) ?_ 3 _ rfl; (with_reducible repeat (first | refine blk_drewN ?_ _ | refine blk_drew ?_ | refine blk_alloc ?_ _)); refine blk_put (cs := #[.int .i64 t220, .int .i64 t221, .int .i64 0, .int .u32 0, .int .i64 0]) ?_ 2 _ rfl; (with_reducible repeat (first | refine blk_drewN ?_ _ | refine blk_drew ?_ | refine blk_alloc ?_ _)); refine blk_put (cs := #[.int .i64 t220, .int .i64 0, .int .i64 0, .int .u32 0, .int .i64 0]) ?_ 1 _ rfl; (with_reducible repeat (first | refine blk_drewN ?_ _ | refine blk_drew ?_ | refine blk_alloc ?_ _)); refine blk_put (cs := #[.int .i64 0, .int .i64 0, .int .i64 0, .int .u32 0, .int .i64 0]) ?_ 0 _ rfl; (with_reducible repeat (first | refine blk_drewN ?_ _ | refine blk_drew ?_ | refine blk_alloc ?_ _)); exact BK226.out) hb); have n4_ := Aside0.mk (below_step (by repeat (first | (with_reducible first | exact HB.out | apply below_alloc | apply pw_below_drewN | apply below_drew1 | refine below_set ?_ GE203.out | refine below_set ?_ GE226.out) | exact HB.out)) hb); clear HO_9; clear BK203; clear BK226; clear HB; have HO_9 := n0_; have HO229 := n1_; have BK203 := n2_; have BK226 := n3_; have HB := n4_; clear n0_ n1_ n2_ n3_ n4_; (try clear hb); (try clear hb2); (try clear hk); (try clear hi); (try clear ho0)) | ((with_reducible refine gate_builtin (b := .append) (xs := #[.tmp 88, .tmp 90]) rfl ?_); (try (refine gate_guard (by rfl) ?_; dsimp only)); at_builtin; refine Kd.R_append (Kd.int .u8) (w0 := w) w.heap.size rfl (.tmp 88) (.tmp 90) 22 5 (.int .u8 0) 1 rfl Try.underlying22 info5 rfl (by decide) (by omega) v228 t227 a2 [.int .u8 a2] (fun k_ => some k_ ≠ (.slice Ao56 x9_1.length co56 : Value).ownBlock) (fun _ => False) rfl rfl ?aP (fun _ hk => hk.elim) ?aF ?aO ?aB ?aS ?aL ?_; (case aP => exact rfl); (case aB => exact (by repeat (first | (with_reducible first | exact HB.out | apply below_alloc | apply pw_below_drewN | apply below_drew1 | refine below_set ?_ GE203.out | refine below_set ?_ GE226.out) | exact HB.out))); (case aF => exact (fun k_ hk => Kd.fresh' (Kd.R_lt (by (with_reducible repeat (first | apply Kd.R_alloc | apply Kd.R_drewN | apply Kd.R_drew)); exact HO_9.out)) k_ hk)); (case aO => exact (by (with_reducible repeat (first | apply Kd.R_alloc | apply Kd.R_drewN | apply Kd.R_drew)); exact Kd.R_mono HO229.out (fun _ hk => hk.2))); (case aS => exact (below_size (by repeat (first | (with_reducible first | exact HB.out | apply below_alloc | apply pw_below_drewN | apply below_drew1 | refine below_set ?_ GE203.out | refine below_set ?_ GE226.out) | exact HB.out)))); (case aL => have := LMc51.out; omega); intro v231 w62 ho hb hg hat; rw [← Ny230.out] at ho; have n0_ := Aside0.mk (Kd.R_after (ok := (fun _ => True)) (by (with_reducible repeat (first | apply Kd.R_alloc | apply Kd.R_drewN | apply Kd.R_drew)); exact HO_9.out) hg hat); have n1_ := Aside0.mk (blk_grown (g := gb203) (o := .cells #[.int .i64 t197, .int .i64 t198, .int .i64 t199, .int .u32 t200, .int .i64 t201] 28 (0, 0)) (by (with_reducible repeat (first | refine blk_drewN ?_ _ | refine blk_drew ?_ | refine blk_alloc ?_ _)); exact BK203.out) hg (Kd.R_ne HO229.out BK203.out (by decide))); have n2_ := Aside0.mk (blk_grown (g := gb226) (o := .cells #[.int .i64 t220, .int .i64 t221, .int .i64 t222, .int .u32 t223, .int .i64 t224] 28 (0, 0)) (by (with_reducible repeat (first | refine blk_drewN ?_ _ | refine blk_drew ?_ | refine blk_alloc ?_ _)); exact BK226.out) hg (Kd.R_ne HO229.out BK226.out (by decide))); have n3_ := Aside0.mk (hb); have n4_ := Aside0.mk (ho); clear HO_9; clear BK203; clear BK226; clear HB; clear HO229; have HO_9 := n0_; have BK203 := n1_; have BK226 := n2_; have HB := n3_; have HO232 := n4_; clear n0_ n1_ n2_ n3_ n4_; clear ho hb hg hat; obtain ⟨Ao63, co63, eo63⟩ := Kd.R_slice HO232.out; subst eo63) | ((with_reducible refine gate_callee (f := 6) rfl ?_); refine goesL_ (some 92) rfl rfl Try.func6 (by kernel_rfl) rfl #[.slice Ao63 y230.length co63] rfl (by (try simp only [List.map_toArray, List.map_cons, List.map_nil]); first | done | rfl | (simp only [List.length_drop, List.length_take]; rfl)) ?_; (with_reducible refine (line_Find.calls _ _ y230 t233 t234 t235 t236 t237 t238 _ ?side1 ?side2 A52.out).mono ?_); (case side1 => repeat (first | exact (Kd.R_reads' HO232.out).2.2 | (with_reducible refine Kd.C_alloc ?_ _) | (with_reducible refine Kd.C_drewN ?_ _) | (with_reducible refine Kd.C_drew ?_))); (case side2 => exact (Kd.R_reads' HO232.out).2.1); rintro e w64 ⟨rfl, hb⟩; refine ⟨_, rfl, ?_⟩; have n0_ := Aside0.mk (Kd.R_below (by (with_reducible repeat (first | apply Kd.R_alloc | apply Kd.R_drewN | apply Kd.R_drew)); exact HO_9.out) hb); have n1_ := Aside0.mk (Kd.R_below (by (with_reducible repeat (first | apply Kd.R_alloc | apply Kd.R_drewN | apply Kd.R_drew)); exact HO232.out) hb); have n2_ := Aside0.mk (blk_below (g := gb203) (o := .cells #[.int .i64 t197, .int .i64 t198, .int .i64 t199, .int .u32 t200, .int .i64 t201] 28 (0, 0)) (by (with_reducible repeat (first | refine blk_drewN ?_ _ | refine blk_drew ?_ | refine blk_alloc ?_ _)); exact BK203.out) hb); have n3_ := Aside0.mk (blk_below (g := gb226) (o := .cells #[.int .i64 t220, .int .i64 t221, .int .i64 t222, .int .u32 t223, .int .i64 t224] 28 (0, 0)) (by (with_reducible repeat (first | refine blk_drewN ?_ _ | refine blk_drew ?_ | refine blk_alloc ?_ _)); exact BK226.out) hb); have n4_ := Aside0.mk (below_step (by repeat (first | (with_reducible first | exact HB.out | apply below_alloc | apply pw_below_drewN | apply below_drew1 | refine below_set ?_ GE203.out | refine below_set ?_ GE226.out) | exact HB.out)) hb); clear HO_9; clear HO232; clear BK203; clear BK226; clear HB; have HO_9 := n0_; have HO232 := n1_; have BK203 := n2_; have BK226 := n3_; have HB := n4_; clear n0_ n1_ n2_ n3_ n4_; (try clear hb); (try clear hb2); (try clear hk); (try clear hi)) | ((with_reducible refine gate_dst (N := 13) rfl ?_); (try (refine gate_guard (by rfl) ?_; dsimp only)); refine box_event ?hg (N := 13) ?hd (cs := #[.int .i64 0, .int .i64 0, .int .i64 0, .int .u32 0, .int .i64 0]) (t := 28) ?hr ?_; (case hd => rfl); (case hg => rfl); (case hr => first | (go_simp; done) | (go_simp; rfl)); intro gb239 hg w65 hbox hb; have n0_ := Aside0.mk (Kd.R_below (by (with_reducible repeat (first | apply Kd.R_alloc | apply Kd.R_drewN | apply Kd.R_drew)); exact HO_9.out) hb); have n1_ := Aside0.mk (Kd.R_below (by (with_reducible repeat (first | apply Kd.R_alloc | apply Kd.R_drewN | apply Kd.R_drew)); exact HO232.out) hb); have n2_ := Aside0.mk (blk_below (g := gb203) (o := .cells #[.int .i64 t197, .int .i64 t198, .int .i64 t199, .int .u32 t200, .int .i64 t201] 28 (0, 0)) (by (with_reducible repeat (first | refine blk_drewN ?_ _ | refine blk_drew ?_ | refine blk_alloc ?_ _)); exact BK203.out) hb); have n3_ := Aside0.mk (blk_below (g := gb226) (o := .cells #[.int .i64 t220, .int .i64 t221, .int .i64 t222, .int .u32 t223, .int .i64 t224] 28 (0, 0)) (by (with_reducible repeat (first | refine blk_drewN ?_ _ | refine blk_drew ?_ | refine blk_alloc ?_ _)); exact BK226.out) hb); have n4_ := Aside0.mk (below_step (by repeat (first | (with_reducible first | exact HB.out | apply below_alloc | apply pw_below_drewN | apply below_drew1 | refine below_set ?_ GE203.out | refine below_set ?_ GE226.out) | exact HB.out)) hb); have n5_ := Aside0.mk (hbox); have n6_ := Aside0.mk ((by rw [hg]; exact (below_size (by repeat (first | (with_reducible first | exact HB.out | apply below_alloc | apply pw_below_drewN | apply below_drew1 | refine below_set ?_ GE203.out | refine below_set ?_ GE226.out) | exact HB.out))) : w.heap.size ≤ gb239)); have n7_ := Aside0.mk ((by rw [hg]; exact (below_size (by repeat (first | (with_reducible first | exact HB.out | apply below_alloc | apply pw_below_drewN | apply below_drew1 | refine below_set ?_ GE203.out | refine below_set ?_ GE226.out) | exact HB.out))) : w.heap.size ≤ gb239)); have n8_ := Aside0.mk ((by rw [hg]; exact Nat.ne_of_lt (blk_lt (g := gb203) (o := .cells #[.int .i64 t197, .int .i64 t198, .int .i64 t199, .int .u32 t200, .int .i64 t201] 28 (0, 0)) (by (with_reducible repeat (first | refine blk_drewN ?_ _ | refine blk_drew ?_ | refine blk_alloc ?_ _)); exact BK203.out)) : gb203 ≠ gb239)); have n9_ := Aside0.mk ((by rw [hg]; exact Nat.ne_of_gt (blk_lt (g := gb203) (o := .cells #[.int .i64 t197, .int .i64 t198, .int .i64 t199, .int .u32 t200, .int .i64 t201] 28 (0, 0)) (by (with_reducible repeat (first | refine blk_drewN ?_ _ | refine blk_drew ?_ | refine blk_alloc ?_ _)); exact BK203.out)) : gb239 ≠ gb203)); have n10_ := Aside0.mk ((by rw [hg]; exact Nat.ne_of_lt (blk_lt (g := gb226) (o := .cells #[.int .i64 t220, .int .i64 t221, .int .i64 t222, .int .u32 t223, .int .i64 t224] 28 (0, 0)) (by (with_reducible repeat (first | refine blk_drewN ?_ _ | refine blk_drew ?_ | refine blk_alloc ?_ _)); exact BK226.out)) : gb226 ≠ gb239)); have n11_ := Aside0.mk ((by rw [hg]; exact Nat.ne_of_gt (blk_lt (g := gb226) (o := .cells #[.int .i64 t220, .int .i64 t221, .int .i64 t222, .int .u32 t223, .int .i64 t224] 28 (0, 0)) (by (with_reducible repeat (first | refine blk_drewN ?_ _ | refine blk_drew ?_ | refine blk_alloc ?_ _)); exact BK226.out)) : gb239 ≠ gb226)); clear HO_9; clear HO232; clear BK203; clear BK226; clear HB; have HO_9 := n0_; have HO232 := n1_; have BK203 := n2_; have BK226 := n3_; have HB := n4_; have BK239 := n5_; have GW239 := n6_; have GE239 := n7_; have NB203_239 := n8_; have NB239_203 := n9_; have NB226_239 := n10_; have NB239_226 := n11_; clear n0_ n1_ n2_ n3_ n4_ n5_ n6_ n7_ n8_ n9_ n10_ n11_; clear hb hbox hg; have hnb66 := NB239_203.out; have hnc66 := NB203_239.out; have hnb67 := NB239_226.out; have hnc67 := NB226_239.out; have hcz68_0 : w65.cell? ⟨gb239, 0, none⟩ = some (.int .i64 0) := (blk_cell BK239.out 0).trans rfl; have hcz68_1 : w65.cell? ⟨gb239, 1, none⟩ = some (.int .i64 0) := (blk_cell BK239.out 1).trans rfl; have hcz68_2 : w65.cell? ⟨gb239, 2, none⟩ = some (.int .i64 0) := (blk_cell BK239.out 2).trans rfl; have hcz68_3 : w65.cell? ⟨gb239, 3, none⟩ = some (.int .u32 0) := (blk_cell BK239.out 3).trans rfl; have hcz68_4 : w65.cell? ⟨gb239, 4, none⟩ = some (.int .i64 0) := (blk_cell BK239.out 4).trans rfl; have hfz68_0 := blk_frozen BK239.out 0; have hfz68_1 := blk_frozen BK239.out 1; have hfz68_2 := blk_frozen BK239.out 2; have hfz68_3 := blk_frozen BK239.out 3; have hfz68_4 := blk_frozen BK239.out 4; have hcz69_0 : w65.cell? ⟨gb203, 0, none⟩ = some (.int .i64 t197) := (blk_cell BK203.out 0).trans rfl; have hcz69_1 : w65.cell? ⟨gb203, 1, none⟩ = some (.int .i64 t198) := (blk_cell BK203.out 1).trans rfl; have hcz69_2 : w65.cell? ⟨gb203, 2, none⟩ = some (.int .i64 t199) := (blk_cell BK203.out 2).trans rfl; have hcz69_3 : w65.cell? ⟨gb203, 3, none⟩ = some (.int .u32 t200) := (blk_cell BK203.out 3).trans rfl; have hcz69_4 : w65.cell? ⟨gb203, 4, none⟩ = some (.int .i64 t201) := (blk_cell BK203.out 4).trans rfl; have hfz69_0 := blk_frozen BK203.out 0; have hfz69_1 := blk_frozen BK203.out 1; have hfz69_2 := blk_frozen BK203.out 2; have hfz69_3 := blk_frozen BK203.out 3; have hfz69_4 := blk_frozen BK203.out 4; have hcz70_0 : w65.cell? ⟨gb226, 0, none⟩ = some (.int .i64 t220) := (blk_cell BK226.out 0).trans rfl; have hcz70_1 : w65.cell? ⟨gb226, 1, none⟩ = some (.int .i64 t221) := (blk_cell BK226.out 1).trans rfl; have hcz70_2 : w65.cell? ⟨gb226, 2, none⟩ = some (.int .i64 t222) := (blk_cell BK226.out 2).trans rfl; have hcz70_3 : w65.cell? ⟨gb226, 3, none⟩ = some (.int .u32 t223) := (blk_cell BK226.out 3).trans rfl; have hcz70_4 : w65.cell? ⟨gb226, 4, none⟩ = some (.int .i64 t224) := (blk_cell BK226.out 4).trans rfl; have hfz70_0 := blk_frozen BK226.out 0; have hfz70_1 := blk_frozen BK226.out 1; have hfz70_2 := blk_frozen BK226.out 2; have hfz70_3 := blk_frozen BK226.out 3; have hfz70_4 := blk_frozen BK226.out 4))
                        go_ret
                        exact ⟨by first | rfl | (simp [errW_none, errW_some] <;> rfl) | (simp [*, errW_none, errW_some] <;> rfl), by repeat (first | (with_reducible first | exact HB.out | apply below_alloc | apply pw_below_drewN | apply below_drew1 | refine below_set ?_ GE203.out | refine below_set ?_ GE226.out | refine below_set ?_ GE239.out) | exact HB.out)⟩
                      · replace c55 := Bool.eq_false_iff.mpr c55
                        subst c55
                        have H1 : (some (!false)) = some r := by rw [if_neg (show ¬ (false = true) by decide)] at H; exact H
                        clear H
                        have H := H1
                        clear H1
                        obtain rfl := Option.some.inj H
                        obtain ⟨Ao71, co71, eo71⟩ := Kd.R_slice HO_9.out
                        subst eo71
                        go_wp2_with (first | ((with_reducible refine gate_callee (f := 6) rfl ?_); refine goesL_ (some 83) rfl rfl Try.func6 (by kernel_rfl) rfl #[.slice Ao71 x9_1.length co71] rfl (by (try simp only [List.map_toArray, List.map_cons, List.map_nil]); first | done | rfl | (simp only [List.length_drop, List.length_take]; rfl)) ?_; (with_reducible refine (line_Find.calls _ _ x9_1 t220 t221 t222 t223 t224 t225 _ ?side1 ?side2 A49.out).mono ?_); (case side1 => repeat (first | exact (Kd.R_reads' HO_9.out).2.2 | (with_reducible refine Kd.C_alloc ?_ _) | (with_reducible refine Kd.C_drewN ?_ _) | (with_reducible refine Kd.C_drew ?_))); (case side2 => exact (Kd.R_reads' HO_9.out).2.1); rintro e w72 ⟨rfl, hb⟩; refine ⟨_, rfl, ?_⟩; have n0_ := Aside0.mk (Kd.R_below (by (with_reducible repeat (first | apply Kd.R_alloc | apply Kd.R_drewN | apply Kd.R_drew)); exact HO_9.out) hb); have n1_ := Aside0.mk (blk_below (g := gb203) (o := .cells #[.int .i64 t197, .int .i64 t198, .int .i64 t199, .int .u32 t200, .int .i64 t201] 28 (0, 0)) (by (with_reducible repeat (first | refine blk_drewN ?_ _ | refine blk_drew ?_ | refine blk_alloc ?_ _)); exact BK203.out) hb); have n2_ := Aside0.mk (below_step (by repeat (first | (with_reducible first | exact HB.out | apply below_alloc | apply pw_below_drewN | apply below_drew1 | refine below_set ?_ GE203.out) | exact HB.out)) hb); clear HO_9; clear BK203; clear HB; have HO_9 := n0_; have BK203 := n1_; have HB := n2_; clear n0_ n1_ n2_; (try clear hb); (try clear hb2); (try clear hk); (try clear hi)) | ((with_reducible refine gate_dst (N := 11) rfl ?_); (try (refine gate_guard (by rfl) ?_; dsimp only)); refine box_event ?hg (N := 11) ?hd (cs := #[.int .i64 0, .int .i64 0, .int .i64 0, .int .u32 0, .int .i64 0]) (t := 28) ?hr ?_; (case hd => rfl); (case hg => rfl); (case hr => first | (go_simp; done) | (go_simp; rfl)); intro gb226 hg w73 hbox hb; have n0_ := Aside0.mk (Kd.R_below (by (with_reducible repeat (first | apply Kd.R_alloc | apply Kd.R_drewN | apply Kd.R_drew)); exact HO_9.out) hb); have n1_ := Aside0.mk (blk_below (g := gb203) (o := .cells #[.int .i64 t197, .int .i64 t198, .int .i64 t199, .int .u32 t200, .int .i64 t201] 28 (0, 0)) (by (with_reducible repeat (first | refine blk_drewN ?_ _ | refine blk_drew ?_ | refine blk_alloc ?_ _)); exact BK203.out) hb); have n2_ := Aside0.mk (below_step (by repeat (first | (with_reducible first | exact HB.out | apply below_alloc | apply pw_below_drewN | apply below_drew1 | refine below_set ?_ GE203.out) | exact HB.out)) hb); have n3_ := Aside0.mk (hbox); have n4_ := Aside0.mk ((by rw [hg]; exact (below_size (by repeat (first | (with_reducible first | exact HB.out | apply below_alloc | apply pw_below_drewN | apply below_drew1 | refine below_set ?_ GE203.out) | exact HB.out))) : w.heap.size ≤ gb226)); have n5_ := Aside0.mk ((by rw [hg]; exact (below_size (by repeat (first | (with_reducible first | exact HB.out | apply below_alloc | apply pw_below_drewN | apply below_drew1 | refine below_set ?_ GE203.out) | exact HB.out))) : w.heap.size ≤ gb226)); have n6_ := Aside0.mk ((by rw [hg]; exact Nat.ne_of_lt (blk_lt (g := gb203) (o := .cells #[.int .i64 t197, .int .i64 t198, .int .i64 t199, .int .u32 t200, .int .i64 t201] 28 (0, 0)) (by (with_reducible repeat (first | refine blk_drewN ?_ _ | refine blk_drew ?_ | refine blk_alloc ?_ _)); exact BK203.out)) : gb203 ≠ gb226)); have n7_ := Aside0.mk ((by rw [hg]; exact Nat.ne_of_gt (blk_lt (g := gb203) (o := .cells #[.int .i64 t197, .int .i64 t198, .int .i64 t199, .int .u32 t200, .int .i64 t201] 28 (0, 0)) (by (with_reducible repeat (first | refine blk_drewN ?_ _ | refine blk_drew ?_ | refine blk_alloc ?_ _)); exact BK203.out)) : gb226 ≠ gb203)); clear HO_9; clear BK203; clear HB; have HO_9 := n0_; have BK203 := n1_; have HB := n2_; have BK226 := n3_; have GW226 := n4_; have GE226 := n5_; have NB203_226 := n6_; have NB226_203 := n7_; clear n0_ n1_ n2_ n3_ n4_ n5_ n6_ n7_; clear hb hbox hg; have hnb74 := NB226_203.out; have hnc74 := NB203_226.out; have hcz75_0 : w73.cell? ⟨gb226, 0, none⟩ = some (.int .i64 0) := (blk_cell BK226.out 0).trans rfl; have hcz75_1 : w73.cell? ⟨gb226, 1, none⟩ = some (.int .i64 0) := (blk_cell BK226.out 1).trans rfl; have hcz75_2 : w73.cell? ⟨gb226, 2, none⟩ = some (.int .i64 0) := (blk_cell BK226.out 2).trans rfl; have hcz75_3 : w73.cell? ⟨gb226, 3, none⟩ = some (.int .u32 0) := (blk_cell BK226.out 3).trans rfl; have hcz75_4 : w73.cell? ⟨gb226, 4, none⟩ = some (.int .i64 0) := (blk_cell BK226.out 4).trans rfl; have hfz75_0 := blk_frozen BK226.out 0; have hfz75_1 := blk_frozen BK226.out 1; have hfz75_2 := blk_frozen BK226.out 2; have hfz75_3 := blk_frozen BK226.out 3; have hfz75_4 := blk_frozen BK226.out 4) | ((with_reducible refine gate_callee (f := 9) rfl ?_); refine goesL_ (some 88) rfl rfl Try.func9 (by kernel_rfl) rfl #[.slice A0 l0.length c0] rfl (by (try simp only [List.map_toArray, List.map_cons, List.map_nil]); first | done | rfl | (simp only [List.length_drop, List.length_take]; rfl)) ?_; (with_reducible refine (bailiwickref1_Copy.calls kj14 _ _ l0 t227 _ ?side1 ?side2 A50.out).mono ?_); (case side1 => exact Kd.C_below HR0.out (by repeat (first | (with_reducible first | exact HB.out | apply below_alloc | apply pw_below_drewN | apply below_drew1 | refine below_set ?_ GE203.out | refine below_set ?_ GE226.out) | exact HB.out))); (case side2 => exact HC0.out); rintro e w76 ⟨v228, rfl, ho0, hb⟩; refine ⟨_, rfl, ?_⟩; have n0_ := Aside0.mk (Kd.R_elder' (by (with_reducible repeat (first | apply Kd.R_alloc | apply Kd.R_drewN | apply Kd.R_drew)); exact (Kd.R_mono (Kd.R_far (p := ⟨gb226, 4, none⟩) (Kd.R_far (p := ⟨gb226, 3, none⟩) (Kd.R_far (p := ⟨gb226, 2, none⟩) (Kd.R_far (p := ⟨gb226, 1, none⟩) (Kd.R_far (p := ⟨gb226, 0, none⟩) (Kd.R_types HO_9.out BK226.out (by decide)) (fun _ hk => hk.2) (.int .i64 t220)) (fun _ hk => hk.2) (.int .i64 t221)) (fun _ hk => hk.2) (.int .i64 t222)) (fun _ hk => hk.2) (.int .u32 t223)) (fun _ hk => hk.2) (.int .i64 t224)) (fun _ h_ => h_.1))) (Kd.R_base ho0) hb); have n1_ := Aside0.mk (Kd.R_lower (Kd.R_new' ho0 (Kd.R_lt (by (with_reducible repeat (first | apply Kd.R_alloc | apply Kd.R_drewN | apply Kd.R_drew)); exact (Kd.R_mono (Kd.R_far (p := ⟨gb226, 4, none⟩) (Kd.R_far (p := ⟨gb226, 3, none⟩) (Kd.R_far (p := ⟨gb226, 2, none⟩) (Kd.R_far (p := ⟨gb226, 1, none⟩) (Kd.R_far (p := ⟨gb226, 0, none⟩) (Kd.R_types HO_9.out BK226.out (by decide)) (fun _ hk => hk.2) (.int .i64 t220)) (fun _ hk => hk.2) (.int .i64 t221)) (fun _ hk => hk.2) (.int .i64 t222)) (fun _ hk => hk.2) (.int .u32 t223)) (fun _ hk => hk.2) (.int .i64 t224)) (fun _ h_ => h_.1))))) (below_size (by repeat (first | (with_reducible first | exact HB.out | apply below_alloc | apply pw_below_drewN | apply below_drew1 | refine below_set ?_ GE203.out | refine below_set ?_ GE226.out) | exact HB.out)))); have n2_ := Aside0.mk (blk_below (g := gb203) (o := .cells #[.int .i64 t197, .int .i64 t198, .int .i64 t199, .int .u32 t200, .int .i64 t201] 28 (0, 0)) (by (with_reducible repeat (first | refine blk_drewN ?_ _ | refine blk_drew ?_ | refine blk_alloc ?_ _)); refine blk_far ?_ NB203_226.out _; (with_reducible repeat (first | refine blk_drewN ?_ _ | refine blk_drew ?_ | refine blk_alloc ?_ _)); refine blk_far ?_ NB203_226.out _; (with_reducible repeat (first | refine blk_drewN ?_ _ | refine blk_drew ?_ | refine blk_alloc ?_ _)); refine blk_far ?_ NB203_226.out _; (with_reducible repeat (first | refine blk_drewN ?_ _ | refine blk_drew ?_ | refine blk_alloc ?_ _)); refine blk_far ?_ NB203_226.out _; (with_reducible repeat (first | refine blk_drewN ?_ _ | refine blk_drew ?_ | refine blk_alloc ?_ _)); refine blk_far ?_ NB203_226.out _; (with_reducible repeat (first | refine blk_drewN ?_ _ | refine blk_drew ?_ | refine blk_alloc ?_ _)); exact BK203.out) hb); have n3_ := Aside0.mk (blk_below (g := gb226) (o := .cells #[.int .i64 t220, .int .i64 t221, .int .i64 t222, .int .u32 t223, .int .i64 t224] 28 (0, 0)) (by (with_reducible repeat (first | refine blk_drewN ?_ _ | refine blk_drew ?_ | refine blk_alloc ?_ _)); refine blk_put (cs := #[.int .i64 t220, .int .i64 t221, .int .i64 t222, .int .u32 t223, .int .i64 0]) ?_ 4 _ rfl; (with_reducible repeat (first | refine blk_drewN ?_ _ | refine blk_drew ?_ | refine blk_alloc ?_ _)); refine blk_put (cs := #[.int .i64 t220, .int .i64 t221, .int .i64 t222, .int .u32 0, .int .i64 0]) ?_ 3 _ rfl; (with_reducible repeat (first | refine blk_drewN ?_ _ | refine blk_drew ?_ | refine blk_alloc ?_ _)); refine blk_put (cs := #[.int .i64 t220, .int .i64 t221, .int .i64 0, .int .u32 0, .int .i64 0]) ?_ 2 _ rfl; (with_reducible repeat (first | refine blk_drewN ?_ _ | refine blk_drew ?_ | refine blk_alloc ?_ _)); refine blk_put (cs := #[.int .i64 t220, .int .i64 0, .int .i64 0, .int .u32 0, .int .i64 0]) ?_ 1 _ rfl; (with_reducible repeat (first | refine blk_drewN ?_ _ | refine blk_drew ?_ | refine blk_alloc ?_ _)); refine blk_put (cs := #[.int .i64 0, .int .i64 0, .int .i64 0, .int .u32 0, .int .i64 0]) ?_ 0 _ rfl; (with_reducible repeat (first | refine blk_drewN ?_ _ | refine blk_drew ?_ | refine blk_alloc ?_ _)); exact BK226.out) hb); have n4_ := Aside0.mk (below_step (by repeat (first | (with_reducible first | exact HB.out | apply below_alloc | apply pw_below_drewN | apply below_drew1 | refine below_set ?_ GE203.out | refine below_set ?_ GE226.out) | exact HB.out)) hb); clear HO_9; clear BK203; clear BK226; clear HB; have HO_9 := n0_; have HO229 := n1_; have BK203 := n2_; have BK226 := n3_; have HB := n4_; clear n0_ n1_ n2_ n3_ n4_; (try clear hb); (try clear hb2); (try clear hk); (try clear hi); (try clear ho0)) | ((with_reducible refine gate_builtin (b := .append) (xs := #[.tmp 88, .tmp 90]) rfl ?_); (try (refine gate_guard (by rfl) ?_; dsimp only)); at_builtin; refine Kd.R_append (Kd.int .u8) (w0 := w) w.heap.size rfl (.tmp 88) (.tmp 90) 22 5 (.int .u8 0) 1 rfl Try.underlying22 info5 rfl (by decide) (by omega) v228 t227 a2 [.int .u8 a2] (fun k_ => some k_ ≠ (.slice Ao71 x9_1.length co71 : Value).ownBlock) (fun _ => False) rfl rfl ?aP (fun _ hk => hk.elim) ?aF ?aO ?aB ?aS ?aL ?_; (case aP => exact rfl); (case aB => exact (by repeat (first | (with_reducible first | exact HB.out | apply below_alloc | apply pw_below_drewN | apply below_drew1 | refine below_set ?_ GE203.out | refine below_set ?_ GE226.out) | exact HB.out))); (case aF => exact (fun k_ hk => Kd.fresh' (Kd.R_lt (by (with_reducible repeat (first | apply Kd.R_alloc | apply Kd.R_drewN | apply Kd.R_drew)); exact HO_9.out)) k_ hk)); (case aO => exact (by (with_reducible repeat (first | apply Kd.R_alloc | apply Kd.R_drewN | apply Kd.R_drew)); exact Kd.R_mono HO229.out (fun _ hk => hk.2))); (case aS => exact (below_size (by repeat (first | (with_reducible first | exact HB.out | apply below_alloc | apply pw_below_drewN | apply below_drew1 | refine below_set ?_ GE203.out | refine below_set ?_ GE226.out) | exact HB.out)))); (case aL => have := LMc51.out; omega); intro v231 w77 ho hb hg hat; rw [← Ny230.out] at ho; have n0_ := Aside0.mk (Kd.R_after (ok := (fun _ => True)) (by (with_reducible repeat (first | apply Kd.R_alloc | apply Kd.R_drewN | apply Kd.R_drew)); exact HO_9.out) hg hat); have n1_ := Aside0.mk (blk_grown (g := gb203) (o := .cells #[.int .i64 t197, .int .i64 t198, .int .i64 t199, .int .u32 t200, .int .i64 t201] 28 (0, 0)) (by (with_reducible repeat (first | refine blk_drewN ?_ _ | refine blk_drew ?_ | refine blk_alloc ?_ _)); exact BK203.out) hg (Kd.R_ne HO229.out BK203.out (by decide))); have n2_ := Aside0.mk (blk_grown (g := gb226) (o := .cells #[.int .i64 t220, .int .i64 t221, .int .i64 t222, .int .u32 t223, .int .i64 t224] 28 (0, 0)) (by (with_reducible repeat (first | refine blk_drewN ?_ _ | refine blk_drew ?_ | refine blk_alloc ?_ _)); exact BK226.out) hg (Kd.R_ne HO229.out BK226.out (by decide))); have n3_ := Aside0.mk (hb); have n4_ := Aside0.mk (ho); clear HO_9; clear BK203; clear BK226; clear HB; clear HO229; have HO_9 := n0_; have BK203 := n1_; have BK226 := n2_; have HB := n3_; have HO232 := n4_; clear n0_ n1_ n2_ n3_ n4_; clear ho hb hg hat; obtain ⟨Ao78, co78, eo78⟩ := Kd.R_slice HO232.out; subst eo78) | ((with_reducible refine gate_callee (f := 6) rfl ?_); refine goesL_ (some 92) rfl rfl Try.func6 (by kernel_rfl) rfl #[.slice Ao78 y230.length co78] rfl (by (try simp only [List.map_toArray, List.map_cons, List.map_nil]); first | done | rfl | (simp only [List.length_drop, List.length_take]; rfl)) ?_; (with_reducible refine (line_Find.calls _ _ y230 t233 t234 t235 t236 t237 t238 _ ?side1 ?side2 A52.out).mono ?_); (case side1 => repeat (first | exact (Kd.R_reads' HO232.out).2.2 | (with_reducible refine Kd.C_alloc ?_ _) | (with_reducible refine Kd.C_drewN ?_ _) | (with_reducible refine Kd.C_drew ?_))); (case side2 => exact (Kd.R_reads' HO232.out).2.1); rintro e w79 ⟨rfl, hb⟩; refine ⟨_, rfl, ?_⟩; have n0_ := Aside0.mk (Kd.R_below (by (with_reducible repeat (first | apply Kd.R_alloc | apply Kd.R_drewN | apply Kd.R_drew)); exact HO_9.out) hb); have n1_ := Aside0.mk (Kd.R_below (by (with_reducible repeat (first | apply Kd.R_alloc | apply Kd.R_drewN | apply Kd.R_drew)); exact HO232.out) hb); have n2_ := Aside0.mk (blk_below (g := gb203) (o := .cells #[.int .i64 t197, .int .i64 t198, .int .i64 t199, .int .u32 t200, .int .i64 t201] 28 (0, 0)) (by (with_reducible repeat (first | refine blk_drewN ?_ _ | refine blk_drew ?_ | refine blk_alloc ?_ _)); exact BK203.out) hb); have n3_ := Aside0.mk (blk_below (g := gb226) (o := .cells #[.int .i64 t220, .int .i64 t221, .int .i64 t222, .int .u32 t223, .int .i64 t224] 28 (0, 0)) (by (with_reducible repeat (first | refine blk_drewN ?_ _ | refine blk_drew ?_ | refine blk_alloc ?_ _)); exact BK226.out) hb); have n4_ := Aside0.mk (below_step (by repeat (first | (with_reducible first | exact HB.out | apply below_alloc | apply pw_below_drewN | apply below_drew1 | refine below_set ?_ GE203.out | refine below_set ?_ GE226.out) | exact HB.out)) hb); clear HO_9; clear HO232; clear BK203; clear BK226; clear HB; have HO_9 := n0_; have HO232 := n1_; have BK203 := n2_; have BK226 := n3_; have HB := n4_; clear n0_ n1_ n2_ n3_ n4_; (try clear hb); (try clear hb2); (try clear hk); (try clear hi)) | ((with_reducible refine gate_dst (N := 13) rfl ?_); (try (refine gate_guard (by rfl) ?_; dsimp only)); refine box_event ?hg (N := 13) ?hd (cs := #[.int .i64 0, .int .i64 0, .int .i64 0, .int .u32 0, .int .i64 0]) (t := 28) ?hr ?_; (case hd => rfl); (case hg => rfl); (case hr => first | (go_simp; done) | (go_simp; rfl)); intro gb239 hg w80 hbox hb; have n0_ := Aside0.mk (Kd.R_below (by (with_reducible repeat (first | apply Kd.R_alloc | apply Kd.R_drewN | apply Kd.R_drew)); exact HO_9.out) hb); have n1_ := Aside0.mk (Kd.R_below (by (with_reducible repeat (first | apply Kd.R_alloc | apply Kd.R_drewN | apply Kd.R_drew)); exact HO232.out) hb); have n2_ := Aside0.mk (blk_below (g := gb203) (o := .cells #[.int .i64 t197, .int .i64 t198, .int .i64 t199, .int .u32 t200, .int .i64 t201] 28 (0, 0)) (by (with_reducible repeat (first | refine blk_drewN ?_ _ | refine blk_drew ?_ | refine blk_alloc ?_ _)); exact BK203.out) hb); have n3_ := Aside0.mk (blk_below (g := gb226) (o := .cells #[.int .i64 t220, .int .i64 t221, .int .i64 t222, .int .u32 t223, .int .i64 t224] 28 (0, 0)) (by (with_reducible repeat (first | refine blk_drewN ?_ _ | refine blk_drew ?_ | refine blk_alloc ?_ _)); exact BK226.out) hb); have n4_ := Aside0.mk (below_step (by repeat (first | (with_reducible first | exact HB.out | apply below_alloc | apply pw_below_drewN | apply below_drew1 | refine below_set ?_ GE203.out | refine below_set ?_ GE226.out) | exact HB.out)) hb); have n5_ := Aside0.mk (hbox); have n6_ := Aside0.mk ((by rw [hg]; exact (below_size (by repeat (first | (with_reducible first | exact HB.out | apply below_alloc | apply pw_below_drewN | apply below_drew1 | refine below_set ?_ GE203.out | refine below_set ?_ GE226.out) | exact HB.out))) : w.heap.size ≤ gb239)); have n7_ := Aside0.mk ((by rw [hg]; exact (below_size (by repeat (first | (with_reducible first | exact HB.out | apply below_alloc | apply pw_below_drewN | apply below_drew1 | refine below_set ?_ GE203.out | refine below_set ?_ GE226.out) | exact HB.out))) : w.heap.size ≤ gb239)); have n8_ := Aside0.mk ((by rw [hg]; exact Nat.ne_of_lt (blk_lt (g := gb203) (o := .cells #[.int .i64 t197, .int .i64 t198, .int .i64 t199, .int .u32 t200, .int .i64 t201] 28 (0, 0)) (by (with_reducible repeat (first | refine blk_drewN ?_ _ | refine blk_drew ?_ | refine blk_alloc ?_ _)); exact BK203.out)) : gb203 ≠ gb239)); have n9_ := Aside0.mk ((by rw [hg]; exact Nat.ne_of_gt (blk_lt (g := gb203) (o := .cells #[.int .i64 t197, .int .i64 t198, .int .i64 t199, .int .u32 t200, .int .i64 t201] 28 (0, 0)) (by (with_reducible repeat (first | refine blk_drewN ?_ _ | refine blk_drew ?_ | refine blk_alloc ?_ _)); exact BK203.out)) : gb239 ≠ gb203)); have n10_ := Aside0.mk ((by rw [hg]; exact Nat.ne_of_lt (blk_lt (g := gb226) (o := .cells #[.int .i64 t220, .int .i64 t221, .int .i64 t222, .int .u32 t223, .int .i64 t224] 28 (0, 0)) (by (with_reducible repeat (first | refine blk_drewN ?_ _ | refine blk_drew ?_ | refine blk_alloc ?_ _)); exact BK226.out)) : gb226 ≠ gb239)); have n11_ := Aside0.mk ((by rw [hg]; exact Nat.ne_of_gt (blk_lt (g := gb226) (o := .cells #[.int .i64 t220, .int .i64 t221, .int .i64 t222, .int .u32 t223, .int .i64 t224] 28 (0, 0)) (by (with_reducible repeat (first | refine blk_drewN ?_ _ | refine blk_drew ?_ | refine blk_alloc ?_ _)); exact BK226.out)) : gb239 ≠ gb226)); clear HO_9; clear HO232; clear BK203; clear BK226; clear HB; have HO_9 := n0_; have HO232 := n1_; have BK203 := n2_; have BK226 := n3_; have HB := n4_; have BK239 := n5_; have GW239 := n6_; have GE239 := n7_; have NB203_239 := n8_; have NB239_203 := n9_; have NB226_239 := n10_; have NB239_226 := n11_; clear n0_ n1_ n2_ n3_ n4_ n5_ n6_ n7_ n8_ n9_ n10_ n11_; clear hb hbox hg; have hnb81 := NB239_203.out; have hnc81 := NB203_239.out; have hnb82 := NB239_226.out; have hnc82 := NB226_239.out; have hcz83_0 : w80.cell? ⟨gb239, 0, none⟩ = some (.int .i64 0) := (blk_cell BK239.out 0).trans rfl; have hcz83_1 : w80.cell? ⟨gb239, 1, none⟩ = some (.int .i64 0) := (blk_cell BK239.out 1).trans rfl; have hcz83_2 : w80.cell? ⟨gb239, 2, none⟩ = some (.int .i64 0) := (blk_cell BK239.out 2).trans rfl; have hcz83_3 : w80.cell? ⟨gb239, 3, none⟩ = some (.int .u32 0) := (blk_cell BK239.out 3).trans rfl; have hcz83_4 : w80.cell? ⟨gb239, 4, none⟩ = some (.int .i64 0) := (blk_cell BK239.out 4).trans rfl; have hfz83_0 := blk_frozen BK239.out 0; have hfz83_1 := blk_frozen BK239.out 1; have hfz83_2 := blk_frozen BK239.out 2; have hfz83_3 := blk_frozen BK239.out 3; have hfz83_4 := blk_frozen BK239.out 4; have hcz84_0 : w80.cell? ⟨gb203, 0, none⟩ = some (.int .i64 t197) := (blk_cell BK203.out 0).trans rfl; have hcz84_1 : w80.cell? ⟨gb203, 1, none⟩ = some (.int .i64 t198) := (blk_cell BK203.out 1).trans rfl; have hcz84_2 : w80.cell? ⟨gb203, 2, none⟩ = some (.int .i64 t199) := (blk_cell BK203.out 2).trans rfl; have hcz84_3 : w80.cell? ⟨gb203, 3, none⟩ = some (.int .u32 t200) := (blk_cell BK203.out 3).trans rfl; have hcz84_4 : w80.cell? ⟨gb203, 4, none⟩ = some (.int .i64 t201) := (blk_cell BK203.out 4).trans rfl; have hfz84_0 := blk_frozen BK203.out 0; have hfz84_1 := blk_frozen BK203.out 1; have hfz84_2 := blk_frozen BK203.out 2; have hfz84_3 := blk_frozen BK203.out 3; have hfz84_4 := blk_frozen BK203.out 4; have hcz85_0 : w80.cell? ⟨gb226, 0, none⟩ = some (.int .i64 t220) := (blk_cell BK226.out 0).trans rfl; have hcz85_1 : w80.cell? ⟨gb226, 1, none⟩ = some (.int .i64 t221) := (blk_cell BK226.out 1).trans rfl; have hcz85_2 : w80.cell? ⟨gb226, 2, none⟩ = some (.int .i64 t222) := (blk_cell BK226.out 2).trans rfl; have hcz85_3 : w80.cell? ⟨gb226, 3, none⟩ = some (.int .u32 t223) := (blk_cell BK226.out 3).trans rfl; have hcz85_4 : w80.cell? ⟨gb226, 4, none⟩ = some (.int .i64 t224) := (blk_cell BK226.out 4).trans rfl; have hfz85_0 := blk_frozen BK226.out 0; have hfz85_1 := blk_frozen BK226.out 1; have hfz85_2 := blk_frozen BK226.out 2; have hfz85_3 := blk_frozen BK226.out 3; have hfz85_4 := blk_frozen BK226.out 4))
                        go_ret
                        exact ⟨by first | rfl | (simp [errW_none, errW_some] <;> rfl) | (simp [*, errW_none, errW_some] <;> rfl), by repeat (first | (with_reducible first | exact HB.out | apply below_alloc | apply pw_below_drewN | apply below_drew1 | refine below_set ?_ GE203.out | refine below_set ?_ GE226.out | refine below_set ?_ GE239.out) | exact HB.out)⟩
                    · rw [if_neg c54] at H
                      have c54b0 : (t197 == t220 && (t198 == t221 && (t199 == t222 && ((t200 == t223 && (t201 == t224)))))) = false := by simpa using c54
                      (try (have c54b1 : decide (t197 = t220 && (t198 == t221 && (t199 == t222 && ((t200 == t223 && (t201 == t224)))))) = false := by simpa using c54))
                      (try (have c54b2 : (t197 == t220 && (t198 == t221 && (t199 == t222 && ((t200 == t223 && (t201 == t224)))))) = false := by simpa using c54))
                      (try (have c54b3 : ¬ (t197 = t220 && (t198 == t221 && (t199 == t222 && ((t200 == t223 && (t201 == t224)))))) := by simpa using c54))
                      clear c54
                      exact absurd ((Option.some.inj H).trans hT) (by decide)
                  · rw [if_neg c53] at H
                    have c53b0 : (t202 == t225) = false := by simpa using c53
                    (try (have c53b1 : decide (t202 = t225) = false := by simpa using c53))
                    (try (have c53b2 : (t202 == t225) = false := by simpa using c53))
                    (try (have c53b3 : ¬ (t202 = t225) := by simpa using c53))
                    clear c53
                    exact absurd ((Option.some.inj H).trans hT) (by decide)
                · rw [if_neg c51] at H
                  exact absurd H (by simp)
  · replace c5 := Bool.eq_false_iff.mpr c5
    subst c5
    have H1 : (some false) = some r := by rw [if_neg (show ¬ (false = true) by decide)] at H; exact H
    clear H
    have H := H1
    clear H1
    exact absurd ((Option.some.inj H).trans hT) (by decide)
def bailiwicklaw23_LineCases.Pure : Prop := ∀ (l0 : List Int) (l1 : List Bool) (a2 : Int), (l0.length ≤ maxLen ∧ l0.length * 1 ≤ 140737488351232 ∧ ∀ a_ ∈ l0, (Lit.int .u8 a_).wf = true) → (l1.length ≤ maxLen ∧ l1.length * 1 ≤ 140737488351232 ∧ ∀ a_ ∈ l1, True) → (Lit.int .u8 a2).wf = true → ∃ k, bailiwicklaw23_LineCases.f k l0 l1 a2 = some true

end Go.Proofs.Ytnbanjbhjjhkdaa.P
