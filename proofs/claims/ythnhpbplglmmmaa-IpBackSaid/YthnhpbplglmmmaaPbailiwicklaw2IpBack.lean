-- Laid by a program (wip/tools/myprint.py) out of the translation. Not trusted: Lean checks it.
import Derived.Test.YthnhpbplglmmmaaP0
import Derived.Test.YthnhpbplglmmmaaPip
import Derived.Test.YthnhpbplglmmmaaPbailiwicklaw2
import Derived.Test.YthnhpbplglmmmaaPbailiwickref2B
import Derived.Test.YthnhpbplglmmmaaPbailiwickref1
namespace Go.Proofs.Ythnhpbplglmmmaa.P
open Go.RowKit Go.Proofs.YthnhpbplglmmmaaW.PrintWords Go.Proofs.YthnhpbplglmmmaaW.PrintLast Go.Proofs.YthnhpbplglmmmaaW.PrintMore
attribute [local go_sem] max2_int min2_int max_two min_two max_three min_three max_four min_four   -- for this text's walks alone
set_option linter.unusedVariables false
set_option linter.unusedSimpArgs false

/-! ### bailiwicklaw2_IpBack: function 5 -/
mutual
def bailiwicklaw2_IpBack.j0 : Nat → List Int → Bool → Int → Int → Bool → Bool → Int → Int → Int → Int → Int → List Int → List Int → Option (Bool)
  | 0, _, _, _, _, _, _, _, _, _, _, _, _, _ => none
  | k + 1, x1, x21, x289000, x289001, x289002, x289003, x289004, x289005, x289006, x289007, x289008, x289009, x289010 => if x21 = true then (some true) else ((ip_Build.f x289000 x289001 x289002 x289003 x289004 x289005 x289006 x289007 x289008 x289009 x289010).bind fun bt291 => (if bt291.2 = 0 then ((bailiwickref1_Copy.f k bt291.1).bind fun t295 => (if t295.length + x1.length < 140737488355328 then ((some (t295 ++ x1 : List Int)).bind fun y298 => (if (y298.length : Int) > 2048 then (if 2048 ≤ (y298.length : Int) then (bailiwicklaw2_IpBack.j1 k bt291.1 (y298.take (2048 : Int).toNat) x289000 x289001 x289002 x289003 x289004 x289005 x289006 x289007 x289008 x289009 x289010) else (none)) else (bailiwicklaw2_IpBack.j1 k bt291.1 y298 x289000 x289001 x289002 x289003 x289004 x289005 x289006 x289007 x289008 x289009 x289010))) else (none))) else (some ((bt291.1.length : Int) == 0))))
def bailiwicklaw2_IpBack.j1 : Nat → List Int → List Int → Int → Int → Bool → Bool → Int → Int → Int → Int → Int → List Int → List Int → Option (Bool)
  | 0, _, _, _, _, _, _, _, _, _, _, _, _, _ => none
  | k + 1, x5, x7, x289000, x289001, x289002, x289003, x289004, x289005, x289006, x289007, x289008, x289009, x289010 => (ip_Parse.f x7).bind fun bt304 => ((ip_Build.f bt304.1 bt304.2.1 bt304.2.2.1 bt304.2.2.2.1 bt304.2.2.2.2.1 bt304.2.2.2.2.2.1 bt304.2.2.2.2.2.2.1 bt304.2.2.2.2.2.2.2.1 bt304.2.2.2.2.2.2.2.2.1 bt304.2.2.2.2.2.2.2.2.2.1 bt304.2.2.2.2.2.2.2.2.2.2.1).bind fun bt321 => (if bt304.2.2.2.2.2.2.2.2.2.2.2 = 0 then (if bt321.2 = 0 then ((bailiwickref2_Same.f k x289000 x289001 x289002 x289003 x289004 x289005 x289006 x289007 x289008 x289009 x289010 bt304.1 bt304.2.1 bt304.2.2.1 bt304.2.2.2.1 bt304.2.2.2.2.1 bt304.2.2.2.2.2.1 bt304.2.2.2.2.2.2.1 bt304.2.2.2.2.2.2.2.1 bt304.2.2.2.2.2.2.2.2.1 bt304.2.2.2.2.2.2.2.2.2.1 bt304.2.2.2.2.2.2.2.2.2.2.1).bind fun t325 => (if t325 = true then ((bailiwickref1_Same.f k x5 bt321.1).bind fun t326 => (some t326)) else (some false))) else (some false)) else (some false)))
end
def bailiwicklaw2_IpBack.f (k : Nat) (a0_0 : Int) (a0_1 : Int) (a0_2 : Bool) (a0_3 : Bool) (a0_4 : Int) (a0_5 : Int) (a0_6 : Int) (a0_7 : Int) (a0_8 : Int) (l0_9 : List Int) (l0_10 : List Int) (l1 : List Int) : Option (Bool) := (bailiwicklaw2_awake.f).bind fun t289 => (if t289 = true then ((bailiwicklaw2_small.f a0_0 a0_1 a0_2 a0_3 a0_4 a0_5 a0_6 a0_7 a0_8 l0_9 l0_10).bind fun t290 => (if t290 = true then (bailiwicklaw2_IpBack.j0 k l1 (decide ((l1.length : Int) > 5000)) a0_0 a0_1 a0_2 a0_3 a0_4 a0_5 a0_6 a0_7 a0_8 l0_9 l0_10) else (bailiwicklaw2_IpBack.j0 k l1 true a0_0 a0_1 a0_2 a0_3 a0_4 a0_5 a0_6 a0_7 a0_8 l0_9 l0_10))) else (some false))
theorem bailiwicklaw2_IpBack.mono_l : ∀ k, (∀ y0 y1 y2 y3 y4 y5 y6 y7 y8 y9 y10 y11 y12, LeO (bailiwicklaw2_IpBack.j0 k y0 y1 y2 y3 y4 y5 y6 y7 y8 y9 y10 y11 y12) (bailiwicklaw2_IpBack.j0 (k + 1) y0 y1 y2 y3 y4 y5 y6 y7 y8 y9 y10 y11 y12)) ∧ (∀ y0 y1 y2 y3 y4 y5 y6 y7 y8 y9 y10 y11 y12, LeO (bailiwicklaw2_IpBack.j1 k y0 y1 y2 y3 y4 y5 y6 y7 y8 y9 y10 y11 y12) (bailiwicklaw2_IpBack.j1 (k + 1) y0 y1 y2 y3 y4 y5 y6 y7 y8 y9 y10 y11 y12))
  | 0 => ⟨fun _ _ _ _ _ _ _ _ _ _ _ _ _ r h => by simp [bailiwicklaw2_IpBack.j0] at h, fun _ _ _ _ _ _ _ _ _ _ _ _ _ r h => by simp [bailiwicklaw2_IpBack.j1] at h⟩
  | k + 1 => by
    obtain ⟨ih0, ih1⟩ := bailiwicklaw2_IpBack.mono_l k
    refine ⟨?_, ?_⟩
    · intro y0 y1 y2 y3 y4 y5 y6 y7 y8 y9 y10 y11 y12
      unfold bailiwicklaw2_IpBack.j0
      repeat' first
      | (with_reducible exact ih0 _ _ _ _ _ _ _ _ _ _ _ _ _)
      | (with_reducible exact ih1 _ _ _ _ _ _ _ _ _ _ _ _ _)
      | (with_reducible exact bailiwickref1_Copy.mono _ _)
      | (with_reducible exact bailiwickref1_Same.mono _ _ _)
      | (with_reducible exact bailiwickref2_Same.mono _ _ _ _ _ _ _ _ _ _ _ _ _ _ _ _ _ _ _ _ _ _ _)
      | (with_reducible exact LeO.refl _)
      | (with_reducible exact LeO.none _)
      | (with_reducible refine LeO.ite ?_ ?_)
      | (with_reducible refine LeO.bind ?_ (fun _ => ?_))
      | exact ih0 _ _ _ _ _ _ _ _ _ _ _ _ _
      | exact ih1 _ _ _ _ _ _ _ _ _ _ _ _ _
      | exact bailiwickref1_Copy.mono _ _
      | exact bailiwickref1_Same.mono _ _ _
      | exact bailiwickref2_Same.mono _ _ _ _ _ _ _ _ _ _ _ _ _ _ _ _ _ _ _ _ _ _ _
      | exact LeO.none _
      | refine LeO.ite ?_ ?_
      | refine LeO.bind ?_ (fun _ => ?_)
    · intro y0 y1 y2 y3 y4 y5 y6 y7 y8 y9 y10 y11 y12
      unfold bailiwicklaw2_IpBack.j1
      repeat' first
      | (with_reducible exact ih0 _ _ _ _ _ _ _ _ _ _ _ _ _)
      | (with_reducible exact ih1 _ _ _ _ _ _ _ _ _ _ _ _ _)
      | (with_reducible exact bailiwickref1_Copy.mono _ _)
      | (with_reducible exact bailiwickref1_Same.mono _ _ _)
      | (with_reducible exact bailiwickref2_Same.mono _ _ _ _ _ _ _ _ _ _ _ _ _ _ _ _ _ _ _ _ _ _ _)
      | (with_reducible exact LeO.refl _)
      | (with_reducible exact LeO.none _)
      | (with_reducible refine LeO.ite ?_ ?_)
      | (with_reducible refine LeO.bind ?_ (fun _ => ?_))
      | exact ih0 _ _ _ _ _ _ _ _ _ _ _ _ _
      | exact ih1 _ _ _ _ _ _ _ _ _ _ _ _ _
      | exact bailiwickref1_Copy.mono _ _
      | exact bailiwickref1_Same.mono _ _ _
      | exact bailiwickref2_Same.mono _ _ _ _ _ _ _ _ _ _ _ _ _ _ _ _ _ _ _ _ _ _ _
      | exact LeO.none _
      | refine LeO.ite ?_ ?_
      | refine LeO.bind ?_ (fun _ => ?_)
theorem bailiwicklaw2_IpBack.mono : ∀ a0 a1 a2 a3 a4 a5 a6 a7 a8 a9 a10 a11 k, LeO (bailiwicklaw2_IpBack.f k a0 a1 a2 a3 a4 a5 a6 a7 a8 a9 a10 a11) (bailiwicklaw2_IpBack.f (k + 1) a0 a1 a2 a3 a4 a5 a6 a7 a8 a9 a10 a11) := by
  intro a0 a1 a2 a3 a4 a5 a6 a7 a8 a9 a10 a11 k
  obtain ⟨ih0, ih1⟩ := bailiwicklaw2_IpBack.mono_l k
  unfold bailiwicklaw2_IpBack.f
  repeat' first
      | (with_reducible exact ih0 _ _ _ _ _ _ _ _ _ _ _ _ _)
      | (with_reducible exact ih1 _ _ _ _ _ _ _ _ _ _ _ _ _)
      | (with_reducible exact bailiwickref1_Copy.mono _ _)
      | (with_reducible exact bailiwickref1_Same.mono _ _ _)
      | (with_reducible exact bailiwickref2_Same.mono _ _ _ _ _ _ _ _ _ _ _ _ _ _ _ _ _ _ _ _ _ _ _)
      | (with_reducible exact LeO.refl _)
      | (with_reducible exact LeO.none _)
      | (with_reducible refine LeO.ite ?_ ?_)
      | (with_reducible refine LeO.bind ?_ (fun _ => ?_))
      | exact ih0 _ _ _ _ _ _ _ _ _ _ _ _ _
      | exact ih1 _ _ _ _ _ _ _ _ _ _ _ _ _
      | exact bailiwickref1_Copy.mono _ _
      | exact bailiwickref1_Same.mono _ _ _
      | exact bailiwickref2_Same.mono _ _ _ _ _ _ _ _ _ _ _ _ _ _ _ _ _ _ _ _ _ _ _
      | exact LeO.none _
      | refine LeO.ite ?_ ?_
      | refine LeO.bind ?_ (fun _ => ?_)
theorem own_len_ (A : Option Addr) (n m c c' : Nat) : (Value.slice A n c).ownBlock = (Value.slice A m c').ownBlock := by cases A <;> rfl
set_option maxHeartbeats 8000000 in
set_option maxRecDepth 100000 in
theorem bailiwicklaw2_IpBack.calls (k : Nat) (a0_0 : Int) (a0_1 : Int) (a0_2 : Bool) (a0_3 : Bool) (a0_4 : Int) (a0_5 : Int) (a0_6 : Int) (a0_7 : Int) (a0_8 : Int) (A0_9 : Option Addr) (c0_9 : Nat) (l0_9 : List Int) (A0_10 : Option Addr) (c0_10 : Nat) (l0_10 : List Int) (A1 : Option Addr) (c1 : Nat) (l1 : List Int) (r : Bool) (hT : r = true) (w : World) (hr0_9 : Kd.C (Kd.int .u8) w A0_9 l0_9.length l0_9) (hc0_9 : l0_9.length ≤ c0_9) (hr0_10 : Kd.C (Kd.int .u8) w A0_10 l0_10.length l0_10) (hc0_10 : l0_10.length ≤ c0_10) (hr1 : Kd.C (Kd.int .u8) w A1 l1.length l1) (hc1 : l1.length ≤ c1) (h : bailiwicklaw2_IpBack.f k a0_0 a0_1 a0_2 a0_3 a0_4 a0_5 a0_6 a0_7 a0_8 l0_9 l0_10 l1 = some r) :
    Calls Try.prog 5 #[.agg #[.int .i64 a0_0, .int .i64 a0_1, .bool a0_2, .bool a0_3, .int .i64 a0_4, .int .i64 a0_5, .int .i64 a0_6, .int .u32 a0_7, .int .u32 a0_8, .slice A0_9 l0_9.length c0_9, .slice A0_10 l0_10.length c0_10], .slice A1 l1.length c1] w fun e w' => e = .returned (.bool r) ∧ Below w.heap.size w w' := by
  have hu25 := Try.underlying25
  have HR0_9 := Aside0.mk hr0_9
  have HC0_9 := Aside0.mk hc0_9
  clear hr0_9 hc0_9
  have HR0_10 := Aside0.mk hr0_10
  have HC0_10 := Aside0.mk hc0_10
  clear hr0_10 hc0_10
  have HR1 := Aside0.mk hr1
  have HC1 := Aside0.mk hc1
  clear hr1 hc1
  have HB := Aside0.mk (Below.refl w.heap.size w)
  have H : ((bailiwicklaw2_awake.f).bind fun t289 => (if t289 = true then ((bailiwicklaw2_small.f a0_0 a0_1 a0_2 a0_3 a0_4 a0_5 a0_6 a0_7 a0_8 l0_9 l0_10).bind fun t290 => (if t290 = true then (bailiwicklaw2_IpBack.j0 k l1 (decide ((l1.length : Int) > 5000)) a0_0 a0_1 a0_2 a0_3 a0_4 a0_5 a0_6 a0_7 a0_8 l0_9 l0_10) else (bailiwicklaw2_IpBack.j0 k l1 true a0_0 a0_1 a0_2 a0_3 a0_4 a0_5 a0_6 a0_7 a0_8 l0_9 l0_10))) else (some false))) = some r := h
  clear h
  replace H := Option.bind_eq_some_iff.mp H
  obtain ⟨t289, A30, H⟩ := H
  replace H : (if t289 = true then ((bailiwicklaw2_small.f a0_0 a0_1 a0_2 a0_3 a0_4 a0_5 a0_6 a0_7 a0_8 l0_9 l0_10).bind fun t290 => (if t290 = true then (bailiwicklaw2_IpBack.j0 k l1 (decide ((l1.length : Int) > 5000)) a0_0 a0_1 a0_2 a0_3 a0_4 a0_5 a0_6 a0_7 a0_8 l0_9 l0_10) else (bailiwicklaw2_IpBack.j0 k l1 true a0_0 a0_1 a0_2 a0_3 a0_4 a0_5 a0_6 a0_7 a0_8 l0_9 l0_10))) else (some false)) = some r := H
  have A3 := Aside0.mk A30
  clear A30
  by_cases c4 : t289 = true
  · subst c4
    have H1 : ((bailiwicklaw2_small.f a0_0 a0_1 a0_2 a0_3 a0_4 a0_5 a0_6 a0_7 a0_8 l0_9 l0_10).bind fun t290 => (if t290 = true then (bailiwicklaw2_IpBack.j0 k l1 (decide ((l1.length : Int) > 5000)) a0_0 a0_1 a0_2 a0_3 a0_4 a0_5 a0_6 a0_7 a0_8 l0_9 l0_10) else (bailiwicklaw2_IpBack.j0 k l1 true a0_0 a0_1 a0_2 a0_3 a0_4 a0_5 a0_6 a0_7 a0_8 l0_9 l0_10))) = some r := by rw [if_pos rfl] at H; exact H
    clear H
    have H := H1
    clear H1
    have HC5 := Aside0.mk H
    clear H
    go_enter Try.func5, Try.ntmps5
    go_upto_region 3 with (first | ((with_reducible refine gate_dst (N := 2) rfl ?_); (try (refine gate_guard (by rfl) ?_; dsimp only)); refine box_event ?hg (N := 2) ?hd (cs := #[.int .i64 a0_0, .int .i64 a0_1, .bool a0_2, .bool a0_3, .int .i64 a0_4, .int .i64 a0_5, .int .i64 a0_6, .int .u32 a0_7, .int .u32 a0_8, .slice A0_9 l0_9.length c0_9, .slice A0_10 l0_10.length c0_10]) (t := 25) ?hr ?_; (case hd => rfl); (case hg => rfl); (case hr => first | (go_simp; done) | (go_simp; rfl)); intro gb288 hg w6 hbox hb; have n0_ := Aside0.mk (below_step (by repeat (first | (with_reducible first | exact HB.out | apply below_alloc | apply pw_below_drewN | apply below_drew1) | exact HB.out)) hb); have n1_ := Aside0.mk (hbox); have n2_ := Aside0.mk ((by rw [hg]; exact (below_size (by repeat (first | (with_reducible first | exact HB.out | apply below_alloc | apply pw_below_drewN | apply below_drew1) | exact HB.out))) : w.heap.size ≤ gb288)); have n3_ := Aside0.mk ((by rw [hg]; exact (below_size (by repeat (first | (with_reducible first | exact HB.out | apply below_alloc | apply pw_below_drewN | apply below_drew1) | exact HB.out))) : w.heap.size ≤ gb288)); clear HB; have HB := n0_; have BK288 := n1_; have GW288 := n2_; have GE288 := n3_; clear n0_ n1_ n2_ n3_; clear hb hbox hg) | ((with_reducible refine gate_callee (f := 13) rfl ?_); refine goesL_ (some 12) rfl rfl Try.func13 (by kernel_rfl) rfl #[] rfl (by (try simp only [List.map_toArray, List.map_cons, List.map_nil]); first | done | rfl | (simp only [List.length_drop, List.length_take]; rfl)) ?_; (with_reducible refine (bailiwicklaw2_awake.calls  true _ A3.out).mono ?_); rintro e w7 ⟨rfl, hb⟩; refine ⟨_, rfl, ?_⟩; have n0_ := Aside0.mk (blk_below (g := gb288) (o := .cells #[.int .i64 a0_0, .int .i64 a0_1, .bool a0_2, .bool a0_3, .int .i64 a0_4, .int .i64 a0_5, .int .i64 a0_6, .int .u32 a0_7, .int .u32 a0_8, .slice A0_9 l0_9.length c0_9, .slice A0_10 l0_10.length c0_10] 25 (0, 0)) (by (with_reducible repeat (first | refine blk_drewN ?_ _ | refine blk_drew ?_ | refine blk_alloc ?_ _)); exact BK288.out) hb); have n1_ := Aside0.mk (below_step (by repeat (first | (with_reducible first | exact HB.out | apply below_alloc | apply pw_below_drewN | apply below_drew1 | refine below_set ?_ GE288.out) | exact HB.out)) hb); clear BK288; clear HB; have BK288 := n0_; have HB := n1_; clear n0_ n1_; (try clear hb); (try clear hb2); (try clear hk); (try clear hi)))
    (try simp only [Act.put, List.setIfInBounds_toArray, List.set_cons_zero, List.set_cons_succ])
    go_cut [21] (fun v21 wc => ∃ (kq : Nat) (x21_4 : Bool), v21 = .bool x21_4 ∧ Aside0 (bailiwicklaw2_IpBack.j0 kq l1 x21_4 a0_0 a0_1 a0_2 a0_3 a0_4 a0_5 a0_6 a0_7 a0_8 l0_9 l0_10 = some r) ∧ Aside0 (kq ≤ k) ∧ Aside0 (wc.heap[gb288]? = some (.cells #[.int .i64 a0_0, .int .i64 a0_1, .bool a0_2, .bool a0_3, .int .i64 a0_4, .int .i64 a0_5, .int .i64 a0_6, .int .u32 a0_7, .int .u32 a0_8, (.slice A0_9 l0_9.length c0_9), (.slice A0_10 l0_10.length c0_10)] 25 (0, 0))) ∧ Aside0 (Below w.heap.size w wc))
    case first =>
      have H := HC5.out
      clear HC5
      replace H := Option.bind_eq_some_iff.mp H
      obtain ⟨t290, A80, H⟩ := H
      replace H : (if t290 = true then (bailiwicklaw2_IpBack.j0 k l1 (decide ((l1.length : Int) > 5000)) a0_0 a0_1 a0_2 a0_3 a0_4 a0_5 a0_6 a0_7 a0_8 l0_9 l0_10) else (bailiwicklaw2_IpBack.j0 k l1 true a0_0 a0_1 a0_2 a0_3 a0_4 a0_5 a0_6 a0_7 a0_8 l0_9 l0_10)) = some r := H
      have A8 := Aside0.mk A80
      clear A80
      by_cases c9 : t290 = true
      · subst c9
        have H1 : (bailiwicklaw2_IpBack.j0 k l1 (decide ((l1.length : Int) > 5000)) a0_0 a0_1 a0_2 a0_3 a0_4 a0_5 a0_6 a0_7 a0_8 l0_9 l0_10) = some r := by rw [if_pos rfl] at H; exact H
        clear H
        have H := H1
        clear H1
        have H' := Aside0.mk H
        clear H
        have hcz10_0 : w7.cell? ⟨gb288, 0, none⟩ = some (.int .i64 a0_0) := (blk_cell BK288.out 0).trans rfl
        have hcz10_1 : w7.cell? ⟨gb288, 1, none⟩ = some (.int .i64 a0_1) := (blk_cell BK288.out 1).trans rfl
        have hcz10_2 : w7.cell? ⟨gb288, 2, none⟩ = some (.bool a0_2) := (blk_cell BK288.out 2).trans rfl
        have hcz10_3 : w7.cell? ⟨gb288, 3, none⟩ = some (.bool a0_3) := (blk_cell BK288.out 3).trans rfl
        have hcz10_4 : w7.cell? ⟨gb288, 4, none⟩ = some (.int .i64 a0_4) := (blk_cell BK288.out 4).trans rfl
        have hcz10_5 : w7.cell? ⟨gb288, 5, none⟩ = some (.int .i64 a0_5) := (blk_cell BK288.out 5).trans rfl
        have hcz10_6 : w7.cell? ⟨gb288, 6, none⟩ = some (.int .i64 a0_6) := (blk_cell BK288.out 6).trans rfl
        have hcz10_7 : w7.cell? ⟨gb288, 7, none⟩ = some (.int .u32 a0_7) := (blk_cell BK288.out 7).trans rfl
        have hcz10_8 : w7.cell? ⟨gb288, 8, none⟩ = some (.int .u32 a0_8) := (blk_cell BK288.out 8).trans rfl
        have hcz10_9 : w7.cell? ⟨gb288, 9, none⟩ = some (.slice A0_9 l0_9.length c0_9) := (blk_cell BK288.out 9).trans rfl
        have hcz10_10 : w7.cell? ⟨gb288, 10, none⟩ = some (.slice A0_10 l0_10.length c0_10) := (blk_cell BK288.out 10).trans rfl
        have hfz10_0 := blk_frozen BK288.out 0
        have hfz10_1 := blk_frozen BK288.out 1
        have hfz10_2 := blk_frozen BK288.out 2
        have hfz10_3 := blk_frozen BK288.out 3
        have hfz10_4 := blk_frozen BK288.out 4
        have hfz10_5 := blk_frozen BK288.out 5
        have hfz10_6 := blk_frozen BK288.out 6
        have hfz10_7 := blk_frozen BK288.out 7
        have hfz10_8 := blk_frozen BK288.out 8
        have hfz10_9 := blk_frozen BK288.out 9
        have hfz10_10 := blk_frozen BK288.out 10
        go_wp2_with (first | ((with_reducible refine gate_callee (f := 14) rfl ?_); refine goesL_ (some 15) rfl rfl Try.func14 (by kernel_rfl) rfl #[.agg #[.int .i64 a0_0, .int .i64 a0_1, .bool a0_2, .bool a0_3, .int .i64 a0_4, .int .i64 a0_5, .int .i64 a0_6, .int .u32 a0_7, .int .u32 a0_8, .slice A0_9 l0_9.length c0_9, .slice A0_10 l0_10.length c0_10]] rfl (by (try simp only [List.map_toArray, List.map_cons, List.map_nil]); first | done | rfl | (simp only [List.length_drop, List.length_take]; rfl)) ?_; (with_reducible refine (bailiwicklaw2_small.calls a0_0 a0_1 a0_2 a0_3 a0_4 a0_5 a0_6 a0_7 a0_8 _ _ l0_9 _ _ l0_10 true _ ?side1 ?side2 ?side3 ?side4 A8.out).mono ?_); (case side1 => repeat (first | exact (Kd.C_below HR0_9.out HB.out) | (with_reducible refine Kd.C_alloc ?_ _) | (with_reducible refine Kd.C_drewN ?_ _) | (with_reducible refine Kd.C_drew ?_))); (case side2 => exact HC0_9.out); (case side3 => repeat (first | exact (Kd.C_below HR0_10.out HB.out) | (with_reducible refine Kd.C_alloc ?_ _) | (with_reducible refine Kd.C_drewN ?_ _) | (with_reducible refine Kd.C_drew ?_))); (case side4 => exact HC0_10.out); rintro e w11 ⟨rfl, hb⟩; refine ⟨_, rfl, ?_⟩; have n0_ := Aside0.mk (blk_below (g := gb288) (o := .cells #[.int .i64 a0_0, .int .i64 a0_1, .bool a0_2, .bool a0_3, .int .i64 a0_4, .int .i64 a0_5, .int .i64 a0_6, .int .u32 a0_7, .int .u32 a0_8, .slice A0_9 l0_9.length c0_9, .slice A0_10 l0_10.length c0_10] 25 (0, 0)) (by (with_reducible repeat (first | refine blk_drewN ?_ _ | refine blk_drew ?_ | refine blk_alloc ?_ _)); exact BK288.out) hb); have n1_ := Aside0.mk (below_step (by repeat (first | (with_reducible first | exact HB.out | apply below_alloc | apply pw_below_drewN | apply below_drew1 | refine below_set ?_ GE288.out) | exact HB.out)) hb); clear BK288; clear HB; have BK288 := n0_; have HB := n1_; clear n0_ n1_; (try clear hb); (try clear hb2); (try clear hk); (try clear hi)))
        go_meet
        case rel => exact ⟨_, (decide ((l1.length : Int) > 5000)), (by first | rfl | (simp; done) | (simp [*]; done)), H', ⟨by first | omega | exact Nat.le_refl _⟩, ⟨by (with_reducible repeat (first | refine blk_drewN ?_ _ | refine blk_drew ?_ | refine blk_alloc ?_ _)); exact BK288.out⟩, ⟨by repeat (first | (with_reducible first | exact HB.out | apply below_alloc | apply pw_below_drewN | apply below_drew1 | refine below_set ?_ GE288.out) | exact HB.out)⟩⟩
      · replace c9 := Bool.eq_false_iff.mpr c9
        subst c9
        have H1 : (bailiwicklaw2_IpBack.j0 k l1 true a0_0 a0_1 a0_2 a0_3 a0_4 a0_5 a0_6 a0_7 a0_8 l0_9 l0_10) = some r := by rw [if_neg (show ¬ (false = true) by decide)] at H; exact H
        clear H
        have H := H1
        clear H1
        have H' := Aside0.mk H
        clear H
        have hcz12_0 : w7.cell? ⟨gb288, 0, none⟩ = some (.int .i64 a0_0) := (blk_cell BK288.out 0).trans rfl
        have hcz12_1 : w7.cell? ⟨gb288, 1, none⟩ = some (.int .i64 a0_1) := (blk_cell BK288.out 1).trans rfl
        have hcz12_2 : w7.cell? ⟨gb288, 2, none⟩ = some (.bool a0_2) := (blk_cell BK288.out 2).trans rfl
        have hcz12_3 : w7.cell? ⟨gb288, 3, none⟩ = some (.bool a0_3) := (blk_cell BK288.out 3).trans rfl
        have hcz12_4 : w7.cell? ⟨gb288, 4, none⟩ = some (.int .i64 a0_4) := (blk_cell BK288.out 4).trans rfl
        have hcz12_5 : w7.cell? ⟨gb288, 5, none⟩ = some (.int .i64 a0_5) := (blk_cell BK288.out 5).trans rfl
        have hcz12_6 : w7.cell? ⟨gb288, 6, none⟩ = some (.int .i64 a0_6) := (blk_cell BK288.out 6).trans rfl
        have hcz12_7 : w7.cell? ⟨gb288, 7, none⟩ = some (.int .u32 a0_7) := (blk_cell BK288.out 7).trans rfl
        have hcz12_8 : w7.cell? ⟨gb288, 8, none⟩ = some (.int .u32 a0_8) := (blk_cell BK288.out 8).trans rfl
        have hcz12_9 : w7.cell? ⟨gb288, 9, none⟩ = some (.slice A0_9 l0_9.length c0_9) := (blk_cell BK288.out 9).trans rfl
        have hcz12_10 : w7.cell? ⟨gb288, 10, none⟩ = some (.slice A0_10 l0_10.length c0_10) := (blk_cell BK288.out 10).trans rfl
        have hfz12_0 := blk_frozen BK288.out 0
        have hfz12_1 := blk_frozen BK288.out 1
        have hfz12_2 := blk_frozen BK288.out 2
        have hfz12_3 := blk_frozen BK288.out 3
        have hfz12_4 := blk_frozen BK288.out 4
        have hfz12_5 := blk_frozen BK288.out 5
        have hfz12_6 := blk_frozen BK288.out 6
        have hfz12_7 := blk_frozen BK288.out 7
        have hfz12_8 := blk_frozen BK288.out 8
        have hfz12_9 := blk_frozen BK288.out 9
        have hfz12_10 := blk_frozen BK288.out 10
        go_wp2_with (first | ((with_reducible refine gate_callee (f := 14) rfl ?_); refine goesL_ (some 15) rfl rfl Try.func14 (by kernel_rfl) rfl #[.agg #[.int .i64 a0_0, .int .i64 a0_1, .bool a0_2, .bool a0_3, .int .i64 a0_4, .int .i64 a0_5, .int .i64 a0_6, .int .u32 a0_7, .int .u32 a0_8, .slice A0_9 l0_9.length c0_9, .slice A0_10 l0_10.length c0_10]] rfl (by (try simp only [List.map_toArray, List.map_cons, List.map_nil]); first | done | rfl | (simp only [List.length_drop, List.length_take]; rfl)) ?_; (with_reducible refine (bailiwicklaw2_small.calls a0_0 a0_1 a0_2 a0_3 a0_4 a0_5 a0_6 a0_7 a0_8 _ _ l0_9 _ _ l0_10 false _ ?side1 ?side2 ?side3 ?side4 A8.out).mono ?_); (case side1 => repeat (first | exact (Kd.C_below HR0_9.out HB.out) | (with_reducible refine Kd.C_alloc ?_ _) | (with_reducible refine Kd.C_drewN ?_ _) | (with_reducible refine Kd.C_drew ?_))); (case side2 => exact HC0_9.out); (case side3 => repeat (first | exact (Kd.C_below HR0_10.out HB.out) | (with_reducible refine Kd.C_alloc ?_ _) | (with_reducible refine Kd.C_drewN ?_ _) | (with_reducible refine Kd.C_drew ?_))); (case side4 => exact HC0_10.out); rintro e w13 ⟨rfl, hb⟩; refine ⟨_, rfl, ?_⟩; have n0_ := Aside0.mk (blk_below (g := gb288) (o := .cells #[.int .i64 a0_0, .int .i64 a0_1, .bool a0_2, .bool a0_3, .int .i64 a0_4, .int .i64 a0_5, .int .i64 a0_6, .int .u32 a0_7, .int .u32 a0_8, .slice A0_9 l0_9.length c0_9, .slice A0_10 l0_10.length c0_10] 25 (0, 0)) (by (with_reducible repeat (first | refine blk_drewN ?_ _ | refine blk_drew ?_ | refine blk_alloc ?_ _)); exact BK288.out) hb); have n1_ := Aside0.mk (below_step (by repeat (first | (with_reducible first | exact HB.out | apply below_alloc | apply pw_below_drewN | apply below_drew1 | refine below_set ?_ GE288.out) | exact HB.out)) hb); clear BK288; clear HB; have BK288 := n0_; have HB := n1_; clear n0_ n1_; (try clear hb); (try clear hb2); (try clear hk); (try clear hi)))
        go_meet
        case rel => exact ⟨_, (true), (by first | rfl | (simp; done) | (simp [*]; done)), H', ⟨by first | omega | exact Nat.le_refl _⟩, ⟨by (with_reducible repeat (first | refine blk_drewN ?_ _ | refine blk_drew ?_ | refine blk_alloc ?_ _)); exact BK288.out⟩, ⟨by repeat (first | (with_reducible first | exact HB.out | apply below_alloc | apply pw_below_drewN | apply below_drew1 | refine below_set ?_ GE288.out) | exact HB.out)⟩⟩
    case rest =>
      clear HC5
      try clear c1
      try clear p2
      try clear c4
      try clear c5
      try clear c9
      try clear c13
      try clear hcz10_0
      try clear hcz10_1
      try clear hcz10_10
      try clear hcz10_2
      try clear hcz10_3
      try clear hcz10_4
      try clear hcz10_5
      try clear hcz10_6
      try clear hcz10_7
      try clear hcz10_8
      try clear hcz10_9
      try clear hcz12_0
      try clear hcz12_1
      try clear hcz12_10
      try clear hcz12_2
      try clear hcz12_3
      try clear hcz12_4
      try clear hcz12_5
      try clear hcz12_6
      try clear hcz12_7
      try clear hcz12_8
      try clear hcz12_9
      try clear hfz10_0
      try clear hfz10_1
      try clear hfz10_10
      try clear hfz10_2
      try clear hfz10_3
      try clear hfz10_4
      try clear hfz10_5
      try clear hfz10_6
      try clear hfz10_7
      try clear hfz10_8
      try clear hfz10_9
      try clear hfz12_0
      try clear hfz12_1
      try clear hfz12_10
      try clear hfz12_2
      try clear hfz12_3
      try clear hfz12_4
      try clear hfz12_5
      try clear hfz12_6
      try clear hfz12_7
      try clear hfz12_8
      try clear hfz12_9
      obtain ⟨kq, x21_4, rfl, HA, HJ4, BK288, HB⟩ := hcut
      cases kq with
      | zero => exact absurd HA.out (by simp [bailiwicklaw2_IpBack.j0])
      | succ kj4 =>
        have H := HA.out
        clear HA
        simp only [bailiwicklaw2_IpBack.j0] at H
        by_cases c14 : x21_4 = true
        · subst c14
          have H1 : (some true) = some r := by rw [if_pos rfl] at H; exact H
          clear H
          have H := H1
          clear H1
          obtain rfl := Option.some.inj H
          go_wp2
          go_ret
          exact ⟨by first | rfl | (simp [errW_none, errW_some] <;> rfl) | (simp [*, errW_none, errW_some] <;> rfl), by repeat (first | (with_reducible first | exact HB.out | apply below_alloc | apply pw_below_drewN | apply below_drew1 | refine below_set ?_ GE288.out) | exact HB.out)⟩
        · replace c14 := Bool.eq_false_iff.mpr c14
          subst c14
          have H1 : ((ip_Build.f a0_0 a0_1 a0_2 a0_3 a0_4 a0_5 a0_6 a0_7 a0_8 l0_9 l0_10).bind fun bt291 => (if bt291.2 = 0 then ((bailiwickref1_Copy.f kj4 bt291.1).bind fun t295 => (if t295.length + l1.length < 140737488355328 then ((some (t295 ++ l1 : List Int)).bind fun y298 => (if (y298.length : Int) > 2048 then (if 2048 ≤ (y298.length : Int) then (bailiwicklaw2_IpBack.j1 kj4 bt291.1 (y298.take (2048 : Int).toNat) a0_0 a0_1 a0_2 a0_3 a0_4 a0_5 a0_6 a0_7 a0_8 l0_9 l0_10) else (none)) else (bailiwicklaw2_IpBack.j1 kj4 bt291.1 y298 a0_0 a0_1 a0_2 a0_3 a0_4 a0_5 a0_6 a0_7 a0_8 l0_9 l0_10))) else (none))) else (some ((bt291.1.length : Int) == 0)))) = some r := by rw [if_neg (show ¬ (false = true) by decide)] at H; exact H
          clear H
          have H := H1
          clear H1
          replace H := Option.bind_eq_some_iff.mp H
          obtain ⟨⟨t291, t294⟩, A150, H⟩ := H
          replace H : (if t294 = 0 then ((bailiwickref1_Copy.f kj4 t291).bind fun t295 => (if t295.length + l1.length < 140737488355328 then ((some (t295 ++ l1 : List Int)).bind fun y298 => (if (y298.length : Int) > 2048 then (if 2048 ≤ (y298.length : Int) then (bailiwicklaw2_IpBack.j1 kj4 t291 (y298.take (2048 : Int).toNat) a0_0 a0_1 a0_2 a0_3 a0_4 a0_5 a0_6 a0_7 a0_8 l0_9 l0_10) else (none)) else (bailiwicklaw2_IpBack.j1 kj4 t291 y298 a0_0 a0_1 a0_2 a0_3 a0_4 a0_5 a0_6 a0_7 a0_8 l0_9 l0_10))) else (none))) else (some ((t291.length : Int) == 0))) = some r := H
          have A15 := Aside0.mk A150
          clear A150
          by_cases c16 : t294 = 0
          · rw [if_pos c16] at H
            have c16b0 : (t294 == 0) = true := beq_iff_eq.mpr c16
            have c16b1 : (t294 != 0) = false := bne_eq_false_iff_eq.mpr c16
            clear c16
            replace H := Option.bind_eq_some_iff.mp H
            obtain ⟨t295, A170, H⟩ := H
            replace H : (if t295.length + l1.length < 140737488355328 then ((some (t295 ++ l1 : List Int)).bind fun y298 => (if (y298.length : Int) > 2048 then (if 2048 ≤ (y298.length : Int) then (bailiwicklaw2_IpBack.j1 kj4 t291 (y298.take (2048 : Int).toNat) a0_0 a0_1 a0_2 a0_3 a0_4 a0_5 a0_6 a0_7 a0_8 l0_9 l0_10) else (none)) else (bailiwicklaw2_IpBack.j1 kj4 t291 y298 a0_0 a0_1 a0_2 a0_3 a0_4 a0_5 a0_6 a0_7 a0_8 l0_9 l0_10))) else (none)) = some r := H
            have A17 := Aside0.mk A170
            clear A170
            by_cases c18 : t295.length + l1.length < 140737488355328
            · rw [if_pos c18] at H
              have LMc18 := Aside0.mk c18
              clear c18
              obtain ⟨y298, hy298⟩ : ∃ y_ : List Int, y_ = (t295 ++ l1) := ⟨_, rfl⟩
              replace H : (if (y298.length : Int) > 2048 then (if 2048 ≤ (y298.length : Int) then (bailiwicklaw2_IpBack.j1 kj4 t291 (y298.take (2048 : Int).toNat) a0_0 a0_1 a0_2 a0_3 a0_4 a0_5 a0_6 a0_7 a0_8 l0_9 l0_10) else (none)) else (bailiwicklaw2_IpBack.j1 kj4 t291 y298 a0_0 a0_1 a0_2 a0_3 a0_4 a0_5 a0_6 a0_7 a0_8 l0_9 l0_10)) = some r := by first | (rw [hy298]; with_reducible exact H) | (have H2_ := (Option.bind_some _ _).symm.trans H; rw [hy298]; with_reducible exact H2_) | (have H2_ := (Option.bind_some _ _).symm.trans H; with_reducible exact H2_) | with_reducible exact H | (rw [hy298]; exact H) | exact H
              have Ny298 := Aside0.mk hy298
              clear hy298
              have HC19 := Aside0.mk H
              clear H
              have hcz20_0 : wc.cell? ⟨gb288, 0, none⟩ = some (.int .i64 a0_0) := (blk_cell BK288.out 0).trans rfl
              have hcz20_1 : wc.cell? ⟨gb288, 1, none⟩ = some (.int .i64 a0_1) := (blk_cell BK288.out 1).trans rfl
              have hcz20_2 : wc.cell? ⟨gb288, 2, none⟩ = some (.bool a0_2) := (blk_cell BK288.out 2).trans rfl
              have hcz20_3 : wc.cell? ⟨gb288, 3, none⟩ = some (.bool a0_3) := (blk_cell BK288.out 3).trans rfl
              have hcz20_4 : wc.cell? ⟨gb288, 4, none⟩ = some (.int .i64 a0_4) := (blk_cell BK288.out 4).trans rfl
              have hcz20_5 : wc.cell? ⟨gb288, 5, none⟩ = some (.int .i64 a0_5) := (blk_cell BK288.out 5).trans rfl
              have hcz20_6 : wc.cell? ⟨gb288, 6, none⟩ = some (.int .i64 a0_6) := (blk_cell BK288.out 6).trans rfl
              have hcz20_7 : wc.cell? ⟨gb288, 7, none⟩ = some (.int .u32 a0_7) := (blk_cell BK288.out 7).trans rfl
              have hcz20_8 : wc.cell? ⟨gb288, 8, none⟩ = some (.int .u32 a0_8) := (blk_cell BK288.out 8).trans rfl
              have hcz20_9 : wc.cell? ⟨gb288, 9, none⟩ = some (.slice A0_9 l0_9.length c0_9) := (blk_cell BK288.out 9).trans rfl
              have hcz20_10 : wc.cell? ⟨gb288, 10, none⟩ = some (.slice A0_10 l0_10.length c0_10) := (blk_cell BK288.out 10).trans rfl
              have hfz20_0 := blk_frozen BK288.out 0
              have hfz20_1 := blk_frozen BK288.out 1
              have hfz20_2 := blk_frozen BK288.out 2
              have hfz20_3 := blk_frozen BK288.out 3
              have hfz20_4 := blk_frozen BK288.out 4
              have hfz20_5 := blk_frozen BK288.out 5
              have hfz20_6 := blk_frozen BK288.out 6
              have hfz20_7 := blk_frozen BK288.out 7
              have hfz20_8 := blk_frozen BK288.out 8
              have hfz20_9 := blk_frozen BK288.out 9
              have hfz20_10 := blk_frozen BK288.out 10
              go_upto_if 38 with (first | ((with_reducible refine gate_callee (f := 15) rfl ?_); refine goesL_ (some 24) rfl rfl Try.func15 (by kernel_rfl) rfl #[.agg #[.int .i64 a0_0, .int .i64 a0_1, .bool a0_2, .bool a0_3, .int .i64 a0_4, .int .i64 a0_5, .int .i64 a0_6, .int .u32 a0_7, .int .u32 a0_8, .slice A0_9 l0_9.length c0_9, .slice A0_10 l0_10.length c0_10]] rfl (by (try simp only [List.map_toArray, List.map_cons, List.map_nil]); first | done | rfl | (simp only [List.length_drop, List.length_take]; rfl)) ?_; (with_reducible refine (ip_Build.calls a0_0 a0_1 a0_2 a0_3 a0_4 a0_5 a0_6 a0_7 a0_8 _ _ l0_9 _ _ l0_10 t291 t294 _ ?side1 ?side2 ?side3 ?side4 A15.out).mono ?_); (case side1 => repeat (first | exact (Kd.C_below HR0_9.out HB.out) | (with_reducible refine Kd.C_alloc ?_ _) | (with_reducible refine Kd.C_drewN ?_ _) | (with_reducible refine Kd.C_drew ?_))); (case side2 => exact HC0_9.out); (case side3 => repeat (first | exact (Kd.C_below HR0_10.out HB.out) | (with_reducible refine Kd.C_alloc ?_ _) | (with_reducible refine Kd.C_drewN ?_ _) | (with_reducible refine Kd.C_drew ?_))); (case side4 => exact HC0_10.out); rintro e w21 ⟨v292, rfl, ho0, hb⟩; refine ⟨_, rfl, ?_⟩; have n0_ := Aside0.mk (Kd.R_lower ho0 (below_size (by repeat (first | (with_reducible first | exact HB.out | apply below_alloc | apply pw_below_drewN | apply below_drew1 | refine below_set ?_ GE288.out) | exact HB.out)))); have n1_ := Aside0.mk (blk_below (g := gb288) (o := .cells #[.int .i64 a0_0, .int .i64 a0_1, .bool a0_2, .bool a0_3, .int .i64 a0_4, .int .i64 a0_5, .int .i64 a0_6, .int .u32 a0_7, .int .u32 a0_8, .slice A0_9 l0_9.length c0_9, .slice A0_10 l0_10.length c0_10] 25 (0, 0)) (by (with_reducible repeat (first | refine blk_drewN ?_ _ | refine blk_drew ?_ | refine blk_alloc ?_ _)); exact BK288.out) hb); have n2_ := Aside0.mk (below_step (by repeat (first | (with_reducible first | exact HB.out | apply below_alloc | apply pw_below_drewN | apply below_drew1 | refine below_set ?_ GE288.out) | exact HB.out)) hb); clear BK288; clear HB; have HO293 := n0_; have BK288 := n1_; have HB := n2_; clear n0_ n1_ n2_; (try clear hb); (try clear hb2); (try clear hk); (try clear hi); (try clear ho0); obtain ⟨Ao22, co22, eo22⟩ := Kd.R_slice HO293.out; subst eo22) | ((with_reducible refine gate_callee (f := 21) rfl ?_); refine goesL_ (some 33) rfl rfl Try.func21 (by kernel_rfl) rfl #[.slice Ao22 t291.length co22] rfl (by (try simp only [List.map_toArray, List.map_cons, List.map_nil]); first | done | rfl | (simp only [List.length_drop, List.length_take]; rfl)) ?_; (with_reducible refine (bailiwickref1_Copy.calls kj4 _ _ t291 t295 _ ?side1 ?side2 A17.out).mono ?_); (case side1 => repeat (first | exact (Kd.R_reads' HO293.out).2.2 | (with_reducible refine Kd.C_alloc ?_ _) | (with_reducible refine Kd.C_drewN ?_ _) | (with_reducible refine Kd.C_drew ?_))); (case side2 => exact (Kd.R_reads' HO293.out).2.1); rintro e w23 ⟨v296, rfl, ho0, hb⟩; refine ⟨_, rfl, ?_⟩; have n0_ := Aside0.mk (Kd.R_elder' (by (with_reducible repeat (first | apply Kd.R_alloc | apply Kd.R_drewN | apply Kd.R_drew)); exact HO293.out) (Kd.R_base ho0) hb); have n1_ := Aside0.mk (Kd.R_lower (Kd.R_new' ho0 (Kd.R_lt (by (with_reducible repeat (first | apply Kd.R_alloc | apply Kd.R_drewN | apply Kd.R_drew)); exact HO293.out))) (below_size (by repeat (first | (with_reducible first | exact HB.out | apply below_alloc | apply pw_below_drewN | apply below_drew1 | refine below_set ?_ GE288.out) | exact HB.out)))); have n2_ := Aside0.mk (blk_below (g := gb288) (o := .cells #[.int .i64 a0_0, .int .i64 a0_1, .bool a0_2, .bool a0_3, .int .i64 a0_4, .int .i64 a0_5, .int .i64 a0_6, .int .u32 a0_7, .int .u32 a0_8, .slice A0_9 l0_9.length c0_9, .slice A0_10 l0_10.length c0_10] 25 (0, 0)) (by (with_reducible repeat (first | refine blk_drewN ?_ _ | refine blk_drew ?_ | refine blk_alloc ?_ _)); exact BK288.out) hb); have n3_ := Aside0.mk (below_step (by repeat (first | (with_reducible first | exact HB.out | apply below_alloc | apply pw_below_drewN | apply below_drew1 | refine below_set ?_ GE288.out) | exact HB.out)) hb); clear HO293; clear BK288; clear HB; have HO293 := n0_; have HO297 := n1_; have BK288 := n2_; have HB := n3_; clear n0_ n1_ n2_ n3_; (try clear hb); (try clear hb2); (try clear hk); (try clear hi); (try clear ho0)) | ((with_reducible refine gate_builtin (b := .append) (xs := #[.tmp 33, .tmp 34]) rfl ?_); (try (refine gate_guard (by rfl) ?_; dsimp only)); at_builtin; refine Kd.R_append_rows (Kd.int .u8) (w0 := w) w.heap.size rfl (.tmp 33) (.tmp 34) 23 5 (.int .u8 0) 1 rfl Try.underlying23 info5 rfl (by decide) (by omega) v296 t295 l1 _ _ _ (fun k_ => some k_ ≠ (.slice Ao22 t291.length co22 : Value).ownBlock) (fun _ => False) rfl rfl ?aO ?aR (fun _ _ h => h) (fun _ h => h.elim) ?aF ?aB ?aS ?aL ?_; (case aR => repeat (first | exact (Kd.C_below HR1.out HB.out) | (with_reducible refine Kd.C_alloc ?_ _) | (with_reducible refine Kd.C_drewN ?_ _) | (with_reducible refine Kd.C_drew ?_))); (case aB => exact (by repeat (first | (with_reducible first | exact HB.out | apply below_alloc | apply pw_below_drewN | apply below_drew1 | refine below_set ?_ GE288.out) | exact HB.out))); (case aF => exact (fun k_ hk => Kd.fresh' (Kd.R_lt (by (with_reducible repeat (first | apply Kd.R_alloc | apply Kd.R_drewN | apply Kd.R_drew)); exact HO293.out)) k_ hk)); (case aO => exact (by (with_reducible repeat (first | apply Kd.R_alloc | apply Kd.R_drewN | apply Kd.R_drew)); exact Kd.R_mono HO297.out (fun _ hk => by first | exact hk.2 | exact fun e_ => hk.2 (e_.trans (own_len_ _ _ _ _ _))))); (case aS => exact (below_size (by repeat (first | (with_reducible first | exact HB.out | apply below_alloc | apply pw_below_drewN | apply below_drew1 | refine below_set ?_ GE288.out) | exact HB.out)))); (case aL => have := LMc18.out; omega); intro v299 w24 ho hb hg hat; rw [← Ny298.out] at ho; have n0_ := Aside0.mk (blk_grown (g := gb288) (o := .cells #[.int .i64 a0_0, .int .i64 a0_1, .bool a0_2, .bool a0_3, .int .i64 a0_4, .int .i64 a0_5, .int .i64 a0_6, .int .u32 a0_7, .int .u32 a0_8, .slice A0_9 l0_9.length c0_9, .slice A0_10 l0_10.length c0_10] 25 (0, 0)) (by (with_reducible repeat (first | refine blk_drewN ?_ _ | refine blk_drew ?_ | refine blk_alloc ?_ _)); exact BK288.out) hg (Kd.R_ne HO297.out BK288.out (by decide))); have n1_ := Aside0.mk (Kd.R_after (ok := (fun _ => True)) (by (with_reducible repeat (first | apply Kd.R_alloc | apply Kd.R_drewN | apply Kd.R_drew)); exact HO293.out) hg hat); have n2_ := Aside0.mk (hb); have n3_ := Aside0.mk (ho); clear BK288; clear HO293; clear HB; clear HO297; have BK288 := n0_; have HO293 := n1_; have HB := n2_; have HO300 := n3_; clear n0_ n1_ n2_ n3_; clear ho hb hg hat; obtain ⟨Ao25, co25, eo25⟩ := Kd.R_slice HO300.out; subst eo25))
              (try simp only [Act.put, List.setIfInBounds_toArray, List.set_cons_zero, List.set_cons_succ])
              go_cut [7] (fun v7 wc => ∃ (kq : Nat) (x7_18 : List Int), Aside0 (bailiwicklaw2_IpBack.j1 kq t291 x7_18 a0_0 a0_1 a0_2 a0_3 a0_4 a0_5 a0_6 a0_7 a0_8 l0_9 l0_10 = some r) ∧ Aside0 (kq ≤ kj4) ∧ Aside0 (Kd.R (Kd.int .u8) 5 wc w.heap.size (fun k_ => some k_ ≠ (v7 : Value).ownBlock) (.slice Ao22 t291.length co22) t291) ∧ Aside0 (Kd.R (Kd.int .u8) 5 wc w.heap.size (fun k_ => some k_ ≠ ((.slice Ao22 t291.length co22) : Value).ownBlock) v7 x7_18) ∧ Aside0 (wc.heap[gb288]? = some (.cells #[.int .i64 a0_0, .int .i64 a0_1, .bool a0_2, .bool a0_3, .int .i64 a0_4, .int .i64 a0_5, .int .i64 a0_6, .int .u32 a0_7, .int .u32 a0_8, (.slice A0_9 l0_9.length c0_9), (.slice A0_10 l0_10.length c0_10)] 25 (0, 0))) ∧ Aside0 (Below w.heap.size w wc))
              case first =>
                have H := HC19.out
                clear HC19
                by_cases c26 : (y298.length : Int) > 2048
                · rw [if_pos c26] at H
                  have c26b0 : decide (2048 < (y298.length : Int)) = true := decide_eq_true c26
                  have c26b1 : decide (2048 < y298.length) = true := decide_eq_true (by omega)
                  clear c26
                  (first | rw [c26b0] | (simp only [i64_w, i32_w]; rw [c26b0]) | skip)
                  by_cases c27 : 2048 ≤ (y298.length : Int)
                  · rw [if_pos c27] at H
                    have c27b0 := eq_true c27
                    have c27b1 : decide (2048 ≤ (y298.length : Int)) = true := decide_eq_true c27
                    clear c27
                    obtain ⟨y301, hy301⟩ : ∃ y_ : List Int, y_ = (y298.take (2048 : Int).toNat) := ⟨_, rfl⟩
                    replace H : (bailiwicklaw2_IpBack.j1 kj4 t291 y301 a0_0 a0_1 a0_2 a0_3 a0_4 a0_5 a0_6 a0_7 a0_8 l0_9 l0_10) = some r := by first | (rw [hy301]; with_reducible exact H) | (have H2_ := (Option.bind_some _ _).symm.trans H; rw [hy301]; with_reducible exact H2_) | (have H2_ := (Option.bind_some _ _).symm.trans H; with_reducible exact H2_) | with_reducible exact H | (rw [hy301]; exact H) | exact H
                    have Ny301 := Aside0.mk hy301
                    clear hy301
                    have H' := Aside0.mk H
                    clear H
                    have q28 : (2048 : Int) ≤ ((y298.length : Int) : Int) := of_decide_eq_true (by first | (with_reducible assumption) | assumption)
                    obtain ⟨i028, hi028, _, hsz28, _⟩ := info_parts info5
                    have hcut28 := cut_to (P := Try.prog) 23 5 .i64 Try.underlying23 hi028 Ao25 y298.length co25 2048 (by omega) q28 (Kd.R_reads' HO300.out).2.1
                    have hr28 := Kd.R_take (m := (2048 : Int).toNat) HO300.out (by omega)
                    have hy28 : y301.length = (2048 : Int).toNat := (by rw [Ny301.out, List.length_take]; omega)
                    rw [← Ny301.out] at hr28
                    rw [← hy28] at hr28 hcut28
                    clear hy28 hi028 hsz28 HO300
                    have HO303 := Aside0.mk hr28
                    clear hr28
                    replace q28 := eq_true q28
                    go_wp2
                    go_meet
                    case rel => exact ⟨_, (y301), H', ⟨by have := HJ4.out; first | omega | exact Nat.le_refl _⟩, ⟨by (with_reducible repeat (first | apply Kd.R_alloc | apply Kd.R_drewN | apply Kd.R_drew)); exact Kd.R_mono HO293.out (fun _ hk => by first | exact hk.2 | exact fun e_ => hk.2 (e_.trans (own_len_ _ _ _ _ _)))⟩, ⟨by (with_reducible repeat (first | apply Kd.R_alloc | apply Kd.R_drewN | apply Kd.R_drew)); exact HO303.out⟩, ⟨by (with_reducible repeat (first | refine blk_drewN ?_ _ | refine blk_drew ?_ | refine blk_alloc ?_ _)); exact BK288.out⟩, ⟨by repeat (first | (with_reducible first | exact HB.out | apply below_alloc | apply pw_below_drewN | apply below_drew1 | refine below_set ?_ GE288.out) | exact HB.out)⟩⟩
                  · rw [if_neg c27] at H
                    exact absurd H (by simp)
                · rw [if_neg c26] at H
                  have c26b0 : decide (2048 < (y298.length : Int)) = false := decide_eq_false c26
                  have c26b1 : decide (2048 < y298.length) = false := decide_eq_false (by omega)
                  clear c26
                  (first | rw [c26b0] | (simp only [i64_w, i32_w]; rw [c26b0]) | skip)
                  have H' := Aside0.mk H
                  clear H
                  go_wp2
                  go_meet
                  case rel => exact ⟨_, (y298), H', ⟨by have := HJ4.out; first | omega | exact Nat.le_refl _⟩, ⟨by (with_reducible repeat (first | apply Kd.R_alloc | apply Kd.R_drewN | apply Kd.R_drew)); exact Kd.R_mono HO293.out (fun _ hk => by first | exact hk.2 | exact fun e_ => hk.2 (e_.trans (own_len_ _ _ _ _ _)))⟩, ⟨by (with_reducible repeat (first | apply Kd.R_alloc | apply Kd.R_drewN | apply Kd.R_drew)); exact HO300.out⟩, ⟨by (with_reducible repeat (first | refine blk_drewN ?_ _ | refine blk_drew ?_ | refine blk_alloc ?_ _)); exact BK288.out⟩, ⟨by repeat (first | (with_reducible first | exact HB.out | apply below_alloc | apply pw_below_drewN | apply below_drew1 | refine below_set ?_ GE288.out) | exact HB.out)⟩⟩
              case rest =>
                clear HC19
                try clear c1
                try clear c2
                try clear p2
                try clear q2
                try clear c4
                try clear c5
                try clear c9
                try clear c13
                try clear c14
                try clear c15
                try clear c16
                try clear c16b0
                try clear c16b1
                try clear c18
                try clear c21
                try clear c26
                try clear c26b0
                try clear c26b1
                try clear c27
                try clear c27b0
                try clear c27b1
                try clear q28
                try clear hcz10_0
                try clear hcz10_1
                try clear hcz10_10
                try clear hcz10_2
                try clear hcz10_3
                try clear hcz10_4
                try clear hcz10_5
                try clear hcz10_6
                try clear hcz10_7
                try clear hcz10_8
                try clear hcz10_9
                try clear hcz12_0
                try clear hcz12_1
                try clear hcz12_10
                try clear hcz12_2
                try clear hcz12_3
                try clear hcz12_4
                try clear hcz12_5
                try clear hcz12_6
                try clear hcz12_7
                try clear hcz12_8
                try clear hcz12_9
                try clear hcz20_0
                try clear hcz20_1
                try clear hcz20_10
                try clear hcz20_2
                try clear hcz20_3
                try clear hcz20_4
                try clear hcz20_5
                try clear hcz20_6
                try clear hcz20_7
                try clear hcz20_8
                try clear hcz20_9
                try clear hfz10_0
                try clear hfz10_1
                try clear hfz10_10
                try clear hfz10_2
                try clear hfz10_3
                try clear hfz10_4
                try clear hfz10_5
                try clear hfz10_6
                try clear hfz10_7
                try clear hfz10_8
                try clear hfz10_9
                try clear hfz12_0
                try clear hfz12_1
                try clear hfz12_10
                try clear hfz12_2
                try clear hfz12_3
                try clear hfz12_4
                try clear hfz12_5
                try clear hfz12_6
                try clear hfz12_7
                try clear hfz12_8
                try clear hfz12_9
                try clear hfz20_0
                try clear hfz20_1
                try clear hfz20_10
                try clear hfz20_2
                try clear hfz20_3
                try clear hfz20_4
                try clear hfz20_5
                try clear hfz20_6
                try clear hfz20_7
                try clear hfz20_8
                try clear hfz20_9
                try clear p2
                try clear q28
                obtain ⟨kq, x7_18, HA, HJ18, HO_5, HO_7, BK288, HB⟩ := hcut
                cases kq with
                | zero => exact absurd HA.out (by simp [bailiwicklaw2_IpBack.j1])
                | succ kj18 =>
                  have H := HA.out
                  clear HA
                  simp only [bailiwicklaw2_IpBack.j1] at H
                  replace H := Option.bind_eq_some_iff.mp H
                  obtain ⟨⟨t304, t305, t306, t307, t308, t309, t310, t311, t312, t313, t316, t319⟩, A290, H⟩ := H
                  replace H : ((ip_Build.f t304 t305 t306 t307 t308 t309 t310 t311 t312 t313 t316).bind fun bt321 => (if t319 = 0 then (if bt321.2 = 0 then ((bailiwickref2_Same.f kj18 a0_0 a0_1 a0_2 a0_3 a0_4 a0_5 a0_6 a0_7 a0_8 l0_9 l0_10 t304 t305 t306 t307 t308 t309 t310 t311 t312 t313 t316).bind fun t325 => (if t325 = true then ((bailiwickref1_Same.f kj18 t291 bt321.1).bind fun t326 => (some t326)) else (some false))) else (some false)) else (some false))) = some r := H
                  have A29 := Aside0.mk A290
                  clear A290
                  replace H := Option.bind_eq_some_iff.mp H
                  obtain ⟨⟨t321, t324⟩, A300, H⟩ := H
                  replace H : (if t319 = 0 then (if t324 = 0 then ((bailiwickref2_Same.f kj18 a0_0 a0_1 a0_2 a0_3 a0_4 a0_5 a0_6 a0_7 a0_8 l0_9 l0_10 t304 t305 t306 t307 t308 t309 t310 t311 t312 t313 t316).bind fun t325 => (if t325 = true then ((bailiwickref1_Same.f kj18 t291 t321).bind fun t326 => (some t326)) else (some false))) else (some false)) else (some false)) = some r := H
                  have A30 := Aside0.mk A300
                  clear A300
                  by_cases c31 : t319 = 0
                  · rw [if_pos c31] at H
                    have c31b0 : (t319 == 0) = true := beq_iff_eq.mpr c31
                    have c31b1 : (t319 != 0) = false := bne_eq_false_iff_eq.mpr c31
                    clear c31
                    by_cases c32 : t324 = 0
                    · rw [if_pos c32] at H
                      have c32b0 : (t324 == 0) = true := beq_iff_eq.mpr c32
                      have c32b1 : (t324 != 0) = false := bne_eq_false_iff_eq.mpr c32
                      clear c32
                      replace H := Option.bind_eq_some_iff.mp H
                      obtain ⟨t325, A330, H⟩ := H
                      replace H : (if t325 = true then ((bailiwickref1_Same.f kj18 t291 t321).bind fun t326 => (some t326)) else (some false)) = some r := H
                      have A33 := Aside0.mk A330
                      clear A330
                      by_cases c34 : t325 = true
                      · subst c34
                        have H1 : ((bailiwickref1_Same.f kj18 t291 t321).bind fun t326 => (some t326)) = some r := by rw [if_pos rfl] at H; exact H
                        clear H
                        have H := H1
                        clear H1
                        replace H := Option.bind_eq_some_iff.mp H
                        obtain ⟨t326, A350, H⟩ := H
                        replace H : (some t326) = some r := H
                        have A35 := Aside0.mk A350
                        clear A350
                        obtain rfl := Option.some.inj H
                        obtain ⟨Ao36, co36, eo36⟩ := Kd.R_slice HO_7.out
                        subst eo36
                        go_wp2_with (first | ((with_reducible refine gate_callee (f := 18) rfl ?_); refine goesL_ (some 43) rfl rfl Try.func18 (by kernel_rfl) rfl #[.slice Ao36 x7_18.length co36] rfl (by (try simp only [List.map_toArray, List.map_cons, List.map_nil]); first | done | rfl | (simp only [List.length_drop, List.length_take]; rfl)) ?_; (with_reducible refine (ip_Parse.calls _ _ x7_18 t304 t305 t306 t307 t308 t309 t310 t311 t312 t313 t316 t319 _ ?side1 ?side2 A29.out).mono ?_); (case side1 => repeat (first | exact (Kd.R_reads' HO_7.out).2.2 | (with_reducible refine Kd.C_alloc ?_ _) | (with_reducible refine Kd.C_drewN ?_ _) | (with_reducible refine Kd.C_drew ?_))); (case side2 => exact (Kd.R_reads' HO_7.out).2.1); rintro e w37 ⟨v314, v317, rfl, ho0, ho1, hb⟩; refine ⟨_, rfl, ?_⟩; have n0_ := Aside0.mk (Kd.R_mono (Kd.R_told (Kd.R_told (Kd.R_old (by (with_reducible repeat (first | apply Kd.R_alloc | apply Kd.R_drewN | apply Kd.R_drew)); exact HO_5.out) hb) (Kd.R_base ho0)) (Kd.R_base ho1)) (fun _ h_ => h_.1)); have n1_ := Aside0.mk (Kd.R_mono (Kd.R_told (Kd.R_told (Kd.R_old (by (with_reducible repeat (first | apply Kd.R_alloc | apply Kd.R_drewN | apply Kd.R_drew)); exact HO_7.out) hb) (Kd.R_base ho0)) (Kd.R_base ho1)) (fun _ h_ => h_.1)); have n2_ := Aside0.mk (Kd.R_lower (Kd.R_new' (Kd.R_new' ho0 (Kd.R_lt (by (with_reducible repeat (first | apply Kd.R_alloc | apply Kd.R_drewN | apply Kd.R_drew)); exact HO_5.out))) (Kd.R_lt (by (with_reducible repeat (first | apply Kd.R_alloc | apply Kd.R_drewN | apply Kd.R_drew)); exact HO_7.out))) (below_size (by repeat (first | (with_reducible first | exact HB.out | apply below_alloc | apply pw_below_drewN | apply below_drew1 | refine below_set ?_ GE288.out) | exact HB.out)))); have n3_ := Aside0.mk (Kd.R_lower (Kd.R_new' (Kd.R_new' ho1 (Kd.R_lt (by (with_reducible repeat (first | apply Kd.R_alloc | apply Kd.R_drewN | apply Kd.R_drew)); exact HO_5.out))) (Kd.R_lt (by (with_reducible repeat (first | apply Kd.R_alloc | apply Kd.R_drewN | apply Kd.R_drew)); exact HO_7.out))) (below_size (by repeat (first | (with_reducible first | exact HB.out | apply below_alloc | apply pw_below_drewN | apply below_drew1 | refine below_set ?_ GE288.out) | exact HB.out)))); have n4_ := Aside0.mk (blk_below (g := gb288) (o := .cells #[.int .i64 a0_0, .int .i64 a0_1, .bool a0_2, .bool a0_3, .int .i64 a0_4, .int .i64 a0_5, .int .i64 a0_6, .int .u32 a0_7, .int .u32 a0_8, .slice A0_9 l0_9.length c0_9, .slice A0_10 l0_10.length c0_10] 25 (0, 0)) (by (with_reducible repeat (first | refine blk_drewN ?_ _ | refine blk_drew ?_ | refine blk_alloc ?_ _)); exact BK288.out) hb); have n5_ := Aside0.mk (below_step (by repeat (first | (with_reducible first | exact HB.out | apply below_alloc | apply pw_below_drewN | apply below_drew1 | refine below_set ?_ GE288.out) | exact HB.out)) hb); clear HO_5; clear HO_7; clear BK288; clear HB; have HO_5 := n0_; have HO_7 := n1_; have HO315 := n2_; have HO318 := n3_; have BK288 := n4_; have HB := n5_; clear n0_ n1_ n2_ n3_ n4_ n5_; (try clear hb); (try clear hb2); (try clear hk); (try clear hi); (try clear ho0); (try clear ho1)) | ((with_reducible refine gate_dst (N := 8) rfl ?_); (try (refine gate_guard (by rfl) ?_; dsimp only)); refine box_event ?hg (N := 8) ?hd (cs := #[.int .i64 0, .int .i64 0, .bool false, .bool false, .int .i64 0, .int .i64 0, .int .i64 0, .int .u32 0, .int .u32 0, .slice none 0 0, .slice none 0 0]) (t := 25) ?hr ?_; (case hd => rfl); (case hg => rfl); (case hr => first | (go_simp; done) | (go_simp; rfl)); intro gb320 hg w38 hbox hb; have n0_ := Aside0.mk (Kd.R_below (by (with_reducible repeat (first | apply Kd.R_alloc | apply Kd.R_drewN | apply Kd.R_drew)); exact HO_5.out) hb); have n1_ := Aside0.mk (Kd.R_below (by (with_reducible repeat (first | apply Kd.R_alloc | apply Kd.R_drewN | apply Kd.R_drew)); exact HO_7.out) hb); have n2_ := Aside0.mk (Kd.R_below (by (with_reducible repeat (first | apply Kd.R_alloc | apply Kd.R_drewN | apply Kd.R_drew)); exact HO315.out) hb); have n3_ := Aside0.mk (Kd.R_below (by (with_reducible repeat (first | apply Kd.R_alloc | apply Kd.R_drewN | apply Kd.R_drew)); exact HO318.out) hb); have n4_ := Aside0.mk (blk_below (g := gb288) (o := .cells #[.int .i64 a0_0, .int .i64 a0_1, .bool a0_2, .bool a0_3, .int .i64 a0_4, .int .i64 a0_5, .int .i64 a0_6, .int .u32 a0_7, .int .u32 a0_8, .slice A0_9 l0_9.length c0_9, .slice A0_10 l0_10.length c0_10] 25 (0, 0)) (by (with_reducible repeat (first | refine blk_drewN ?_ _ | refine blk_drew ?_ | refine blk_alloc ?_ _)); exact BK288.out) hb); have n5_ := Aside0.mk (below_step (by repeat (first | (with_reducible first | exact HB.out | apply below_alloc | apply pw_below_drewN | apply below_drew1 | refine below_set ?_ GE288.out) | exact HB.out)) hb); have n6_ := Aside0.mk (hbox); have n7_ := Aside0.mk ((by rw [hg]; exact (below_size (by repeat (first | (with_reducible first | exact HB.out | apply below_alloc | apply pw_below_drewN | apply below_drew1 | refine below_set ?_ GE288.out) | exact HB.out))) : w.heap.size ≤ gb320)); have n8_ := Aside0.mk ((by rw [hg]; exact (below_size (by repeat (first | (with_reducible first | exact HB.out | apply below_alloc | apply pw_below_drewN | apply below_drew1 | refine below_set ?_ GE288.out) | exact HB.out))) : w.heap.size ≤ gb320)); have n9_ := Aside0.mk ((by rw [hg]; exact Nat.ne_of_lt (blk_lt (g := gb288) (o := .cells #[.int .i64 a0_0, .int .i64 a0_1, .bool a0_2, .bool a0_3, .int .i64 a0_4, .int .i64 a0_5, .int .i64 a0_6, .int .u32 a0_7, .int .u32 a0_8, .slice A0_9 l0_9.length c0_9, .slice A0_10 l0_10.length c0_10] 25 (0, 0)) (by (with_reducible repeat (first | refine blk_drewN ?_ _ | refine blk_drew ?_ | refine blk_alloc ?_ _)); exact BK288.out)) : gb288 ≠ gb320)); have n10_ := Aside0.mk ((by rw [hg]; exact Nat.ne_of_gt (blk_lt (g := gb288) (o := .cells #[.int .i64 a0_0, .int .i64 a0_1, .bool a0_2, .bool a0_3, .int .i64 a0_4, .int .i64 a0_5, .int .i64 a0_6, .int .u32 a0_7, .int .u32 a0_8, .slice A0_9 l0_9.length c0_9, .slice A0_10 l0_10.length c0_10] 25 (0, 0)) (by (with_reducible repeat (first | refine blk_drewN ?_ _ | refine blk_drew ?_ | refine blk_alloc ?_ _)); exact BK288.out)) : gb320 ≠ gb288)); clear HO_5; clear HO_7; clear HO315; clear HO318; clear BK288; clear HB; have HO_5 := n0_; have HO_7 := n1_; have HO315 := n2_; have HO318 := n3_; have BK288 := n4_; have HB := n5_; have BK320 := n6_; have GW320 := n7_; have GE320 := n8_; have NB288_320 := n9_; have NB320_288 := n10_; clear n0_ n1_ n2_ n3_ n4_ n5_ n6_ n7_ n8_ n9_ n10_; clear hb hbox hg; have hnb39 := NB320_288.out; have hnc39 := NB288_320.out; have hcz40_0 : w38.cell? ⟨gb320, 0, none⟩ = some (.int .i64 0) := (blk_cell BK320.out 0).trans rfl; have hcz40_1 : w38.cell? ⟨gb320, 1, none⟩ = some (.int .i64 0) := (blk_cell BK320.out 1).trans rfl; have hcz40_2 : w38.cell? ⟨gb320, 2, none⟩ = some (.bool false) := (blk_cell BK320.out 2).trans rfl; have hcz40_3 : w38.cell? ⟨gb320, 3, none⟩ = some (.bool false) := (blk_cell BK320.out 3).trans rfl; have hcz40_4 : w38.cell? ⟨gb320, 4, none⟩ = some (.int .i64 0) := (blk_cell BK320.out 4).trans rfl; have hcz40_5 : w38.cell? ⟨gb320, 5, none⟩ = some (.int .i64 0) := (blk_cell BK320.out 5).trans rfl; have hcz40_6 : w38.cell? ⟨gb320, 6, none⟩ = some (.int .i64 0) := (blk_cell BK320.out 6).trans rfl; have hcz40_7 : w38.cell? ⟨gb320, 7, none⟩ = some (.int .u32 0) := (blk_cell BK320.out 7).trans rfl; have hcz40_8 : w38.cell? ⟨gb320, 8, none⟩ = some (.int .u32 0) := (blk_cell BK320.out 8).trans rfl; have hcz40_9 : w38.cell? ⟨gb320, 9, none⟩ = some (.slice none 0 0) := (blk_cell BK320.out 9).trans rfl; have hcz40_10 : w38.cell? ⟨gb320, 10, none⟩ = some (.slice none 0 0) := (blk_cell BK320.out 10).trans rfl; have hfz40_0 := blk_frozen BK320.out 0; have hfz40_1 := blk_frozen BK320.out 1; have hfz40_2 := blk_frozen BK320.out 2; have hfz40_3 := blk_frozen BK320.out 3; have hfz40_4 := blk_frozen BK320.out 4; have hfz40_5 := blk_frozen BK320.out 5; have hfz40_6 := blk_frozen BK320.out 6; have hfz40_7 := blk_frozen BK320.out 7; have hfz40_8 := blk_frozen BK320.out 8; have hfz40_9 := blk_frozen BK320.out 9; have hfz40_10 := blk_frozen BK320.out 10; obtain ⟨Ao41, co41, eo41⟩ := Kd.R_slice HO315.out; subst eo41; obtain ⟨Ao42, co42, eo42⟩ := Kd.R_slice HO318.out; subst eo42) | ((with_reducible refine gate_callee (f := 15) rfl ?_); refine goesL_ (some 48) rfl rfl Try.func15 (by kernel_rfl) rfl #[.agg #[.int .i64 t304, .int .i64 t305, .bool t306, .bool t307, .int .i64 t308, .int .i64 t309, .int .i64 t310, .int .u32 t311, .int .u32 t312, .slice Ao41 t313.length co41, .slice Ao42 t316.length co42]] rfl (by (try simp only [List.map_toArray, List.map_cons, List.map_nil]); first | done | rfl | (simp only [List.length_drop, List.length_take]; rfl)) ?_; (with_reducible refine (ip_Build.calls t304 t305 t306 t307 t308 t309 t310 t311 t312 _ _ t313 _ _ t316 t321 t324 _ ?side1 ?side2 ?side3 ?side4 A30.out).mono ?_); (case side1 => refine (Kd.R_reads' (e := 5) (base := w.heap.size) (ok := fun k_ => ((some k_ ≠ (.slice Ao42 t316.length co42 : Value).ownBlock ∧ some k_ ≠ (.slice Ao22 t291.length co22 : Value).ownBlock) ∧ some k_ ≠ (.slice Ao36 x7_18.length co36 : Value).ownBlock)) (n := t313.length) (c := co41) ?_).2.2; exact (by (with_reducible repeat (first | apply Kd.R_alloc | apply Kd.R_drewN | apply Kd.R_drew)); exact (Kd.R_mono (Kd.R_far (p := ⟨gb320, 10, none⟩) (Kd.R_far (p := ⟨gb320, 9, none⟩) (Kd.R_far (p := ⟨gb320, 8, none⟩) (Kd.R_far (p := ⟨gb320, 7, none⟩) (Kd.R_far (p := ⟨gb320, 6, none⟩) (Kd.R_far (p := ⟨gb320, 5, none⟩) (Kd.R_far (p := ⟨gb320, 4, none⟩) (Kd.R_far (p := ⟨gb320, 3, none⟩) (Kd.R_far (p := ⟨gb320, 2, none⟩) (Kd.R_far (p := ⟨gb320, 1, none⟩) (Kd.R_far (p := ⟨gb320, 0, none⟩) (Kd.R_types HO315.out BK320.out (by decide)) (fun _ hk => hk.2) (.int .i64 t304)) (fun _ hk => hk.2) (.int .i64 t305)) (fun _ hk => hk.2) (.bool t306)) (fun _ hk => hk.2) (.bool t307)) (fun _ hk => hk.2) (.int .i64 t308)) (fun _ hk => hk.2) (.int .i64 t309)) (fun _ hk => hk.2) (.int .i64 t310)) (fun _ hk => hk.2) (.int .u32 t311)) (fun _ hk => hk.2) (.int .u32 t312)) (fun _ hk => hk.2) (.slice Ao41 t313.length co41)) (fun _ hk => hk.2) (.slice Ao42 t316.length co42)) (fun _ h_ => h_.1)))); (case side2 => exact (Kd.R_reads' HO315.out).2.1); (case side3 => refine (Kd.R_reads' (e := 5) (base := w.heap.size) (ok := fun k_ => ((some k_ ≠ (.slice Ao41 t313.length co41 : Value).ownBlock ∧ some k_ ≠ (.slice Ao22 t291.length co22 : Value).ownBlock) ∧ some k_ ≠ (.slice Ao36 x7_18.length co36 : Value).ownBlock)) (n := t316.length) (c := co42) ?_).2.2; exact (by (with_reducible repeat (first | apply Kd.R_alloc | apply Kd.R_drewN | apply Kd.R_drew)); exact (Kd.R_mono (Kd.R_far (p := ⟨gb320, 10, none⟩) (Kd.R_far (p := ⟨gb320, 9, none⟩) (Kd.R_far (p := ⟨gb320, 8, none⟩) (Kd.R_far (p := ⟨gb320, 7, none⟩) (Kd.R_far (p := ⟨gb320, 6, none⟩) (Kd.R_far (p := ⟨gb320, 5, none⟩) (Kd.R_far (p := ⟨gb320, 4, none⟩) (Kd.R_far (p := ⟨gb320, 3, none⟩) (Kd.R_far (p := ⟨gb320, 2, none⟩) (Kd.R_far (p := ⟨gb320, 1, none⟩) (Kd.R_far (p := ⟨gb320, 0, none⟩) (Kd.R_types HO318.out BK320.out (by decide)) (fun _ hk => hk.2) (.int .i64 t304)) (fun _ hk => hk.2) (.int .i64 t305)) (fun _ hk => hk.2) (.bool t306)) (fun _ hk => hk.2) (.bool t307)) (fun _ hk => hk.2) (.int .i64 t308)) (fun _ hk => hk.2) (.int .i64 t309)) (fun _ hk => hk.2) (.int .i64 t310)) (fun _ hk => hk.2) (.int .u32 t311)) (fun _ hk => hk.2) (.int .u32 t312)) (fun _ hk => hk.2) (.slice Ao41 t313.length co41)) (fun _ hk => hk.2) (.slice Ao42 t316.length co42)) (fun _ h_ => h_.1)))); (case side4 => exact (Kd.R_reads' HO318.out).2.1); rintro e w43 ⟨v322, rfl, ho0, hb⟩; refine ⟨_, rfl, ?_⟩; have n0_ := Aside0.mk (Kd.R_elder' (by (with_reducible repeat (first | apply Kd.R_alloc | apply Kd.R_drewN | apply Kd.R_drew)); exact (Kd.R_mono (Kd.R_far (p := ⟨gb320, 10, none⟩) (Kd.R_far (p := ⟨gb320, 9, none⟩) (Kd.R_far (p := ⟨gb320, 8, none⟩) (Kd.R_far (p := ⟨gb320, 7, none⟩) (Kd.R_far (p := ⟨gb320, 6, none⟩) (Kd.R_far (p := ⟨gb320, 5, none⟩) (Kd.R_far (p := ⟨gb320, 4, none⟩) (Kd.R_far (p := ⟨gb320, 3, none⟩) (Kd.R_far (p := ⟨gb320, 2, none⟩) (Kd.R_far (p := ⟨gb320, 1, none⟩) (Kd.R_far (p := ⟨gb320, 0, none⟩) (Kd.R_types HO_5.out BK320.out (by decide)) (fun _ hk => hk.2) (.int .i64 t304)) (fun _ hk => hk.2) (.int .i64 t305)) (fun _ hk => hk.2) (.bool t306)) (fun _ hk => hk.2) (.bool t307)) (fun _ hk => hk.2) (.int .i64 t308)) (fun _ hk => hk.2) (.int .i64 t309)) (fun _ hk => hk.2) (.int .i64 t310)) (fun _ hk => hk.2) (.int .u32 t311)) (fun _ hk => hk.2) (.int .u32 t312)) (fun _ hk => hk.2) (.slice Ao41 t313.length co41)) (fun _ hk => hk.2) (.slice Ao42 t316.length co42)) (fun _ h_ => h_.1))) (Kd.R_base ho0) hb); have n1_ := Aside0.mk (Kd.R_elder' (by (with_reducible repeat (first | apply Kd.R_alloc | apply Kd.R_drewN | apply Kd.R_drew)); exact (Kd.R_mono (Kd.R_far (p := ⟨gb320, 10, none⟩) (Kd.R_far (p := ⟨gb320, 9, none⟩) (Kd.R_far (p := ⟨gb320, 8, none⟩) (Kd.R_far (p := ⟨gb320, 7, none⟩) (Kd.R_far (p := ⟨gb320, 6, none⟩) (Kd.R_far (p := ⟨gb320, 5, none⟩) (Kd.R_far (p := ⟨gb320, 4, none⟩) (Kd.R_far (p := ⟨gb320, 3, none⟩) (Kd.R_far (p := ⟨gb320, 2, none⟩) (Kd.R_far (p := ⟨gb320, 1, none⟩) (Kd.R_far (p := ⟨gb320, 0, none⟩) (Kd.R_types HO_7.out BK320.out (by decide)) (fun _ hk => hk.2) (.int .i64 t304)) (fun _ hk => hk.2) (.int .i64 t305)) (fun _ hk => hk.2) (.bool t306)) (fun _ hk => hk.2) (.bool t307)) (fun _ hk => hk.2) (.int .i64 t308)) (fun _ hk => hk.2) (.int .i64 t309)) (fun _ hk => hk.2) (.int .i64 t310)) (fun _ hk => hk.2) (.int .u32 t311)) (fun _ hk => hk.2) (.int .u32 t312)) (fun _ hk => hk.2) (.slice Ao41 t313.length co41)) (fun _ hk => hk.2) (.slice Ao42 t316.length co42)) (fun _ h_ => h_.1))) (Kd.R_base ho0) hb); have n2_ := Aside0.mk (Kd.R_elder' (by (with_reducible repeat (first | apply Kd.R_alloc | apply Kd.R_drewN | apply Kd.R_drew)); exact (Kd.R_mono (Kd.R_far (p := ⟨gb320, 10, none⟩) (Kd.R_far (p := ⟨gb320, 9, none⟩) (Kd.R_far (p := ⟨gb320, 8, none⟩) (Kd.R_far (p := ⟨gb320, 7, none⟩) (Kd.R_far (p := ⟨gb320, 6, none⟩) (Kd.R_far (p := ⟨gb320, 5, none⟩) (Kd.R_far (p := ⟨gb320, 4, none⟩) (Kd.R_far (p := ⟨gb320, 3, none⟩) (Kd.R_far (p := ⟨gb320, 2, none⟩) (Kd.R_far (p := ⟨gb320, 1, none⟩) (Kd.R_far (p := ⟨gb320, 0, none⟩) (Kd.R_types HO315.out BK320.out (by decide)) (fun _ hk => hk.2) (.int .i64 t304)) (fun _ hk => hk.2) (.int .i64 t305)) (fun _ hk => hk.2) (.bool t306)) (fun _ hk => hk.2) (.bool t307)) (fun _ hk => hk.2) (.int .i64 t308)) (fun _ hk => hk.2) (.int .i64 t309)) (fun _ hk => hk.2) (.int .i64 t310)) (fun _ hk => hk.2) (.int .u32 t311)) (fun _ hk => hk.2) (.int .u32 t312)) (fun _ hk => hk.2) (.slice Ao41 t313.length co41)) (fun _ hk => hk.2) (.slice Ao42 t316.length co42)) (fun _ h_ => h_.1))) (Kd.R_base ho0) hb); have n3_ := Aside0.mk (Kd.R_elder' (by (with_reducible repeat (first | apply Kd.R_alloc | apply Kd.R_drewN | apply Kd.R_drew)); exact (Kd.R_mono (Kd.R_far (p := ⟨gb320, 10, none⟩) (Kd.R_far (p := ⟨gb320, 9, none⟩) (Kd.R_far (p := ⟨gb320, 8, none⟩) (Kd.R_far (p := ⟨gb320, 7, none⟩) (Kd.R_far (p := ⟨gb320, 6, none⟩) (Kd.R_far (p := ⟨gb320, 5, none⟩) (Kd.R_far (p := ⟨gb320, 4, none⟩) (Kd.R_far (p := ⟨gb320, 3, none⟩) (Kd.R_far (p := ⟨gb320, 2, none⟩) (Kd.R_far (p := ⟨gb320, 1, none⟩) (Kd.R_far (p := ⟨gb320, 0, none⟩) (Kd.R_types HO318.out BK320.out (by decide)) (fun _ hk => hk.2) (.int .i64 t304)) (fun _ hk => hk.2) (.int .i64 t305)) (fun _ hk => hk.2) (.bool t306)) (fun _ hk => hk.2) (.bool t307)) (fun _ hk => hk.2) (.int .i64 t308)) (fun _ hk => hk.2) (.int .i64 t309)) (fun _ hk => hk.2) (.int .i64 t310)) (fun _ hk => hk.2) (.int .u32 t311)) (fun _ hk => hk.2) (.int .u32 t312)) (fun _ hk => hk.2) (.slice Ao41 t313.length co41)) (fun _ hk => hk.2) (.slice Ao42 t316.length co42)) (fun _ h_ => h_.1))) (Kd.R_base ho0) hb); have n4_ := Aside0.mk (Kd.R_lower (Kd.R_new' (Kd.R_new' (Kd.R_new' (Kd.R_new' ho0 (Kd.R_lt (by (with_reducible repeat (first | apply Kd.R_alloc | apply Kd.R_drewN | apply Kd.R_drew)); exact (Kd.R_mono (Kd.R_far (p := ⟨gb320, 10, none⟩) (Kd.R_far (p := ⟨gb320, 9, none⟩) (Kd.R_far (p := ⟨gb320, 8, none⟩) (Kd.R_far (p := ⟨gb320, 7, none⟩) (Kd.R_far (p := ⟨gb320, 6, none⟩) (Kd.R_far (p := ⟨gb320, 5, none⟩) (Kd.R_far (p := ⟨gb320, 4, none⟩) (Kd.R_far (p := ⟨gb320, 3, none⟩) (Kd.R_far (p := ⟨gb320, 2, none⟩) (Kd.R_far (p := ⟨gb320, 1, none⟩) (Kd.R_far (p := ⟨gb320, 0, none⟩) (Kd.R_types HO_5.out BK320.out (by decide)) (fun _ hk => hk.2) (.int .i64 t304)) (fun _ hk => hk.2) (.int .i64 t305)) (fun _ hk => hk.2) (.bool t306)) (fun _ hk => hk.2) (.bool t307)) (fun _ hk => hk.2) (.int .i64 t308)) (fun _ hk => hk.2) (.int .i64 t309)) (fun _ hk => hk.2) (.int .i64 t310)) (fun _ hk => hk.2) (.int .u32 t311)) (fun _ hk => hk.2) (.int .u32 t312)) (fun _ hk => hk.2) (.slice Ao41 t313.length co41)) (fun _ hk => hk.2) (.slice Ao42 t316.length co42)) (fun _ h_ => h_.1))))) (Kd.R_lt (by (with_reducible repeat (first | apply Kd.R_alloc | apply Kd.R_drewN | apply Kd.R_drew)); exact (Kd.R_mono (Kd.R_far (p := ⟨gb320, 10, none⟩) (Kd.R_far (p := ⟨gb320, 9, none⟩) (Kd.R_far (p := ⟨gb320, 8, none⟩) (Kd.R_far (p := ⟨gb320, 7, none⟩) (Kd.R_far (p := ⟨gb320, 6, none⟩) (Kd.R_far (p := ⟨gb320, 5, none⟩) (Kd.R_far (p := ⟨gb320, 4, none⟩) (Kd.R_far (p := ⟨gb320, 3, none⟩) (Kd.R_far (p := ⟨gb320, 2, none⟩) (Kd.R_far (p := ⟨gb320, 1, none⟩) (Kd.R_far (p := ⟨gb320, 0, none⟩) (Kd.R_types HO_7.out BK320.out (by decide)) (fun _ hk => hk.2) (.int .i64 t304)) (fun _ hk => hk.2) (.int .i64 t305)) (fun _ hk => hk.2) (.bool t306)) (fun _ hk => hk.2) (.bool t307)) (fun _ hk => hk.2) (.int .i64 t308)) (fun _ hk => hk.2) (.int .i64 t309)) (fun _ hk => hk.2) (.int .i64 t310)) (fun _ hk => hk.2) (.int .u32 t311)) (fun _ hk => hk.2) (.int .u32 t312)) (fun _ hk => hk.2) (.slice Ao41 t313.length co41)) (fun _ hk => hk.2) (.slice Ao42 t316.length co42)) (fun _ h_ => h_.1))))) (Kd.R_lt (by (with_reducible repeat (first | apply Kd.R_alloc | apply Kd.R_drewN | apply Kd.R_drew)); exact (Kd.R_mono (Kd.R_far (p := ⟨gb320, 10, none⟩) (Kd.R_far (p := ⟨gb320, 9, none⟩) (Kd.R_far (p := ⟨gb320, 8, none⟩) (Kd.R_far (p := ⟨gb320, 7, none⟩) (Kd.R_far (p := ⟨gb320, 6, none⟩) (Kd.R_far (p := ⟨gb320, 5, none⟩) (Kd.R_far (p := ⟨gb320, 4, none⟩) (Kd.R_far (p := ⟨gb320, 3, none⟩) (Kd.R_far (p := ⟨gb320, 2, none⟩) (Kd.R_far (p := ⟨gb320, 1, none⟩) (Kd.R_far (p := ⟨gb320, 0, none⟩) (Kd.R_types HO315.out BK320.out (by decide)) (fun _ hk => hk.2) (.int .i64 t304)) (fun _ hk => hk.2) (.int .i64 t305)) (fun _ hk => hk.2) (.bool t306)) (fun _ hk => hk.2) (.bool t307)) (fun _ hk => hk.2) (.int .i64 t308)) (fun _ hk => hk.2) (.int .i64 t309)) (fun _ hk => hk.2) (.int .i64 t310)) (fun _ hk => hk.2) (.int .u32 t311)) (fun _ hk => hk.2) (.int .u32 t312)) (fun _ hk => hk.2) (.slice Ao41 t313.length co41)) (fun _ hk => hk.2) (.slice Ao42 t316.length co42)) (fun _ h_ => h_.1))))) (Kd.R_lt (by (with_reducible repeat (first | apply Kd.R_alloc | apply Kd.R_drewN | apply Kd.R_drew)); exact (Kd.R_mono (Kd.R_far (p := ⟨gb320, 10, none⟩) (Kd.R_far (p := ⟨gb320, 9, none⟩) (Kd.R_far (p := ⟨gb320, 8, none⟩) (Kd.R_far (p := ⟨gb320, 7, none⟩) (Kd.R_far (p := ⟨gb320, 6, none⟩) (Kd.R_far (p := ⟨gb320, 5, none⟩) (Kd.R_far (p := ⟨gb320, 4, none⟩) (Kd.R_far (p := ⟨gb320, 3, none⟩) (Kd.R_far (p := ⟨gb320, 2, none⟩) (Kd.R_far (p := ⟨gb320, 1, none⟩) (Kd.R_far (p := ⟨gb320, 0, none⟩) (Kd.R_types HO318.out BK320.out (by decide)) (fun _ hk => hk.2) (.int .i64 t304)) (fun _ hk => hk.2) (.int .i64 t305)) (fun _ hk => hk.2) (.bool t306)) (fun _ hk => hk.2) (.bool t307)) (fun _ hk => hk.2) (.int .i64 t308)) (fun _ hk => hk.2) (.int .i64 t309)) (fun _ hk => hk.2) (.int .i64 t310)) (fun _ hk => hk.2) (.int .u32 t311)) (fun _ hk => hk.2) (.int .u32 t312)) (fun _ hk => hk.2) (.slice Ao41 t313.length co41)) (fun _ hk => hk.2) (.slice Ao42 t316.length co42)) (fun _ h_ => h_.1))))) (below_size (by repeat (first | (with_reducible first | exact HB.out | apply below_alloc | apply pw_below_drewN | apply below_drew1 | refine below_set ?_ GE288.out | refine below_set ?_ GE320.out) | exact HB.out)))); have n5_ := Aside0.mk (blk_below (g := gb288) (o := .cells #[.int .i64 a0_0, .int .i64 a0_1, .bool a0_2, .bool a0_3, .int .i64 a0_4, .int .i64 a0_5, .int .i64 a0_6, .int .u32 a0_7, .int .u32 a0_8, .slice A0_9 l0_9.length c0_9, .slice A0_10 l0_10.length c0_10] 25 (0, 0)) (by (with_reducible repeat (first | refine blk_drewN ?_ _ | refine blk_drew ?_ | refine blk_alloc ?_ _)); refine blk_far ?_ NB288_320.out _; (with_reducible repeat (first | refine blk_drewN ?_ _ | refine blk_drew ?_ | refine blk_alloc ?_ _)); refine blk_far ?_ NB288_320.out _; (with_reducible repeat (first | refine blk_drewN ?_ _ | refine blk_drew ?_ | refine blk_alloc ?_ _)); refine blk_far ?_ NB288_320.out _; (with_reducible repeat (first | refine blk_drewN ?_ _ | refine blk_drew ?_ | refine blk_alloc ?_ _)); refine blk_far ?_ NB288_320.out _; (with_reducible repeat (first | refine blk_drewN ?_ _ | refine blk_drew ?_ | refine blk_alloc ?_ _)); refine blk_far ?_ NB288_320.out _; (with_reducible repeat (first | refine blk_drewN ?_ _ | refine blk_drew ?_ | refine blk_alloc ?_ _)); refine blk_far ?_ NB288_320.out _; (with_reducible repeat (first | refine blk_drewN ?_ _ | refine blk_drew ?_ | refine blk_alloc ?_ _)); refine blk_far ?_ NB288_320.out _; (with_reducible repeat (first | refine blk_drewN ?_ _ | refine blk_drew ?_ | refine blk_alloc ?_ _)); refine blk_far ?_ NB288_320.out _; (with_reducible repeat (first | refine blk_drewN ?_ _ | refine blk_drew ?_ | refine blk_alloc ?_ _)); refine blk_far ?_ NB288_320.out _; (with_reducible repeat (first | refine blk_drewN ?_ _ | refine blk_drew ?_ | refine blk_alloc ?_ _)); refine blk_far ?_ NB288_320.out _; (with_reducible repeat (first | refine blk_drewN ?_ _ | refine blk_drew ?_ | refine blk_alloc ?_ _)); refine blk_far ?_ NB288_320.out _; (with_reducible repeat (first | refine blk_drewN ?_ _ | refine blk_drew ?_ | refine blk_alloc ?_ _)); exact BK288.out) hb); have n6_ := Aside0.mk (blk_below (g := gb320) (o := .cells #[.int .i64 t304, .int .i64 t305, .bool t306, .bool t307, .int .i64 t308, .int .i64 t309, .int .i64 t310, .int .u32 t311, .int .u32 t312, .slice Ao41 t313.length co41, .slice Ao42 t316.length co42] 25 (0, 0)) (by (with_reducible repeat (first | refine blk_drewN ?_ _ | refine blk_drew ?_ | refine blk_alloc ?_ _)); refine blk_put (cs := #[.int .i64 t304, .int .i64 t305, .bool t306, .bool t307, .int .i64 t308, .int .i64 t309, .int .i64 t310, .int .u32 t311, .int .u32 t312, .slice Ao41 t313.length co41, .slice none 0 0]) ?_ 10 _ rfl; (with_reducible repeat (first | refine blk_drewN ?_ _ | refine blk_drew ?_ | refine blk_alloc ?_ _)); refine blk_put (cs := #[.int .i64 t304, .int .i64 t305, .bool t306, .bool t307, .int .i64 t308, .int .i64 t309, .int .i64 t310, .int .u32 t311, .int .u32 t312, .slice none 0 0, .slice none 0 0]) ?_ 9 _ rfl; (with_reducible repeat (first | refine blk_drewN ?_ _ | refine blk_drew ?_ | refine blk_alloc ?_ _)); refine blk_put (cs := #[.int .i64 t304, .int .i64 t305, .bool t306, .bool t307, .int .i64 t308, .int .i64 t309, .int .i64 t310, .int .u32 t311, .int .u32 0, .slice none 0 0, .slice none 0 0]) ?_ 8 _ rfl; (with_reducible repeat (first | refine blk_drewN ?_ _ | refine blk_drew ?_ | refine blk_alloc ?_ _)); refine blk_put (cs := #[.int .i64 t304, .int .i64 t305, .bool t306, .bool t307, .int .i64 t308, .int .i64 t309, .int .i64 t310, .int .u32 0, .int .u32 0, .slice none 0 0, .slice none 0 0]) ?_ 7 _ rfl; (with_reducible repeat (first | refine blk_drewN ?_ _ | refine blk_drew ?_ | refine blk_alloc ?_ _)); refine blk_put (cs := #[.int .i64 t304, .int .i64 t305, .bool t306, .bool t307, .int .i64 t308, .int .i64 t309, .int .i64 0, .int .u32 0, .int .u32 0, .slice none 0 0, .slice none 0 0]) ?_ 6 _ rfl; (with_reducible repeat (first | refine blk_drewN ?_ _ | refine blk_drew ?_ | refine blk_alloc ?_ _)); refine blk_put (cs := #[.int .i64 t304, .int .i64 t305, .bool t306, .bool t307, .int .i64 t308, .int .i64 0, .int .i64 0, .int .u32 0, .int .u32 0, .slice none 0 0, .slice none 0 0]) ?_ 5 _ rfl; (with_reducible repeat (first | refine blk_drewN ?_ _ | refine blk_drew ?_ | refine blk_alloc ?_ _)); refine blk_put (cs := #[.int .i64 t304, .int .i64 t305, .bool t306, .bool t307, .int .i64 0, .int .i64 0, .int .i64 0, .int .u32 0, .int .u32 0, .slice none 0 0, .slice none 0 0]) ?_ 4 _ rfl; (with_reducible repeat (first | refine blk_drewN ?_ _ | refine blk_drew ?_ | refine blk_alloc ?_ _)); refine blk_put (cs := #[.int .i64 t304, .int .i64 t305, .bool t306, .bool false, .int .i64 0, .int .i64 0, .int .i64 0, .int .u32 0, .int .u32 0, .slice none 0 0, .slice none 0 0]) ?_ 3 _ rfl; (with_reducible repeat (first | refine blk_drewN ?_ _ | refine blk_drew ?_ | refine blk_alloc ?_ _)); refine blk_put (cs := #[.int .i64 t304, .int .i64 t305, .bool false, .bool false, .int .i64 0, .int .i64 0, .int .i64 0, .int .u32 0, .int .u32 0, .slice none 0 0, .slice none 0 0]) ?_ 2 _ rfl; (with_reducible repeat (first | refine blk_drewN ?_ _ | refine blk_drew ?_ | refine blk_alloc ?_ _)); refine blk_put (cs := #[.int .i64 t304, .int .i64 0, .bool false, .bool false, .int .i64 0, .int .i64 0, .int .i64 0, .int .u32 0, .int .u32 0, .slice none 0 0, .slice none 0 0]) ?_ 1 _ rfl; (with_reducible repeat (first | refine blk_drewN ?_ _ | refine blk_drew ?_ | refine blk_alloc ?_ _)); refine blk_put (cs := #[.int .i64 0, .int .i64 0, .bool false, .bool false, .int .i64 0, .int .i64 0, .int .i64 0, .int .u32 0, .int .u32 0, .slice none 0 0, .slice none 0 0]) ?_ 0 _ rfl; (with_reducible repeat (first | refine blk_drewN ?_ _ | refine blk_drew ?_ | refine blk_alloc ?_ _)); exact BK320.out) hb); have n7_ := Aside0.mk (below_step (by repeat (first | (with_reducible first | exact HB.out | apply below_alloc | apply pw_below_drewN | apply below_drew1 | refine below_set ?_ GE288.out | refine below_set ?_ GE320.out) | exact HB.out)) hb); clear HO_5; clear HO_7; clear HO315; clear HO318; clear BK288; clear BK320; clear HB; have HO_5 := n0_; have HO_7 := n1_; have HO315 := n2_; have HO318 := n3_; have HO323 := n4_; have BK288 := n5_; have BK320 := n6_; have HB := n7_; clear n0_ n1_ n2_ n3_ n4_ n5_ n6_ n7_; (try clear hb); (try clear hb2); (try clear hk); (try clear hi); (try clear ho0); have hcz44_0 : w43.cell? ⟨gb288, 0, none⟩ = some (.int .i64 a0_0) := (blk_cell BK288.out 0).trans rfl; have hcz44_1 : w43.cell? ⟨gb288, 1, none⟩ = some (.int .i64 a0_1) := (blk_cell BK288.out 1).trans rfl; have hcz44_2 : w43.cell? ⟨gb288, 2, none⟩ = some (.bool a0_2) := (blk_cell BK288.out 2).trans rfl; have hcz44_3 : w43.cell? ⟨gb288, 3, none⟩ = some (.bool a0_3) := (blk_cell BK288.out 3).trans rfl; have hcz44_4 : w43.cell? ⟨gb288, 4, none⟩ = some (.int .i64 a0_4) := (blk_cell BK288.out 4).trans rfl; have hcz44_5 : w43.cell? ⟨gb288, 5, none⟩ = some (.int .i64 a0_5) := (blk_cell BK288.out 5).trans rfl; have hcz44_6 : w43.cell? ⟨gb288, 6, none⟩ = some (.int .i64 a0_6) := (blk_cell BK288.out 6).trans rfl; have hcz44_7 : w43.cell? ⟨gb288, 7, none⟩ = some (.int .u32 a0_7) := (blk_cell BK288.out 7).trans rfl; have hcz44_8 : w43.cell? ⟨gb288, 8, none⟩ = some (.int .u32 a0_8) := (blk_cell BK288.out 8).trans rfl; have hcz44_9 : w43.cell? ⟨gb288, 9, none⟩ = some (.slice A0_9 l0_9.length c0_9) := (blk_cell BK288.out 9).trans rfl; have hcz44_10 : w43.cell? ⟨gb288, 10, none⟩ = some (.slice A0_10 l0_10.length c0_10) := (blk_cell BK288.out 10).trans rfl; have hfz44_0 := blk_frozen BK288.out 0; have hfz44_1 := blk_frozen BK288.out 1; have hfz44_2 := blk_frozen BK288.out 2; have hfz44_3 := blk_frozen BK288.out 3; have hfz44_4 := blk_frozen BK288.out 4; have hfz44_5 := blk_frozen BK288.out 5; have hfz44_6 := blk_frozen BK288.out 6; have hfz44_7 := blk_frozen BK288.out 7; have hfz44_8 := blk_frozen BK288.out 8; have hfz44_9 := blk_frozen BK288.out 9; have hfz44_10 := blk_frozen BK288.out 10; have hcz45_0 : w43.cell? ⟨gb320, 0, none⟩ = some (.int .i64 t304) := (blk_cell BK320.out 0).trans rfl; have hcz45_1 : w43.cell? ⟨gb320, 1, none⟩ = some (.int .i64 t305) := (blk_cell BK320.out 1).trans rfl; have hcz45_2 : w43.cell? ⟨gb320, 2, none⟩ = some (.bool t306) := (blk_cell BK320.out 2).trans rfl; have hcz45_3 : w43.cell? ⟨gb320, 3, none⟩ = some (.bool t307) := (blk_cell BK320.out 3).trans rfl; have hcz45_4 : w43.cell? ⟨gb320, 4, none⟩ = some (.int .i64 t308) := (blk_cell BK320.out 4).trans rfl; have hcz45_5 : w43.cell? ⟨gb320, 5, none⟩ = some (.int .i64 t309) := (blk_cell BK320.out 5).trans rfl; have hcz45_6 : w43.cell? ⟨gb320, 6, none⟩ = some (.int .i64 t310) := (blk_cell BK320.out 6).trans rfl; have hcz45_7 : w43.cell? ⟨gb320, 7, none⟩ = some (.int .u32 t311) := (blk_cell BK320.out 7).trans rfl; have hcz45_8 : w43.cell? ⟨gb320, 8, none⟩ = some (.int .u32 t312) := (blk_cell BK320.out 8).trans rfl; have hcz45_9 : w43.cell? ⟨gb320, 9, none⟩ = some (.slice Ao41 t313.length co41) := (blk_cell BK320.out 9).trans rfl; have hcz45_10 : w43.cell? ⟨gb320, 10, none⟩ = some (.slice Ao42 t316.length co42) := (blk_cell BK320.out 10).trans rfl; have hfz45_0 := blk_frozen BK320.out 0; have hfz45_1 := blk_frozen BK320.out 1; have hfz45_2 := blk_frozen BK320.out 2; have hfz45_3 := blk_frozen BK320.out 3; have hfz45_4 := blk_frozen BK320.out 4; have hfz45_5 := blk_frozen BK320.out 5; have hfz45_6 := blk_frozen BK320.out 6; have hfz45_7 := blk_frozen BK320.out 7; have hfz45_8 := blk_frozen BK320.out 8; have hfz45_9 := blk_frozen BK320.out 9; have hfz45_10 := blk_frozen BK320.out 10) | (go_at_call 20; (with_reducible refine (bailiwickref2_Same.calls kj18 a0_0 a0_1 a0_2 a0_3 a0_4 a0_5 a0_6 a0_7 a0_8 _ _ l0_9 _ _ l0_10 t304 t305 t306 t307 t308 t309 t310 t311 t312 _ _ t313 _ _ t316 true _ ?side1 ?side2 ?side3 ?side4 ?side5 ?side6 ?side7 ?side8 A33.out).mono ?_); (case side1 => repeat (first | exact (Kd.C_below HR0_9.out HB.out) | (with_reducible refine Kd.C_alloc ?_ _) | (with_reducible refine Kd.C_drewN ?_ _) | (with_reducible refine Kd.C_drew ?_))); (case side2 => exact HC0_9.out); (case side3 => repeat (first | exact (Kd.C_below HR0_10.out HB.out) | (with_reducible refine Kd.C_alloc ?_ _) | (with_reducible refine Kd.C_drewN ?_ _) | (with_reducible refine Kd.C_drew ?_))); (case side4 => exact HC0_10.out); (case side5 => repeat (first | exact (Kd.R_reads' HO315.out).2.2 | (with_reducible refine Kd.C_alloc ?_ _) | (with_reducible refine Kd.C_drewN ?_ _) | (with_reducible refine Kd.C_drew ?_))); (case side6 => exact (Kd.R_reads' HO315.out).2.1); (case side7 => repeat (first | exact (Kd.R_reads' HO318.out).2.2 | (with_reducible refine Kd.C_alloc ?_ _) | (with_reducible refine Kd.C_drewN ?_ _) | (with_reducible refine Kd.C_drew ?_))); (case side8 => exact (Kd.R_reads' HO318.out).2.1); rintro e w46 ⟨rfl, hb⟩; have n0_ := Aside0.mk (Kd.R_below (by (with_reducible repeat (first | apply Kd.R_alloc | apply Kd.R_drewN | apply Kd.R_drew)); exact HO_5.out) hb); have n1_ := Aside0.mk (Kd.R_below (by (with_reducible repeat (first | apply Kd.R_alloc | apply Kd.R_drewN | apply Kd.R_drew)); exact HO_7.out) hb); have n2_ := Aside0.mk (Kd.R_below (by (with_reducible repeat (first | apply Kd.R_alloc | apply Kd.R_drewN | apply Kd.R_drew)); exact HO315.out) hb); have n3_ := Aside0.mk (Kd.R_below (by (with_reducible repeat (first | apply Kd.R_alloc | apply Kd.R_drewN | apply Kd.R_drew)); exact HO318.out) hb); have n4_ := Aside0.mk (Kd.R_below (by (with_reducible repeat (first | apply Kd.R_alloc | apply Kd.R_drewN | apply Kd.R_drew)); exact HO323.out) hb); have n5_ := Aside0.mk (blk_below (g := gb288) (o := .cells #[.int .i64 a0_0, .int .i64 a0_1, .bool a0_2, .bool a0_3, .int .i64 a0_4, .int .i64 a0_5, .int .i64 a0_6, .int .u32 a0_7, .int .u32 a0_8, .slice A0_9 l0_9.length c0_9, .slice A0_10 l0_10.length c0_10] 25 (0, 0)) (by (with_reducible repeat (first | refine blk_drewN ?_ _ | refine blk_drew ?_ | refine blk_alloc ?_ _)); exact BK288.out) hb); have n6_ := Aside0.mk (blk_below (g := gb320) (o := .cells #[.int .i64 t304, .int .i64 t305, .bool t306, .bool t307, .int .i64 t308, .int .i64 t309, .int .i64 t310, .int .u32 t311, .int .u32 t312, .slice Ao41 t313.length co41, .slice Ao42 t316.length co42] 25 (0, 0)) (by (with_reducible repeat (first | refine blk_drewN ?_ _ | refine blk_drew ?_ | refine blk_alloc ?_ _)); exact BK320.out) hb); have n7_ := Aside0.mk (below_step (by repeat (first | (with_reducible first | exact HB.out | apply below_alloc | apply pw_below_drewN | apply below_drew1 | refine below_set ?_ GE288.out | refine below_set ?_ GE320.out) | exact HB.out)) hb); clear HO_5; clear HO_7; clear HO315; clear HO318; clear HO323; clear BK288; clear BK320; clear HB; have HO_5 := n0_; have HO_7 := n1_; have HO315 := n2_; have HO318 := n3_; have HO323 := n4_; have BK288 := n5_; have BK320 := n6_; have HB := n7_; clear n0_ n1_ n2_ n3_ n4_ n5_ n6_ n7_; (try clear hb); (try clear hb2); (try clear hk); (try clear hi); obtain ⟨Ao47, co47, eo47⟩ := Kd.R_slice HO323.out; subst eo47) | (go_at_call 17; (with_reducible refine (bailiwickref1_Same.calls kj18 _ _ t291 _ _ t321 t326 _ ?side1 ?side2 ?side3 ?side4 A35.out).mono ?_); (case side1 => repeat (first | exact (Kd.R_reads' HO_5.out).2.2 | (with_reducible refine Kd.C_alloc ?_ _) | (with_reducible refine Kd.C_drewN ?_ _) | (with_reducible refine Kd.C_drew ?_))); (case side2 => exact (Kd.R_reads' HO_5.out).2.1); (case side3 => repeat (first | exact (Kd.R_reads' HO323.out).2.2 | (with_reducible refine Kd.C_alloc ?_ _) | (with_reducible refine Kd.C_drewN ?_ _) | (with_reducible refine Kd.C_drew ?_))); (case side4 => exact (Kd.R_reads' HO323.out).2.1); rintro e w' ⟨rfl, ⟨nd, rfl⟩⟩))
                        go_ret
                        exact ⟨by first | rfl | (simp [errW_none, errW_some] <;> rfl) | (simp [*, errW_none, errW_some] <;> rfl), by repeat (first | (with_reducible first | exact HB.out | apply below_alloc | apply pw_below_drewN | apply below_drew1 | refine below_set ?_ GE288.out | refine below_set ?_ GE320.out) | exact HB.out)⟩
                      · replace c34 := Bool.eq_false_iff.mpr c34
                        subst c34
                        have H1 : (some false) = some r := by rw [if_neg (show ¬ (false = true) by decide)] at H; exact H
                        clear H
                        have H := H1
                        clear H1
                        exact absurd ((Option.some.inj H).trans hT) (by decide)
                    · rw [if_neg c32] at H
                      have c32b0 : (t324 == 0) = false := beq_eq_false_iff_ne.mpr c32
                      have c32b1 : (t324 != 0) = true := bne_iff_ne.mpr c32
                      exact absurd ((Option.some.inj H).trans hT) (by decide)
                  · rw [if_neg c31] at H
                    have c31b0 : (t319 == 0) = false := beq_eq_false_iff_ne.mpr c31
                    have c31b1 : (t319 != 0) = true := bne_iff_ne.mpr c31
                    exact absurd ((Option.some.inj H).trans hT) (by decide)
            · rw [if_neg c18] at H
              exact absurd H (by simp)
          · rw [if_neg c16] at H
            have c16b0 : (t294 == 0) = false := beq_eq_false_iff_ne.mpr c16
            have c16b1 : (t294 != 0) = true := bne_iff_ne.mpr c16
            obtain rfl := Option.some.inj H
            have hcz75_0 : wc.cell? ⟨gb288, 0, none⟩ = some (.int .i64 a0_0) := (blk_cell BK288.out 0).trans rfl
            have hcz75_1 : wc.cell? ⟨gb288, 1, none⟩ = some (.int .i64 a0_1) := (blk_cell BK288.out 1).trans rfl
            have hcz75_2 : wc.cell? ⟨gb288, 2, none⟩ = some (.bool a0_2) := (blk_cell BK288.out 2).trans rfl
            have hcz75_3 : wc.cell? ⟨gb288, 3, none⟩ = some (.bool a0_3) := (blk_cell BK288.out 3).trans rfl
            have hcz75_4 : wc.cell? ⟨gb288, 4, none⟩ = some (.int .i64 a0_4) := (blk_cell BK288.out 4).trans rfl
            have hcz75_5 : wc.cell? ⟨gb288, 5, none⟩ = some (.int .i64 a0_5) := (blk_cell BK288.out 5).trans rfl
            have hcz75_6 : wc.cell? ⟨gb288, 6, none⟩ = some (.int .i64 a0_6) := (blk_cell BK288.out 6).trans rfl
            have hcz75_7 : wc.cell? ⟨gb288, 7, none⟩ = some (.int .u32 a0_7) := (blk_cell BK288.out 7).trans rfl
            have hcz75_8 : wc.cell? ⟨gb288, 8, none⟩ = some (.int .u32 a0_8) := (blk_cell BK288.out 8).trans rfl
            have hcz75_9 : wc.cell? ⟨gb288, 9, none⟩ = some (.slice A0_9 l0_9.length c0_9) := (blk_cell BK288.out 9).trans rfl
            have hcz75_10 : wc.cell? ⟨gb288, 10, none⟩ = some (.slice A0_10 l0_10.length c0_10) := (blk_cell BK288.out 10).trans rfl
            have hfz75_0 := blk_frozen BK288.out 0
            have hfz75_1 := blk_frozen BK288.out 1
            have hfz75_2 := blk_frozen BK288.out 2
            have hfz75_3 := blk_frozen BK288.out 3
            have hfz75_4 := blk_frozen BK288.out 4
            have hfz75_5 := blk_frozen BK288.out 5
            have hfz75_6 := blk_frozen BK288.out 6
            have hfz75_7 := blk_frozen BK288.out 7
            have hfz75_8 := blk_frozen BK288.out 8
            have hfz75_9 := blk_frozen BK288.out 9
            have hfz75_10 := blk_frozen BK288.out 10
            go_wp2_with (first | ((with_reducible refine gate_callee (f := 15) rfl ?_); refine goesL_ (some 24) rfl rfl Try.func15 (by kernel_rfl) rfl #[.agg #[.int .i64 a0_0, .int .i64 a0_1, .bool a0_2, .bool a0_3, .int .i64 a0_4, .int .i64 a0_5, .int .i64 a0_6, .int .u32 a0_7, .int .u32 a0_8, .slice A0_9 l0_9.length c0_9, .slice A0_10 l0_10.length c0_10]] rfl (by (try simp only [List.map_toArray, List.map_cons, List.map_nil]); first | done | rfl | (simp only [List.length_drop, List.length_take]; rfl)) ?_; (with_reducible refine (ip_Build.calls a0_0 a0_1 a0_2 a0_3 a0_4 a0_5 a0_6 a0_7 a0_8 _ _ l0_9 _ _ l0_10 t291 t294 _ ?side1 ?side2 ?side3 ?side4 A15.out).mono ?_); (case side1 => repeat (first | exact (Kd.C_below HR0_9.out HB.out) | (with_reducible refine Kd.C_alloc ?_ _) | (with_reducible refine Kd.C_drewN ?_ _) | (with_reducible refine Kd.C_drew ?_))); (case side2 => exact HC0_9.out); (case side3 => repeat (first | exact (Kd.C_below HR0_10.out HB.out) | (with_reducible refine Kd.C_alloc ?_ _) | (with_reducible refine Kd.C_drewN ?_ _) | (with_reducible refine Kd.C_drew ?_))); (case side4 => exact HC0_10.out); rintro e w76 ⟨v292, rfl, ho0, hb⟩; refine ⟨_, rfl, ?_⟩; have n0_ := Aside0.mk (Kd.R_lower ho0 (below_size (by repeat (first | (with_reducible first | exact HB.out | apply below_alloc | apply pw_below_drewN | apply below_drew1 | refine below_set ?_ GE288.out) | exact HB.out)))); have n1_ := Aside0.mk (blk_below (g := gb288) (o := .cells #[.int .i64 a0_0, .int .i64 a0_1, .bool a0_2, .bool a0_3, .int .i64 a0_4, .int .i64 a0_5, .int .i64 a0_6, .int .u32 a0_7, .int .u32 a0_8, .slice A0_9 l0_9.length c0_9, .slice A0_10 l0_10.length c0_10] 25 (0, 0)) (by (with_reducible repeat (first | refine blk_drewN ?_ _ | refine blk_drew ?_ | refine blk_alloc ?_ _)); exact BK288.out) hb); have n2_ := Aside0.mk (below_step (by repeat (first | (with_reducible first | exact HB.out | apply below_alloc | apply pw_below_drewN | apply below_drew1 | refine below_set ?_ GE288.out) | exact HB.out)) hb); clear BK288; clear HB; have HO293 := n0_; have BK288 := n1_; have HB := n2_; clear n0_ n1_ n2_; (try clear hb); (try clear hb2); (try clear hk); (try clear hi); (try clear ho0); obtain ⟨Ao77, co77, eo77⟩ := Kd.R_slice HO293.out; subst eo77))
            go_ret
            exact ⟨by first | rfl | (simp [errW_none, errW_some] <;> rfl) | (simp [*, errW_none, errW_some] <;> rfl), by repeat (first | (with_reducible first | exact HB.out | apply below_alloc | apply pw_below_drewN | apply below_drew1 | refine below_set ?_ GE288.out) | exact HB.out)⟩
  · replace c4 := Bool.eq_false_iff.mpr c4
    subst c4
    have H1 : (some false) = some r := by rw [if_neg (show ¬ (false = true) by decide)] at H; exact H
    clear H
    have H := H1
    clear H1
    exact absurd ((Option.some.inj H).trans hT) (by decide)
def bailiwicklaw2_IpBack.Pure : Prop := ∀ (a0_0 : Int) (a0_1 : Int) (a0_2 : Bool) (a0_3 : Bool) (a0_4 : Int) (a0_5 : Int) (a0_6 : Int) (a0_7 : Int) (a0_8 : Int) (l0_9 : List Int) (l0_10 : List Int) (l1 : List Int), (Lit.int .i64 a0_0).wf = true → (Lit.int .i64 a0_1).wf = true → (Lit.int .i64 a0_4).wf = true → (Lit.int .i64 a0_5).wf = true → (Lit.int .i64 a0_6).wf = true → (Lit.int .u32 a0_7).wf = true → (Lit.int .u32 a0_8).wf = true → (l0_9.length ≤ maxLen ∧ l0_9.length * 1 ≤ 140737488351232 ∧ ∀ a__ ∈ l0_9, (Lit.int .u8 a__).wf = true) → (l0_10.length ≤ maxLen ∧ l0_10.length * 1 ≤ 140737488351232 ∧ ∀ a__ ∈ l0_10, (Lit.int .u8 a__).wf = true) → (l1.length ≤ maxLen ∧ l1.length * 1 ≤ 140737488351232 ∧ ∀ a_ ∈ l1, (Lit.int .u8 a_).wf = true) → ∃ k, bailiwicklaw2_IpBack.f k a0_0 a0_1 a0_2 a0_3 a0_4 a0_5 a0_6 a0_7 a0_8 l0_9 l0_10 l1 = some true

end Go.Proofs.Ythnhpbplglmmmaa.P
