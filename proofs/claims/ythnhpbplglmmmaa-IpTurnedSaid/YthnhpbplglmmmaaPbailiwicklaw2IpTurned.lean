-- Laid by a program (wip/tools/myprint.py) out of the translation. Not trusted: Lean checks it.
import Derived.Test.YthnhpbplglmmmaaP0
import Derived.Test.YthnhpbplglmmmaaPip
import Derived.Test.YthnhpbplglmmmaaPbailiwicklaw2
namespace Go.Proofs.Ythnhpbplglmmmaa.P
open Go.RowKit Go.Proofs.YthnhpbplglmmmaaW.PrintWords Go.Proofs.YthnhpbplglmmmaaW.PrintLast Go.Proofs.YthnhpbplglmmmaaW.PrintMore
attribute [local go_sem] max2_int min2_int max_two min_two max_three min_three max_four min_four   -- for this text's walks alone
set_option linter.unusedVariables false
set_option linter.unusedSimpArgs false

/-! ### bailiwicklaw2_IpTurned: function 7 -/
def bailiwicklaw2_IpTurned.j0 : Nat → Int → List Int → Bool → Option (Bool)
  | 0, _, _, _ => none
  | k + 1, x1, x5, x40 => if x40 = true then ((bailiwicklaw2_awake.f).bind fun t367 => (some t367)) else (if 0 ≤ (wrap64 (Int.tdiv x1 8)) then (if (wrap64 (Int.tdiv x1 8)) < (x5.length : Int) then (if 0 ≤ (IntKind.u64.wrap (Int.tmod x1 8)) then ((ip_Parse.f (x5.set ((wrap64 (Int.tdiv x1 8)) : Int).toNat (Go.bits .xor .u8 (rd x5 (wrap64 (Int.tdiv x1 8))) (shl .u8 1 (IntKind.u64.wrap (Int.tmod x1 8)))))).bind fun bt370 => ((bailiwicklaw2_awake.f).bind fun t387 => (if t387 = true then (some (bt370.2.2.2.2.2.2.2.2.2.2.2 != 0)) else (some false)))) else (none)) else (none)) else (none))
def bailiwicklaw2_IpTurned.f (k : Nat) (a0_0 : Int) (a0_1 : Int) (a0_2 : Bool) (a0_3 : Bool) (a0_4 : Int) (a0_5 : Int) (a0_6 : Int) (a0_7 : Int) (a0_8 : Int) (l0_9 : List Int) (l0_10 : List Int) (a1 : Int) : Option (Bool) := (bailiwicklaw2_awake.f).bind fun t360 => (if t360 = true then ((bailiwicklaw2_small.f a0_0 a0_1 a0_2 a0_3 a0_4 a0_5 a0_6 a0_7 a0_8 l0_9 l0_10).bind fun t361 => (if t361 = true then ((ip_Build.f a0_0 a0_1 a0_2 a0_3 a0_4 a0_5 a0_6 a0_7 a0_8 l0_9 l0_10).bind fun bt363 => (if bt363.2 = 0 then (if a1 < 0 then (bailiwicklaw2_IpTurned.j0 k a1 bt363.1 true) else (if (wrap64 (Int.tdiv a1 8)) ≥ (wrap64 (20 + (l0_9.length : Int))) then (bailiwicklaw2_IpTurned.j0 k a1 bt363.1 true) else (bailiwicklaw2_IpTurned.j0 k a1 bt363.1 (decide (a1 < 4))))) else (bailiwicklaw2_IpTurned.j0 k a1 bt363.1 true))) else ((bailiwicklaw2_awake.f).bind fun t362 => (some t362)))) else (some false))
theorem bailiwicklaw2_IpTurned.mono_l : ∀ k, (∀ y0 y1 y2, LeO (bailiwicklaw2_IpTurned.j0 k y0 y1 y2) (bailiwicklaw2_IpTurned.j0 (k + 1) y0 y1 y2))
  | 0 => fun _ _ _ r h => by simp [bailiwicklaw2_IpTurned.j0] at h
  | k + 1 => by
    have ih0 := bailiwicklaw2_IpTurned.mono_l k
    · intro y0 y1 y2
      unfold bailiwicklaw2_IpTurned.j0
      repeat' first
      | (with_reducible exact ih0 _ _ _)
      | (with_reducible exact LeO.refl _)
      | (with_reducible exact LeO.none _)
      | (with_reducible refine LeO.ite ?_ ?_)
      | (with_reducible refine LeO.bind ?_ (fun _ => ?_))
      | exact ih0 _ _ _
      | exact LeO.none _
      | refine LeO.ite ?_ ?_
      | refine LeO.bind ?_ (fun _ => ?_)
theorem bailiwicklaw2_IpTurned.mono : ∀ a0 a1 a2 a3 a4 a5 a6 a7 a8 a9 a10 a11 k, LeO (bailiwicklaw2_IpTurned.f k a0 a1 a2 a3 a4 a5 a6 a7 a8 a9 a10 a11) (bailiwicklaw2_IpTurned.f (k + 1) a0 a1 a2 a3 a4 a5 a6 a7 a8 a9 a10 a11) := by
  intro a0 a1 a2 a3 a4 a5 a6 a7 a8 a9 a10 a11 k
  have ih0 := bailiwicklaw2_IpTurned.mono_l k
  unfold bailiwicklaw2_IpTurned.f
  repeat' first
      | (with_reducible exact ih0 _ _ _)
      | (with_reducible exact LeO.refl _)
      | (with_reducible exact LeO.none _)
      | (with_reducible refine LeO.ite ?_ ?_)
      | (with_reducible refine LeO.bind ?_ (fun _ => ?_))
      | exact ih0 _ _ _
      | exact LeO.none _
      | refine LeO.ite ?_ ?_
      | refine LeO.bind ?_ (fun _ => ?_)
set_option maxHeartbeats 8000000 in
set_option maxRecDepth 100000 in
theorem bailiwicklaw2_IpTurned.calls (k : Nat) (a0_0 : Int) (a0_1 : Int) (a0_2 : Bool) (a0_3 : Bool) (a0_4 : Int) (a0_5 : Int) (a0_6 : Int) (a0_7 : Int) (a0_8 : Int) (A0_9 : Option Addr) (c0_9 : Nat) (l0_9 : List Int) (A0_10 : Option Addr) (c0_10 : Nat) (l0_10 : List Int) (a1 : Int) (r : Bool) (hT : r = true) (w : World) (hr0_9 : Kd.C (Kd.int .u8) w A0_9 l0_9.length l0_9) (hc0_9 : l0_9.length ≤ c0_9) (hr0_10 : Kd.C (Kd.int .u8) w A0_10 l0_10.length l0_10) (hc0_10 : l0_10.length ≤ c0_10) (h : bailiwicklaw2_IpTurned.f k a0_0 a0_1 a0_2 a0_3 a0_4 a0_5 a0_6 a0_7 a0_8 l0_9 l0_10 a1 = some r) :
    Calls Try.prog 7 #[.agg #[.int .i64 a0_0, .int .i64 a0_1, .bool a0_2, .bool a0_3, .int .i64 a0_4, .int .i64 a0_5, .int .i64 a0_6, .int .u32 a0_7, .int .u32 a0_8, .slice A0_9 l0_9.length c0_9, .slice A0_10 l0_10.length c0_10], .int .i64 a1] w fun e w' => e = .returned (.bool r) ∧ Below w.heap.size w w' := by
  have hu25 := Try.underlying25
  have HR0_9 := Aside0.mk hr0_9
  have HC0_9 := Aside0.mk hc0_9
  clear hr0_9 hc0_9
  have HR0_10 := Aside0.mk hr0_10
  have HC0_10 := Aside0.mk hc0_10
  clear hr0_10 hc0_10
  have HB := Aside0.mk (Below.refl w.heap.size w)
  have H : ((bailiwicklaw2_awake.f).bind fun t360 => (if t360 = true then ((bailiwicklaw2_small.f a0_0 a0_1 a0_2 a0_3 a0_4 a0_5 a0_6 a0_7 a0_8 l0_9 l0_10).bind fun t361 => (if t361 = true then ((ip_Build.f a0_0 a0_1 a0_2 a0_3 a0_4 a0_5 a0_6 a0_7 a0_8 l0_9 l0_10).bind fun bt363 => (if bt363.2 = 0 then (if a1 < 0 then (bailiwicklaw2_IpTurned.j0 k a1 bt363.1 true) else (if (wrap64 (Int.tdiv a1 8)) ≥ (wrap64 (20 + (l0_9.length : Int))) then (bailiwicklaw2_IpTurned.j0 k a1 bt363.1 true) else (bailiwicklaw2_IpTurned.j0 k a1 bt363.1 (decide (a1 < 4))))) else (bailiwicklaw2_IpTurned.j0 k a1 bt363.1 true))) else ((bailiwicklaw2_awake.f).bind fun t362 => (some t362)))) else (some false))) = some r := h
  clear h
  replace H := Option.bind_eq_some_iff.mp H
  obtain ⟨t360, A30, H⟩ := H
  replace H : (if t360 = true then ((bailiwicklaw2_small.f a0_0 a0_1 a0_2 a0_3 a0_4 a0_5 a0_6 a0_7 a0_8 l0_9 l0_10).bind fun t361 => (if t361 = true then ((ip_Build.f a0_0 a0_1 a0_2 a0_3 a0_4 a0_5 a0_6 a0_7 a0_8 l0_9 l0_10).bind fun bt363 => (if bt363.2 = 0 then (if a1 < 0 then (bailiwicklaw2_IpTurned.j0 k a1 bt363.1 true) else (if (wrap64 (Int.tdiv a1 8)) ≥ (wrap64 (20 + (l0_9.length : Int))) then (bailiwicklaw2_IpTurned.j0 k a1 bt363.1 true) else (bailiwicklaw2_IpTurned.j0 k a1 bt363.1 (decide (a1 < 4))))) else (bailiwicklaw2_IpTurned.j0 k a1 bt363.1 true))) else ((bailiwicklaw2_awake.f).bind fun t362 => (some t362)))) else (some false)) = some r := H
  have A3 := Aside0.mk A30
  clear A30
  by_cases c4 : t360 = true
  · subst c4
    have H1 : ((bailiwicklaw2_small.f a0_0 a0_1 a0_2 a0_3 a0_4 a0_5 a0_6 a0_7 a0_8 l0_9 l0_10).bind fun t361 => (if t361 = true then ((ip_Build.f a0_0 a0_1 a0_2 a0_3 a0_4 a0_5 a0_6 a0_7 a0_8 l0_9 l0_10).bind fun bt363 => (if bt363.2 = 0 then (if a1 < 0 then (bailiwicklaw2_IpTurned.j0 k a1 bt363.1 true) else (if (wrap64 (Int.tdiv a1 8)) ≥ (wrap64 (20 + (l0_9.length : Int))) then (bailiwicklaw2_IpTurned.j0 k a1 bt363.1 true) else (bailiwicklaw2_IpTurned.j0 k a1 bt363.1 (decide (a1 < 4))))) else (bailiwicklaw2_IpTurned.j0 k a1 bt363.1 true))) else ((bailiwicklaw2_awake.f).bind fun t362 => (some t362)))) = some r := by rw [if_pos rfl] at H; exact H
    clear H
    have H := H1
    clear H1
    replace H := Option.bind_eq_some_iff.mp H
    obtain ⟨t361, A50, H⟩ := H
    replace H : (if t361 = true then ((ip_Build.f a0_0 a0_1 a0_2 a0_3 a0_4 a0_5 a0_6 a0_7 a0_8 l0_9 l0_10).bind fun bt363 => (if bt363.2 = 0 then (if a1 < 0 then (bailiwicklaw2_IpTurned.j0 k a1 bt363.1 true) else (if (wrap64 (Int.tdiv a1 8)) ≥ (wrap64 (20 + (l0_9.length : Int))) then (bailiwicklaw2_IpTurned.j0 k a1 bt363.1 true) else (bailiwicklaw2_IpTurned.j0 k a1 bt363.1 (decide (a1 < 4))))) else (bailiwicklaw2_IpTurned.j0 k a1 bt363.1 true))) else ((bailiwicklaw2_awake.f).bind fun t362 => (some t362))) = some r := H
    have A5 := Aside0.mk A50
    clear A50
    by_cases c6 : t361 = true
    · subst c6
      have H1 : ((ip_Build.f a0_0 a0_1 a0_2 a0_3 a0_4 a0_5 a0_6 a0_7 a0_8 l0_9 l0_10).bind fun bt363 => (if bt363.2 = 0 then (if a1 < 0 then (bailiwicklaw2_IpTurned.j0 k a1 bt363.1 true) else (if (wrap64 (Int.tdiv a1 8)) ≥ (wrap64 (20 + (l0_9.length : Int))) then (bailiwicklaw2_IpTurned.j0 k a1 bt363.1 true) else (bailiwicklaw2_IpTurned.j0 k a1 bt363.1 (decide (a1 < 4))))) else (bailiwicklaw2_IpTurned.j0 k a1 bt363.1 true))) = some r := by rw [if_pos rfl] at H; exact H
      clear H
      have H := H1
      clear H1
      replace H := Option.bind_eq_some_iff.mp H
      obtain ⟨⟨t363, t366⟩, A70, H⟩ := H
      replace H : (if t366 = 0 then (if a1 < 0 then (bailiwicklaw2_IpTurned.j0 k a1 t363 true) else (if (wrap64 (Int.tdiv a1 8)) ≥ (wrap64 (20 + (l0_9.length : Int))) then (bailiwicklaw2_IpTurned.j0 k a1 t363 true) else (bailiwicklaw2_IpTurned.j0 k a1 t363 (decide (a1 < 4))))) else (bailiwicklaw2_IpTurned.j0 k a1 t363 true)) = some r := H
      have A7 := Aside0.mk A70
      clear A70
      have HC8 := Aside0.mk H
      clear H
      go_enter Try.func7, Try.ntmps7
      go_upto_region 7 with (first | ((with_reducible refine gate_dst (N := 2) rfl ?_); refine box_event ?hg (N := 2) ?hd (cs := #[.int .i64 a0_0, .int .i64 a0_1, .bool a0_2, .bool a0_3, .int .i64 a0_4, .int .i64 a0_5, .int .i64 a0_6, .int .u32 a0_7, .int .u32 a0_8, .slice A0_9 l0_9.length c0_9, .slice A0_10 l0_10.length c0_10]) (t := 25) ?hr ?_; (case hd => rfl); (case hg => rfl); (case hr => first | (go_simp; done) | (go_simp; rfl)); intro gb359 hg w9 hbox hb; have n0_ := Aside0.mk (below_step (by repeat (first | (with_reducible first | exact HB.out | apply below_alloc | apply pw_below_drewN | apply below_drew1) | exact HB.out)) hb); have n1_ := Aside0.mk (hbox); have n2_ := Aside0.mk ((by rw [hg]; exact (below_size (by repeat (first | (with_reducible first | exact HB.out | apply below_alloc | apply pw_below_drewN | apply below_drew1) | exact HB.out))) : w.heap.size ≤ gb359)); have n3_ := Aside0.mk ((by rw [hg]; exact (below_size (by repeat (first | (with_reducible first | exact HB.out | apply below_alloc | apply pw_below_drewN | apply below_drew1) | exact HB.out))) : w.heap.size ≤ gb359)); clear HB; have HB := n0_; have BK359 := n1_; have GW359 := n2_; have GE359 := n3_; clear n0_ n1_ n2_ n3_; clear hb hbox hg) | ((with_reducible refine gate_callee (f := 13) rfl ?_); refine goesL_ (some 10) rfl rfl Try.func13 (by kernel_rfl) rfl #[] rfl (by (try simp only [List.map_toArray, List.map_cons, List.map_nil]); first | done | rfl | (simp only [List.length_drop, List.length_take]; rfl)) ?_; (with_reducible refine (bailiwicklaw2_awake.calls  true _ A3.out).mono ?_); rintro e w10 ⟨rfl, hb⟩; refine ⟨_, rfl, ?_⟩; have n0_ := Aside0.mk (blk_below (g := gb359) (o := .cells #[.int .i64 a0_0, .int .i64 a0_1, .bool a0_2, .bool a0_3, .int .i64 a0_4, .int .i64 a0_5, .int .i64 a0_6, .int .u32 a0_7, .int .u32 a0_8, .slice A0_9 l0_9.length c0_9, .slice A0_10 l0_10.length c0_10] 25 (0, 0)) (by (with_reducible repeat (first | refine blk_drewN ?_ _ | refine blk_drew ?_ | refine blk_alloc ?_ _)); exact BK359.out) hb); have n1_ := Aside0.mk (below_step (by repeat (first | (with_reducible first | exact HB.out | apply below_alloc | apply pw_below_drewN | apply below_drew1 | refine below_set ?_ GE359.out) | exact HB.out)) hb); clear BK359; clear HB; have BK359 := n0_; have HB := n1_; clear n0_ n1_; (try clear hb); (try clear hb2); (try clear hk); (try clear hi); have hcz11_0 : w10.cell? ⟨gb359, 0, none⟩ = some (.int .i64 a0_0) := (blk_cell BK359.out 0).trans rfl; have hcz11_1 : w10.cell? ⟨gb359, 1, none⟩ = some (.int .i64 a0_1) := (blk_cell BK359.out 1).trans rfl; have hcz11_2 : w10.cell? ⟨gb359, 2, none⟩ = some (.bool a0_2) := (blk_cell BK359.out 2).trans rfl; have hcz11_3 : w10.cell? ⟨gb359, 3, none⟩ = some (.bool a0_3) := (blk_cell BK359.out 3).trans rfl; have hcz11_4 : w10.cell? ⟨gb359, 4, none⟩ = some (.int .i64 a0_4) := (blk_cell BK359.out 4).trans rfl; have hcz11_5 : w10.cell? ⟨gb359, 5, none⟩ = some (.int .i64 a0_5) := (blk_cell BK359.out 5).trans rfl; have hcz11_6 : w10.cell? ⟨gb359, 6, none⟩ = some (.int .i64 a0_6) := (blk_cell BK359.out 6).trans rfl; have hcz11_7 : w10.cell? ⟨gb359, 7, none⟩ = some (.int .u32 a0_7) := (blk_cell BK359.out 7).trans rfl; have hcz11_8 : w10.cell? ⟨gb359, 8, none⟩ = some (.int .u32 a0_8) := (blk_cell BK359.out 8).trans rfl; have hcz11_9 : w10.cell? ⟨gb359, 9, none⟩ = some (.slice A0_9 l0_9.length c0_9) := (blk_cell BK359.out 9).trans rfl; have hcz11_10 : w10.cell? ⟨gb359, 10, none⟩ = some (.slice A0_10 l0_10.length c0_10) := (blk_cell BK359.out 10).trans rfl; have hfz11_0 := blk_frozen BK359.out 0; have hfz11_1 := blk_frozen BK359.out 1; have hfz11_2 := blk_frozen BK359.out 2; have hfz11_3 := blk_frozen BK359.out 3; have hfz11_4 := blk_frozen BK359.out 4; have hfz11_5 := blk_frozen BK359.out 5; have hfz11_6 := blk_frozen BK359.out 6; have hfz11_7 := blk_frozen BK359.out 7; have hfz11_8 := blk_frozen BK359.out 8; have hfz11_9 := blk_frozen BK359.out 9; have hfz11_10 := blk_frozen BK359.out 10) | ((with_reducible refine gate_callee (f := 14) rfl ?_); refine goesL_ (some 13) rfl rfl Try.func14 (by kernel_rfl) rfl #[.agg #[.int .i64 a0_0, .int .i64 a0_1, .bool a0_2, .bool a0_3, .int .i64 a0_4, .int .i64 a0_5, .int .i64 a0_6, .int .u32 a0_7, .int .u32 a0_8, .slice A0_9 l0_9.length c0_9, .slice A0_10 l0_10.length c0_10]] rfl (by (try simp only [List.map_toArray, List.map_cons, List.map_nil]); first | done | rfl | (simp only [List.length_drop, List.length_take]; rfl)) ?_; (with_reducible refine (bailiwicklaw2_small.calls a0_0 a0_1 a0_2 a0_3 a0_4 a0_5 a0_6 a0_7 a0_8 _ _ l0_9 _ _ l0_10 true _ ?side1 ?side2 ?side3 ?side4 A5.out).mono ?_); (case side1 => repeat (first | exact (Kd.C_below HR0_9.out HB.out) | (with_reducible refine Kd.C_alloc ?_ _) | (with_reducible refine Kd.C_drewN ?_ _) | (with_reducible refine Kd.C_drew ?_))); (case side2 => exact HC0_9.out); (case side3 => repeat (first | exact (Kd.C_below HR0_10.out HB.out) | (with_reducible refine Kd.C_alloc ?_ _) | (with_reducible refine Kd.C_drewN ?_ _) | (with_reducible refine Kd.C_drew ?_))); (case side4 => exact HC0_10.out); rintro e w12 ⟨rfl, hb⟩; refine ⟨_, rfl, ?_⟩; have n0_ := Aside0.mk (blk_below (g := gb359) (o := .cells #[.int .i64 a0_0, .int .i64 a0_1, .bool a0_2, .bool a0_3, .int .i64 a0_4, .int .i64 a0_5, .int .i64 a0_6, .int .u32 a0_7, .int .u32 a0_8, .slice A0_9 l0_9.length c0_9, .slice A0_10 l0_10.length c0_10] 25 (0, 0)) (by (with_reducible repeat (first | refine blk_drewN ?_ _ | refine blk_drew ?_ | refine blk_alloc ?_ _)); exact BK359.out) hb); have n1_ := Aside0.mk (below_step (by repeat (first | (with_reducible first | exact HB.out | apply below_alloc | apply pw_below_drewN | apply below_drew1 | refine below_set ?_ GE359.out) | exact HB.out)) hb); clear BK359; clear HB; have BK359 := n0_; have HB := n1_; clear n0_ n1_; (try clear hb); (try clear hb2); (try clear hk); (try clear hi); have hcz13_0 : w12.cell? ⟨gb359, 0, none⟩ = some (.int .i64 a0_0) := (blk_cell BK359.out 0).trans rfl; have hcz13_1 : w12.cell? ⟨gb359, 1, none⟩ = some (.int .i64 a0_1) := (blk_cell BK359.out 1).trans rfl; have hcz13_2 : w12.cell? ⟨gb359, 2, none⟩ = some (.bool a0_2) := (blk_cell BK359.out 2).trans rfl; have hcz13_3 : w12.cell? ⟨gb359, 3, none⟩ = some (.bool a0_3) := (blk_cell BK359.out 3).trans rfl; have hcz13_4 : w12.cell? ⟨gb359, 4, none⟩ = some (.int .i64 a0_4) := (blk_cell BK359.out 4).trans rfl; have hcz13_5 : w12.cell? ⟨gb359, 5, none⟩ = some (.int .i64 a0_5) := (blk_cell BK359.out 5).trans rfl; have hcz13_6 : w12.cell? ⟨gb359, 6, none⟩ = some (.int .i64 a0_6) := (blk_cell BK359.out 6).trans rfl; have hcz13_7 : w12.cell? ⟨gb359, 7, none⟩ = some (.int .u32 a0_7) := (blk_cell BK359.out 7).trans rfl; have hcz13_8 : w12.cell? ⟨gb359, 8, none⟩ = some (.int .u32 a0_8) := (blk_cell BK359.out 8).trans rfl; have hcz13_9 : w12.cell? ⟨gb359, 9, none⟩ = some (.slice A0_9 l0_9.length c0_9) := (blk_cell BK359.out 9).trans rfl; have hcz13_10 : w12.cell? ⟨gb359, 10, none⟩ = some (.slice A0_10 l0_10.length c0_10) := (blk_cell BK359.out 10).trans rfl; have hfz13_0 := blk_frozen BK359.out 0; have hfz13_1 := blk_frozen BK359.out 1; have hfz13_2 := blk_frozen BK359.out 2; have hfz13_3 := blk_frozen BK359.out 3; have hfz13_4 := blk_frozen BK359.out 4; have hfz13_5 := blk_frozen BK359.out 5; have hfz13_6 := blk_frozen BK359.out 6; have hfz13_7 := blk_frozen BK359.out 7; have hfz13_8 := blk_frozen BK359.out 8; have hfz13_9 := blk_frozen BK359.out 9; have hfz13_10 := blk_frozen BK359.out 10) | ((with_reducible refine gate_callee (f := 15) rfl ?_); refine goesL_ (some 18) rfl rfl Try.func15 (by kernel_rfl) rfl #[.agg #[.int .i64 a0_0, .int .i64 a0_1, .bool a0_2, .bool a0_3, .int .i64 a0_4, .int .i64 a0_5, .int .i64 a0_6, .int .u32 a0_7, .int .u32 a0_8, .slice A0_9 l0_9.length c0_9, .slice A0_10 l0_10.length c0_10]] rfl (by (try simp only [List.map_toArray, List.map_cons, List.map_nil]); first | done | rfl | (simp only [List.length_drop, List.length_take]; rfl)) ?_; (with_reducible refine (ip_Build.calls a0_0 a0_1 a0_2 a0_3 a0_4 a0_5 a0_6 a0_7 a0_8 _ _ l0_9 _ _ l0_10 t363 t366 _ ?side1 ?side2 ?side3 ?side4 A7.out).mono ?_); (case side1 => repeat (first | exact (Kd.C_below HR0_9.out HB.out) | (with_reducible refine Kd.C_alloc ?_ _) | (with_reducible refine Kd.C_drewN ?_ _) | (with_reducible refine Kd.C_drew ?_))); (case side2 => exact HC0_9.out); (case side3 => repeat (first | exact (Kd.C_below HR0_10.out HB.out) | (with_reducible refine Kd.C_alloc ?_ _) | (with_reducible refine Kd.C_drewN ?_ _) | (with_reducible refine Kd.C_drew ?_))); (case side4 => exact HC0_10.out); rintro e w14 ⟨v364, rfl, ho0, hb⟩; refine ⟨_, rfl, ?_⟩; have n0_ := Aside0.mk (Kd.R_lower ho0 (below_size (by repeat (first | (with_reducible first | exact HB.out | apply below_alloc | apply pw_below_drewN | apply below_drew1 | refine below_set ?_ GE359.out) | exact HB.out)))); have n1_ := Aside0.mk (blk_below (g := gb359) (o := .cells #[.int .i64 a0_0, .int .i64 a0_1, .bool a0_2, .bool a0_3, .int .i64 a0_4, .int .i64 a0_5, .int .i64 a0_6, .int .u32 a0_7, .int .u32 a0_8, .slice A0_9 l0_9.length c0_9, .slice A0_10 l0_10.length c0_10] 25 (0, 0)) (by (with_reducible repeat (first | refine blk_drewN ?_ _ | refine blk_drew ?_ | refine blk_alloc ?_ _)); exact BK359.out) hb); have n2_ := Aside0.mk (below_step (by repeat (first | (with_reducible first | exact HB.out | apply below_alloc | apply pw_below_drewN | apply below_drew1 | refine below_set ?_ GE359.out) | exact HB.out)) hb); clear BK359; clear HB; have HO365 := n0_; have BK359 := n1_; have HB := n2_; clear n0_ n1_ n2_; (try clear hb); (try clear hb2); (try clear hk); (try clear hi); (try clear ho0); have hcz15_0 : w14.cell? ⟨gb359, 0, none⟩ = some (.int .i64 a0_0) := (blk_cell BK359.out 0).trans rfl; have hcz15_1 : w14.cell? ⟨gb359, 1, none⟩ = some (.int .i64 a0_1) := (blk_cell BK359.out 1).trans rfl; have hcz15_2 : w14.cell? ⟨gb359, 2, none⟩ = some (.bool a0_2) := (blk_cell BK359.out 2).trans rfl; have hcz15_3 : w14.cell? ⟨gb359, 3, none⟩ = some (.bool a0_3) := (blk_cell BK359.out 3).trans rfl; have hcz15_4 : w14.cell? ⟨gb359, 4, none⟩ = some (.int .i64 a0_4) := (blk_cell BK359.out 4).trans rfl; have hcz15_5 : w14.cell? ⟨gb359, 5, none⟩ = some (.int .i64 a0_5) := (blk_cell BK359.out 5).trans rfl; have hcz15_6 : w14.cell? ⟨gb359, 6, none⟩ = some (.int .i64 a0_6) := (blk_cell BK359.out 6).trans rfl; have hcz15_7 : w14.cell? ⟨gb359, 7, none⟩ = some (.int .u32 a0_7) := (blk_cell BK359.out 7).trans rfl; have hcz15_8 : w14.cell? ⟨gb359, 8, none⟩ = some (.int .u32 a0_8) := (blk_cell BK359.out 8).trans rfl; have hcz15_9 : w14.cell? ⟨gb359, 9, none⟩ = some (.slice A0_9 l0_9.length c0_9) := (blk_cell BK359.out 9).trans rfl; have hcz15_10 : w14.cell? ⟨gb359, 10, none⟩ = some (.slice A0_10 l0_10.length c0_10) := (blk_cell BK359.out 10).trans rfl; have hfz15_0 := blk_frozen BK359.out 0; have hfz15_1 := blk_frozen BK359.out 1; have hfz15_2 := blk_frozen BK359.out 2; have hfz15_3 := blk_frozen BK359.out 3; have hfz15_4 := blk_frozen BK359.out 4; have hfz15_5 := blk_frozen BK359.out 5; have hfz15_6 := blk_frozen BK359.out 6; have hfz15_7 := blk_frozen BK359.out 7; have hfz15_8 := blk_frozen BK359.out 8; have hfz15_9 := blk_frozen BK359.out 9; have hfz15_10 := blk_frozen BK359.out 10))
      (try simp only [Act.put, List.setIfInBounds_toArray, List.set_cons_zero, List.set_cons_succ])
      go_cut [40] (fun v40 wc => ∃ (kq : Nat) (x40_7 : Bool), v40 = .bool x40_7 ∧ Aside0 (bailiwicklaw2_IpTurned.j0 kq a1 t363 x40_7 = some r) ∧ Aside0 (kq ≤ k) ∧ Aside0 (Kd.R (Kd.int .u8) 5 wc w.heap.size (fun _ => True) v364 t363) ∧ Aside0 (wc.heap[gb359]? = some (.cells #[.int .i64 a0_0, .int .i64 a0_1, .bool a0_2, .bool a0_3, .int .i64 a0_4, .int .i64 a0_5, .int .i64 a0_6, .int .u32 a0_7, .int .u32 a0_8, (.slice A0_9 l0_9.length c0_9), (.slice A0_10 l0_10.length c0_10)] 25 (0, 0))) ∧ Aside0 (Below w.heap.size w wc))
      case first =>
        have H := HC8.out
        clear HC8
        by_cases c16 : t366 = 0
        · rw [if_pos c16] at H
          have c16b0 : (t366 == 0) = true := beq_iff_eq.mpr c16
          have c16b1 : (t366 != 0) = false := bne_eq_false_iff_eq.mpr c16
          clear c16
          (first | rw [c16b0] | (simp only [i64_w, i32_w]; rw [c16b0]) | skip)
          by_cases c17 : a1 < 0
          · rw [if_pos c17] at H
            have c17b0 : decide (a1 < 0) = true := decide_eq_true c17
            clear c17
            have H' := Aside0.mk H
            clear H
            go_wp2
            go_meet
            case rel => exact ⟨_, (true), (by first | rfl | (simp; done) | (simp [*]; done)), H', ⟨by first | omega | exact Nat.le_refl _⟩, ⟨by (with_reducible repeat (first | apply Kd.R_alloc | apply Kd.R_drewN | apply Kd.R_drew)); exact HO365.out⟩, ⟨by (with_reducible repeat (first | refine blk_drewN ?_ _ | refine blk_drew ?_ | refine blk_alloc ?_ _)); exact BK359.out⟩, ⟨by repeat (first | (with_reducible first | exact HB.out | apply below_alloc | apply pw_below_drewN | apply below_drew1 | refine below_set ?_ GE359.out) | exact HB.out)⟩⟩
          · rw [if_neg c17] at H
            have c17b0 : decide (a1 < 0) = false := decide_eq_false c17
            clear c17
            by_cases c18 : (wrap64 (Int.tdiv a1 8)) ≥ (wrap64 (20 + (l0_9.length : Int)))
            · rw [if_pos c18] at H
              have c18b0 : decide ((wrap64 (20 + (l0_9.length : Int))) ≤ (wrap64 (Int.tdiv a1 8))) = true := decide_eq_true c18
              clear c18
              have H' := Aside0.mk H
              clear H
              go_wp2
              go_meet
              case rel => exact ⟨_, (true), (by first | rfl | (simp; done) | (simp [*]; done)), H', ⟨by first | omega | exact Nat.le_refl _⟩, ⟨by (with_reducible repeat (first | apply Kd.R_alloc | apply Kd.R_drewN | apply Kd.R_drew)); exact HO365.out⟩, ⟨by (with_reducible repeat (first | refine blk_drewN ?_ _ | refine blk_drew ?_ | refine blk_alloc ?_ _)); exact BK359.out⟩, ⟨by repeat (first | (with_reducible first | exact HB.out | apply below_alloc | apply pw_below_drewN | apply below_drew1 | refine below_set ?_ GE359.out) | exact HB.out)⟩⟩
            · rw [if_neg c18] at H
              have c18b0 : decide ((wrap64 (20 + (l0_9.length : Int))) ≤ (wrap64 (Int.tdiv a1 8))) = false := decide_eq_false c18
              clear c18
              have H' := Aside0.mk H
              clear H
              go_wp2
              go_meet
              case rel => exact ⟨_, (decide (a1 < 4)), (by first | rfl | (simp; done) | (simp [*]; done)), H', ⟨by first | omega | exact Nat.le_refl _⟩, ⟨by (with_reducible repeat (first | apply Kd.R_alloc | apply Kd.R_drewN | apply Kd.R_drew)); exact HO365.out⟩, ⟨by (with_reducible repeat (first | refine blk_drewN ?_ _ | refine blk_drew ?_ | refine blk_alloc ?_ _)); exact BK359.out⟩, ⟨by repeat (first | (with_reducible first | exact HB.out | apply below_alloc | apply pw_below_drewN | apply below_drew1 | refine below_set ?_ GE359.out) | exact HB.out)⟩⟩
        · rw [if_neg c16] at H
          have c16b0 : (t366 == 0) = false := beq_eq_false_iff_ne.mpr c16
          have c16b1 : (t366 != 0) = true := bne_iff_ne.mpr c16
          (first | rw [c16b0] | (simp only [i64_w, i32_w]; rw [c16b0]) | skip)
          have H' := Aside0.mk H
          clear H
          go_wp2
          go_meet
          case rel => exact ⟨_, (true), (by first | rfl | (simp; done) | (simp [*]; done)), H', ⟨by first | omega | exact Nat.le_refl _⟩, ⟨by (with_reducible repeat (first | apply Kd.R_alloc | apply Kd.R_drewN | apply Kd.R_drew)); exact HO365.out⟩, ⟨by (with_reducible repeat (first | refine blk_drewN ?_ _ | refine blk_drew ?_ | refine blk_alloc ?_ _)); exact BK359.out⟩, ⟨by repeat (first | (with_reducible first | exact HB.out | apply below_alloc | apply pw_below_drewN | apply below_drew1 | refine below_set ?_ GE359.out) | exact HB.out)⟩⟩
      case rest =>
        clear HC8
        try clear c1
        try clear p2
        try clear c4
        try clear c6
        try clear p6
        try clear c7
        try clear c13
        try clear c14
        try clear c15
        try clear c16
        try clear c16b0
        try clear c16b1
        try clear c17
        try clear c17b0
        try clear c18
        try clear c18b0
        try clear hcz11_0
        try clear hcz11_1
        try clear hcz11_10
        try clear hcz11_2
        try clear hcz11_3
        try clear hcz11_4
        try clear hcz11_5
        try clear hcz11_6
        try clear hcz11_7
        try clear hcz11_8
        try clear hcz11_9
        try clear hcz13_0
        try clear hcz13_1
        try clear hcz13_10
        try clear hcz13_2
        try clear hcz13_3
        try clear hcz13_4
        try clear hcz13_5
        try clear hcz13_6
        try clear hcz13_7
        try clear hcz13_8
        try clear hcz13_9
        try clear hcz15_0
        try clear hcz15_1
        try clear hcz15_10
        try clear hcz15_2
        try clear hcz15_3
        try clear hcz15_4
        try clear hcz15_5
        try clear hcz15_6
        try clear hcz15_7
        try clear hcz15_8
        try clear hcz15_9
        try clear hfz11_0
        try clear hfz11_1
        try clear hfz11_10
        try clear hfz11_2
        try clear hfz11_3
        try clear hfz11_4
        try clear hfz11_5
        try clear hfz11_6
        try clear hfz11_7
        try clear hfz11_8
        try clear hfz11_9
        try clear hfz13_0
        try clear hfz13_1
        try clear hfz13_10
        try clear hfz13_2
        try clear hfz13_3
        try clear hfz13_4
        try clear hfz13_5
        try clear hfz13_6
        try clear hfz13_7
        try clear hfz13_8
        try clear hfz13_9
        try clear hfz15_0
        try clear hfz15_1
        try clear hfz15_10
        try clear hfz15_2
        try clear hfz15_3
        try clear hfz15_4
        try clear hfz15_5
        try clear hfz15_6
        try clear hfz15_7
        try clear hfz15_8
        try clear hfz15_9
        obtain ⟨kq, x40_7, rfl, HA, HJ7, HO_5, BK359, HB⟩ := hcut
        cases kq with
        | zero => exact absurd HA.out (by simp [bailiwicklaw2_IpTurned.j0])
        | succ kj7 =>
          have H := HA.out
          clear HA
          simp only [bailiwicklaw2_IpTurned.j0] at H
          by_cases c19 : x40_7 = true
          · subst c19
            have H1 : ((bailiwicklaw2_awake.f).bind fun t367 => (some t367)) = some r := by rw [if_pos rfl] at H; exact H
            clear H
            have H := H1
            clear H1
            replace H := Option.bind_eq_some_iff.mp H
            obtain ⟨t367, A200, H⟩ := H
            replace H : (some t367) = some r := H
            have A20 := Aside0.mk A200
            clear A200
            obtain rfl := Option.some.inj H
            go_wp2_with (first | ((with_reducible refine gate_callee (f := 13) rfl ?_); refine goesL_ (some 41) rfl rfl Try.func13 (by kernel_rfl) rfl #[] rfl (by (try simp only [List.map_toArray, List.map_cons, List.map_nil]); first | done | rfl | (simp only [List.length_drop, List.length_take]; rfl)) ?_; (with_reducible refine (bailiwicklaw2_awake.calls  t367 _ A20.out).mono ?_); rintro e w21 ⟨rfl, hb⟩; refine ⟨_, rfl, ?_⟩; have n0_ := Aside0.mk (Kd.R_below (by (with_reducible repeat (first | apply Kd.R_alloc | apply Kd.R_drewN | apply Kd.R_drew)); exact HO_5.out) hb); have n1_ := Aside0.mk (blk_below (g := gb359) (o := .cells #[.int .i64 a0_0, .int .i64 a0_1, .bool a0_2, .bool a0_3, .int .i64 a0_4, .int .i64 a0_5, .int .i64 a0_6, .int .u32 a0_7, .int .u32 a0_8, .slice A0_9 l0_9.length c0_9, .slice A0_10 l0_10.length c0_10] 25 (0, 0)) (by (with_reducible repeat (first | refine blk_drewN ?_ _ | refine blk_drew ?_ | refine blk_alloc ?_ _)); exact BK359.out) hb); have n2_ := Aside0.mk (below_step (by repeat (first | (with_reducible first | exact HB.out | apply below_alloc | apply pw_below_drewN | apply below_drew1 | refine below_set ?_ GE359.out) | exact HB.out)) hb); clear HO_5; clear BK359; clear HB; have HO_5 := n0_; have BK359 := n1_; have HB := n2_; clear n0_ n1_ n2_; (try clear hb); (try clear hb2); (try clear hk); (try clear hi)))
            go_ret
            exact ⟨by first | rfl | (simp [errW_none, errW_some] <;> rfl) | (simp [*, errW_none, errW_some] <;> rfl), by repeat (first | (with_reducible first | exact HB.out | apply below_alloc | apply pw_below_drewN | apply below_drew1 | refine below_set ?_ GE359.out) | exact HB.out)⟩
          · replace c19 := Bool.eq_false_iff.mpr c19
            subst c19
            have H1 : (if 0 ≤ (wrap64 (Int.tdiv a1 8)) then (if (wrap64 (Int.tdiv a1 8)) < (t363.length : Int) then (if 0 ≤ (IntKind.u64.wrap (Int.tmod a1 8)) then ((ip_Parse.f (t363.set ((wrap64 (Int.tdiv a1 8)) : Int).toNat (Go.bits .xor .u8 (rd t363 (wrap64 (Int.tdiv a1 8))) (shl .u8 1 (IntKind.u64.wrap (Int.tmod a1 8)))))).bind fun bt370 => ((bailiwicklaw2_awake.f).bind fun t387 => (if t387 = true then (some (bt370.2.2.2.2.2.2.2.2.2.2.2 != 0)) else (some false)))) else (none)) else (none)) else (none)) = some r := by rw [if_neg (show ¬ (false = true) by decide)] at H; exact H
            clear H
            have H := H1
            clear H1
            obtain ⟨ji22, hji22⟩ : ∃ j_ : Int, (wrap64 (Int.tdiv a1 8)) = j_ := ⟨_, rfl⟩
            replace H : (if 0 ≤ (ji22) then (if (ji22) < (t363.length : Int) then (if 0 ≤ (IntKind.u64.wrap (Int.tmod a1 8)) then ((ip_Parse.f (t363.set ((ji22) : Int).toNat (Go.bits .xor .u8 (rd t363 (ji22)) (shl .u8 1 (IntKind.u64.wrap (Int.tmod a1 8)))))).bind fun bt370 => ((bailiwicklaw2_awake.f).bind fun t387 => (if t387 = true then (some (bt370.2.2.2.2.2.2.2.2.2.2.2 != 0)) else (some false)))) else (none)) else (none)) else (none)) = some r := by first | (rw [hji22] at H; exact H) | (simp only [hji22] at H ⊢; exact H)
            have hji22w : (IntKind.i64.wrap (Int.tdiv a1 8)) = ji22 := (i64_w _).trans hji22
            by_cases c23 : 0 ≤ (ji22)
            · rw [if_pos c23] at H
              have c23b0 : decide (0 ≤ (ji22)) = true := decide_eq_true c23
              clear c23
              by_cases c24 : (ji22) < (t363.length : Int)
              · rw [if_pos c24] at H
                have c24b0 : decide ((ji22) < (t363.length : Int)) = true := decide_eq_true c24
                clear c24
                obtain ⟨ji25, hji25⟩ : ∃ j_ : Int, (IntKind.u64.wrap (Int.tmod a1 8)) = j_ := ⟨_, rfl⟩
                replace H : (if 0 ≤ (ji25) then ((ip_Parse.f (t363.set ((ji22) : Int).toNat (Go.bits .xor .u8 (rd t363 (ji22)) (shl .u8 1 (ji25))))).bind fun bt370 => ((bailiwicklaw2_awake.f).bind fun t387 => (if t387 = true then (some (bt370.2.2.2.2.2.2.2.2.2.2.2 != 0)) else (some false)))) else (none)) = some r := by first | (rw [hji25] at H; exact H) | (simp only [hji25] at H ⊢; exact H)
                by_cases c26 : 0 ≤ (ji25)
                · rw [if_pos c26] at H
                  have c26b0 := eq_true c26
                  have c26b1 : decide (0 ≤ (ji25)) = true := decide_eq_true c26
                  clear c26
                  obtain ⟨ji27, hji27⟩ : ∃ j_ : Int, (shl .u8 1 (ji25)) = j_ := ⟨_, rfl⟩
                  replace H : ((ip_Parse.f (t363.set ((ji22) : Int).toNat (Go.bits .xor .u8 (rd t363 (ji22)) (ji27)))).bind fun bt370 => ((bailiwicklaw2_awake.f).bind fun t387 => (if t387 = true then (some (bt370.2.2.2.2.2.2.2.2.2.2.2 != 0)) else (some false)))) = some r := by first | (rw [hji27] at H; exact H) | (simp only [hji27] at H ⊢; exact H)
                  have hji27_ : (IntKind.u8.wrap (1 * 2 ^ min (ji25).toNat 8)) = ji27 := hji27
                  have hji27z : (ji25) ≤ 8 → (IntKind.u8.wrap (1 * 2 ^ (ji25).toNat)) = ji27 := shl_small hji27
                  have hji27u : (IntKind.u8.wrap (2 ^ min (ji25).toNat 8)) = ji27 := by have h_ := hji27_; rw [Int.one_mul] at h_; exact h_
                  have hji27v : (ji25) ≤ 8 → (IntKind.u8.wrap (2 ^ (ji25).toNat)) = ji27 := fun hle_ => by have h_ := hji27z hle_; rw [Int.one_mul] at h_; exact h_
                  obtain ⟨y369, hy369⟩ : ∃ y_ : List Int, y_ = (t363.set ((ji22) : Int).toNat (Go.bits .xor .u8 (rd t363 (ji22)) (ji27))) := ⟨_, rfl⟩
                  replace H : ((ip_Parse.f y369).bind fun bt370 => ((bailiwicklaw2_awake.f).bind fun t387 => (if t387 = true then (some (bt370.2.2.2.2.2.2.2.2.2.2.2 != 0)) else (some false)))) = some r := by first | (rw [hy369]; with_reducible exact H) | (have H2_ := (Option.bind_some _ _).symm.trans H; rw [hy369]; with_reducible exact H2_) | (have H2_ := (Option.bind_some _ _).symm.trans H; with_reducible exact H2_) | with_reducible exact H | (rw [hy369]; exact H) | exact H
                  have Ny369 := Aside0.mk hy369
                  clear hy369
                  replace H := Option.bind_eq_some_iff.mp H
                  obtain ⟨⟨t370, t371, t372, t373, t374, t375, t376, t377, t378, t379, t382, t385⟩, A290, H⟩ := H
                  replace H : ((bailiwicklaw2_awake.f).bind fun t387 => (if t387 = true then (some (t385 != 0)) else (some false))) = some r := H
                  have A29 := Aside0.mk A290
                  clear A290
                  replace H := Option.bind_eq_some_iff.mp H
                  obtain ⟨t387, A300, H⟩ := H
                  replace H : (if t387 = true then (some (t385 != 0)) else (some false)) = some r := H
                  have A30 := Aside0.mk A300
                  clear A300
                  by_cases c31 : t387 = true
                  · subst c31
                    have H1 : (some (t385 != 0)) = some r := by rw [if_pos rfl] at H; exact H
                    clear H
                    have H := H1
                    clear H1
                    obtain rfl := Option.some.inj H
                    obtain ⟨Ao32, co32, eo32⟩ := Kd.R_slice HO_5.out
                    subst eo32
                    have p368 : 0 ≤ ((ji22) : Int) := of_decide_eq_true (by first | (with_reducible assumption) | assumption)
                    have q368 : (ji22) < (t363.length : Int) := of_decide_eq_true (by first | (with_reducible assumption) | assumption)
                    obtain ⟨ad368, e368, hx368_0⟩ := Kd.at_int (Kd.R_reads' HO_5.out).2.2 (ji22) p368 q368
                    cases e368
                    replace p368 := eq_true p368
                    replace q368 := eq_true q368
                    have p28 : 0 ≤ ((ji22) : Int) := of_decide_eq_true (by first | (with_reducible assumption) | assumption)
                    have q28 : ((ji22) : Int) < ((t363.length : Int) : Int) := of_decide_eq_true (by first | (with_reducible assumption) | assumption)
                    obtain ⟨go28, co28, eo28, gb28, gl28, cl28, HG28⟩ := Kd.R_form HO_5.out (by omega)
                    (first | cases eo28 | (injection eo28 with ea_ en_ ec_; (first | subst ea_ | (injection ea_ with ea_; subst ea_)); subst ec_; clear en_))
                    have GB28 := Aside0.mk gb28
                    have GG28 := Aside0.mk HG28
                    clear gb28 gl28 HG28
                    (first | simp only [add_plain] at hx368_0 | skip)
                    obtain ⟨hx28_0, hf28_0⟩ := Kd.R_celln 0 HO_5.out ((ji22) : Int) p28 q28
                    replace p28 := eq_true p28
                    replace q28 := eq_true q28
                    have HP33 := Kd.R_putg HO_5.out ((ji22) : Int) (Go.bits .xor .u8 (rd t363 (ji22)) (ji27))
                    go_wp2_with (first | ((with_reducible refine gate_store (t := 5) (p := 52) rfl ?_); refine store_event (t := 5) (p := 52) (v := ?vo_w34) (w1 := (wc.setCell ⟨go28, ((ji22) : Int).toNat, none⟩ (.int .u8 (Go.bits .xor .u8 (rd t363 (ji22)) (ji27))))) ?hg ?ho ?hn ?hr ?_; (case ho => rfl); (case hg => rfl); (case hn => rfl); (case hr => first | (go_simp; done) | (go_simp; rfl)); intro w34 hw; have hg : wc.grownBy w34 (some go28) := (by rw [hw]; exact HP33.2); have hp_ : Kd.R (Kd.int .u8) 5 w34 w.heap.size (fun _ => True) (.slice (some ⟨go28, 0, none⟩) t363.length co32) y369 := (by rw [hw, Ny369.out]; exact HP33.1); clear HP33; have n0_ := Aside0.mk (hp_); have n1_ := Aside0.mk (blk_grown (g := gb359) (o := .cells #[.int .i64 a0_0, .int .i64 a0_1, .bool a0_2, .bool a0_3, .int .i64 a0_4, .int .i64 a0_5, .int .i64 a0_6, .int .u32 a0_7, .int .u32 a0_8, .slice A0_9 l0_9.length c0_9, .slice A0_10 l0_10.length c0_10] 25 (0, 0)) (by (with_reducible repeat (first | refine blk_drewN ?_ _ | refine blk_drew ?_ | refine blk_alloc ?_ _)); exact BK359.out) hg (Kd.R_ne HO_5.out BK359.out (by decide))); have n2_ := Aside0.mk ((by rw [hw]; exact below_set (HB.out) GB28.out : Below w.heap.size w w34)); clear HO_5; clear BK359; clear HB; have HO_5 := n0_; have BK359 := n1_; have HB := n2_; clear n0_ n1_ n2_; clear hg hw hp_) | ((with_reducible refine gate_callee (f := 18) rfl ?_); refine goesL_ (some 55) rfl rfl Try.func18 (by kernel_rfl) rfl #[.slice (some ⟨go28, 0, none⟩) y369.length co32] rfl (by (try simp only [List.map_toArray, List.map_cons, List.map_nil]); first | done | (rw [show y369.length = t363.length from (Kd.R_reads' HO_5.out).1.symm] <;> rfl) | rfl | (simp only [List.length_drop, List.length_take]; rfl)) ?_; (with_reducible refine (ip_Parse.calls _ _ y369 t370 t371 t372 t373 t374 t375 t376 t377 t378 t379 t382 t385 _ ?side1 ?side2 A29.out).mono ?_); (case side1 => repeat (first | exact (Kd.R_reads' HO_5.out).2.2 | (with_reducible refine Kd.C_alloc ?_ _) | (with_reducible refine Kd.C_drewN ?_ _) | (with_reducible refine Kd.C_drew ?_))); (case side2 => rw [show y369.length = t363.length from (Kd.R_reads' HO_5.out).1.symm]; exact (Kd.R_reads' HO_5.out).2.1); rintro e w35 ⟨v380, v383, rfl, ho0, ho1, hb⟩; refine ⟨_, rfl, ?_⟩; have n0_ := Aside0.mk (Kd.R_mono (Kd.R_told (Kd.R_told (Kd.R_old (by (with_reducible repeat (first | apply Kd.R_alloc | apply Kd.R_drewN | apply Kd.R_drew)); exact HO_5.out) hb) (Kd.R_base ho0)) (Kd.R_base ho1)) (fun _ h_ => h_.1)); have n1_ := Aside0.mk (Kd.R_lower (Kd.R_new' ho0 (Kd.R_lt (by (with_reducible repeat (first | apply Kd.R_alloc | apply Kd.R_drewN | apply Kd.R_drew)); exact HO_5.out))) (below_size (by repeat (first | (with_reducible first | exact HB.out | apply below_alloc | apply pw_below_drewN | apply below_drew1 | refine below_set ?_ GE359.out) | exact HB.out)))); have n2_ := Aside0.mk (Kd.R_lower (Kd.R_new' ho1 (Kd.R_lt (by (with_reducible repeat (first | apply Kd.R_alloc | apply Kd.R_drewN | apply Kd.R_drew)); exact HO_5.out))) (below_size (by repeat (first | (with_reducible first | exact HB.out | apply below_alloc | apply pw_below_drewN | apply below_drew1 | refine below_set ?_ GE359.out) | exact HB.out)))); have n3_ := Aside0.mk (blk_below (g := gb359) (o := .cells #[.int .i64 a0_0, .int .i64 a0_1, .bool a0_2, .bool a0_3, .int .i64 a0_4, .int .i64 a0_5, .int .i64 a0_6, .int .u32 a0_7, .int .u32 a0_8, .slice A0_9 l0_9.length c0_9, .slice A0_10 l0_10.length c0_10] 25 (0, 0)) (by (with_reducible repeat (first | refine blk_drewN ?_ _ | refine blk_drew ?_ | refine blk_alloc ?_ _)); exact BK359.out) hb); have n4_ := Aside0.mk (below_step (by repeat (first | (with_reducible first | exact HB.out | apply below_alloc | apply pw_below_drewN | apply below_drew1 | refine below_set ?_ GE359.out) | exact HB.out)) hb); clear HO_5; clear BK359; clear HB; have HO_5 := n0_; have HO381 := n1_; have HO384 := n2_; have BK359 := n3_; have HB := n4_; clear n0_ n1_ n2_ n3_ n4_; (try clear hb); (try clear hb2); (try clear hk); (try clear hi); (try clear ho0); (try clear ho1)) | ((with_reducible refine gate_dst (N := 8) rfl ?_); refine box_event ?hg (N := 8) ?hd (cs := #[.int .i64 0, .int .i64 0, .bool false, .bool false, .int .i64 0, .int .i64 0, .int .i64 0, .int .u32 0, .int .u32 0, .slice none 0 0, .slice none 0 0]) (t := 25) ?hr ?_; (case hd => rfl); (case hg => rfl); (case hr => first | (go_simp; done) | (go_simp; rfl)); intro gb386 hg w36 hbox hb; have n0_ := Aside0.mk (Kd.R_below (by (with_reducible repeat (first | apply Kd.R_alloc | apply Kd.R_drewN | apply Kd.R_drew)); exact HO_5.out) hb); have n1_ := Aside0.mk (Kd.R_below (by (with_reducible repeat (first | apply Kd.R_alloc | apply Kd.R_drewN | apply Kd.R_drew)); exact HO381.out) hb); have n2_ := Aside0.mk (Kd.R_below (by (with_reducible repeat (first | apply Kd.R_alloc | apply Kd.R_drewN | apply Kd.R_drew)); exact HO384.out) hb); have n3_ := Aside0.mk (blk_below (g := gb359) (o := .cells #[.int .i64 a0_0, .int .i64 a0_1, .bool a0_2, .bool a0_3, .int .i64 a0_4, .int .i64 a0_5, .int .i64 a0_6, .int .u32 a0_7, .int .u32 a0_8, .slice A0_9 l0_9.length c0_9, .slice A0_10 l0_10.length c0_10] 25 (0, 0)) (by (with_reducible repeat (first | refine blk_drewN ?_ _ | refine blk_drew ?_ | refine blk_alloc ?_ _)); exact BK359.out) hb); have n4_ := Aside0.mk (below_step (by repeat (first | (with_reducible first | exact HB.out | apply below_alloc | apply pw_below_drewN | apply below_drew1 | refine below_set ?_ GE359.out) | exact HB.out)) hb); have n5_ := Aside0.mk (hbox); have n6_ := Aside0.mk ((by rw [hg]; exact (below_size (by repeat (first | (with_reducible first | exact HB.out | apply below_alloc | apply pw_below_drewN | apply below_drew1 | refine below_set ?_ GE359.out) | exact HB.out))) : w.heap.size ≤ gb386)); have n7_ := Aside0.mk ((by rw [hg]; exact (below_size (by repeat (first | (with_reducible first | exact HB.out | apply below_alloc | apply pw_below_drewN | apply below_drew1 | refine below_set ?_ GE359.out) | exact HB.out))) : w.heap.size ≤ gb386)); have n8_ := Aside0.mk ((by rw [hg]; exact Nat.ne_of_lt (blk_lt (g := gb359) (o := .cells #[.int .i64 a0_0, .int .i64 a0_1, .bool a0_2, .bool a0_3, .int .i64 a0_4, .int .i64 a0_5, .int .i64 a0_6, .int .u32 a0_7, .int .u32 a0_8, .slice A0_9 l0_9.length c0_9, .slice A0_10 l0_10.length c0_10] 25 (0, 0)) (by (with_reducible repeat (first | refine blk_drewN ?_ _ | refine blk_drew ?_ | refine blk_alloc ?_ _)); exact BK359.out)) : gb359 ≠ gb386)); have n9_ := Aside0.mk ((by rw [hg]; exact Nat.ne_of_gt (blk_lt (g := gb359) (o := .cells #[.int .i64 a0_0, .int .i64 a0_1, .bool a0_2, .bool a0_3, .int .i64 a0_4, .int .i64 a0_5, .int .i64 a0_6, .int .u32 a0_7, .int .u32 a0_8, .slice A0_9 l0_9.length c0_9, .slice A0_10 l0_10.length c0_10] 25 (0, 0)) (by (with_reducible repeat (first | refine blk_drewN ?_ _ | refine blk_drew ?_ | refine blk_alloc ?_ _)); exact BK359.out)) : gb386 ≠ gb359)); clear HO_5; clear HO381; clear HO384; clear BK359; clear HB; have HO_5 := n0_; have HO381 := n1_; have HO384 := n2_; have BK359 := n3_; have HB := n4_; have BK386 := n5_; have GW386 := n6_; have GE386 := n7_; have NB359_386 := n8_; have NB386_359 := n9_; clear n0_ n1_ n2_ n3_ n4_ n5_ n6_ n7_ n8_ n9_; clear hb hbox hg; have hnb37 := NB386_359.out; have hnc37 := NB359_386.out; have hcz38_0 : w36.cell? ⟨gb386, 0, none⟩ = some (.int .i64 0) := (blk_cell BK386.out 0).trans rfl; have hcz38_1 : w36.cell? ⟨gb386, 1, none⟩ = some (.int .i64 0) := (blk_cell BK386.out 1).trans rfl; have hcz38_2 : w36.cell? ⟨gb386, 2, none⟩ = some (.bool false) := (blk_cell BK386.out 2).trans rfl; have hcz38_3 : w36.cell? ⟨gb386, 3, none⟩ = some (.bool false) := (blk_cell BK386.out 3).trans rfl; have hcz38_4 : w36.cell? ⟨gb386, 4, none⟩ = some (.int .i64 0) := (blk_cell BK386.out 4).trans rfl; have hcz38_5 : w36.cell? ⟨gb386, 5, none⟩ = some (.int .i64 0) := (blk_cell BK386.out 5).trans rfl; have hcz38_6 : w36.cell? ⟨gb386, 6, none⟩ = some (.int .i64 0) := (blk_cell BK386.out 6).trans rfl; have hcz38_7 : w36.cell? ⟨gb386, 7, none⟩ = some (.int .u32 0) := (blk_cell BK386.out 7).trans rfl; have hcz38_8 : w36.cell? ⟨gb386, 8, none⟩ = some (.int .u32 0) := (blk_cell BK386.out 8).trans rfl; have hcz38_9 : w36.cell? ⟨gb386, 9, none⟩ = some (.slice none 0 0) := (blk_cell BK386.out 9).trans rfl; have hcz38_10 : w36.cell? ⟨gb386, 10, none⟩ = some (.slice none 0 0) := (blk_cell BK386.out 10).trans rfl; have hfz38_0 := blk_frozen BK386.out 0; have hfz38_1 := blk_frozen BK386.out 1; have hfz38_2 := blk_frozen BK386.out 2; have hfz38_3 := blk_frozen BK386.out 3; have hfz38_4 := blk_frozen BK386.out 4; have hfz38_5 := blk_frozen BK386.out 5; have hfz38_6 := blk_frozen BK386.out 6; have hfz38_7 := blk_frozen BK386.out 7; have hfz38_8 := blk_frozen BK386.out 8; have hfz38_9 := blk_frozen BK386.out 9; have hfz38_10 := blk_frozen BK386.out 10; obtain ⟨Ao39, co39, eo39⟩ := Kd.R_slice HO381.out; subst eo39; obtain ⟨Ao40, co40, eo40⟩ := Kd.R_slice HO384.out; subst eo40) | ((with_reducible refine gate_callee (f := 13) rfl ?_); refine goesL_ (some 58) rfl rfl Try.func13 (by kernel_rfl) rfl #[] rfl (by (try simp only [List.map_toArray, List.map_cons, List.map_nil]); first | done | rfl | (simp only [List.length_drop, List.length_take]; rfl)) ?_; (with_reducible refine (bailiwicklaw2_awake.calls  true _ A30.out).mono ?_); rintro e w41 ⟨rfl, hb⟩; refine ⟨_, rfl, ?_⟩; have n0_ := Aside0.mk (Kd.R_below (by (with_reducible repeat (first | apply Kd.R_alloc | apply Kd.R_drewN | apply Kd.R_drew)); exact (Kd.R_mono (Kd.R_far (p := ⟨gb386, 10, none⟩) (Kd.R_far (p := ⟨gb386, 9, none⟩) (Kd.R_far (p := ⟨gb386, 8, none⟩) (Kd.R_far (p := ⟨gb386, 7, none⟩) (Kd.R_far (p := ⟨gb386, 6, none⟩) (Kd.R_far (p := ⟨gb386, 5, none⟩) (Kd.R_far (p := ⟨gb386, 4, none⟩) (Kd.R_far (p := ⟨gb386, 3, none⟩) (Kd.R_far (p := ⟨gb386, 2, none⟩) (Kd.R_far (p := ⟨gb386, 1, none⟩) (Kd.R_far (p := ⟨gb386, 0, none⟩) (Kd.R_types HO_5.out BK386.out (by decide)) (fun _ hk => hk.2) (.int .i64 t370)) (fun _ hk => hk.2) (.int .i64 t371)) (fun _ hk => hk.2) (.bool t372)) (fun _ hk => hk.2) (.bool t373)) (fun _ hk => hk.2) (.int .i64 t374)) (fun _ hk => hk.2) (.int .i64 t375)) (fun _ hk => hk.2) (.int .i64 t376)) (fun _ hk => hk.2) (.int .u32 t377)) (fun _ hk => hk.2) (.int .u32 t378)) (fun _ hk => hk.2) (.slice Ao39 t379.length co39)) (fun _ hk => hk.2) (.slice Ao40 t382.length co40)) (fun _ h_ => h_.1))) hb); have n1_ := Aside0.mk (Kd.R_below (by (with_reducible repeat (first | apply Kd.R_alloc | apply Kd.R_drewN | apply Kd.R_drew)); exact (Kd.R_mono (Kd.R_far (p := ⟨gb386, 10, none⟩) (Kd.R_far (p := ⟨gb386, 9, none⟩) (Kd.R_far (p := ⟨gb386, 8, none⟩) (Kd.R_far (p := ⟨gb386, 7, none⟩) (Kd.R_far (p := ⟨gb386, 6, none⟩) (Kd.R_far (p := ⟨gb386, 5, none⟩) (Kd.R_far (p := ⟨gb386, 4, none⟩) (Kd.R_far (p := ⟨gb386, 3, none⟩) (Kd.R_far (p := ⟨gb386, 2, none⟩) (Kd.R_far (p := ⟨gb386, 1, none⟩) (Kd.R_far (p := ⟨gb386, 0, none⟩) (Kd.R_types HO381.out BK386.out (by decide)) (fun _ hk => hk.2) (.int .i64 t370)) (fun _ hk => hk.2) (.int .i64 t371)) (fun _ hk => hk.2) (.bool t372)) (fun _ hk => hk.2) (.bool t373)) (fun _ hk => hk.2) (.int .i64 t374)) (fun _ hk => hk.2) (.int .i64 t375)) (fun _ hk => hk.2) (.int .i64 t376)) (fun _ hk => hk.2) (.int .u32 t377)) (fun _ hk => hk.2) (.int .u32 t378)) (fun _ hk => hk.2) (.slice Ao39 t379.length co39)) (fun _ hk => hk.2) (.slice Ao40 t382.length co40)) (fun _ h_ => h_.1))) hb); have n2_ := Aside0.mk (Kd.R_below (by (with_reducible repeat (first | apply Kd.R_alloc | apply Kd.R_drewN | apply Kd.R_drew)); exact (Kd.R_mono (Kd.R_far (p := ⟨gb386, 10, none⟩) (Kd.R_far (p := ⟨gb386, 9, none⟩) (Kd.R_far (p := ⟨gb386, 8, none⟩) (Kd.R_far (p := ⟨gb386, 7, none⟩) (Kd.R_far (p := ⟨gb386, 6, none⟩) (Kd.R_far (p := ⟨gb386, 5, none⟩) (Kd.R_far (p := ⟨gb386, 4, none⟩) (Kd.R_far (p := ⟨gb386, 3, none⟩) (Kd.R_far (p := ⟨gb386, 2, none⟩) (Kd.R_far (p := ⟨gb386, 1, none⟩) (Kd.R_far (p := ⟨gb386, 0, none⟩) (Kd.R_types HO384.out BK386.out (by decide)) (fun _ hk => hk.2) (.int .i64 t370)) (fun _ hk => hk.2) (.int .i64 t371)) (fun _ hk => hk.2) (.bool t372)) (fun _ hk => hk.2) (.bool t373)) (fun _ hk => hk.2) (.int .i64 t374)) (fun _ hk => hk.2) (.int .i64 t375)) (fun _ hk => hk.2) (.int .i64 t376)) (fun _ hk => hk.2) (.int .u32 t377)) (fun _ hk => hk.2) (.int .u32 t378)) (fun _ hk => hk.2) (.slice Ao39 t379.length co39)) (fun _ hk => hk.2) (.slice Ao40 t382.length co40)) (fun _ h_ => h_.1))) hb); have n3_ := Aside0.mk (blk_below (g := gb359) (o := .cells #[.int .i64 a0_0, .int .i64 a0_1, .bool a0_2, .bool a0_3, .int .i64 a0_4, .int .i64 a0_5, .int .i64 a0_6, .int .u32 a0_7, .int .u32 a0_8, .slice A0_9 l0_9.length c0_9, .slice A0_10 l0_10.length c0_10] 25 (0, 0)) (by (with_reducible repeat (first | refine blk_drewN ?_ _ | refine blk_drew ?_ | refine blk_alloc ?_ _)); refine blk_far ?_ NB359_386.out _; (with_reducible repeat (first | refine blk_drewN ?_ _ | refine blk_drew ?_ | refine blk_alloc ?_ _)); refine blk_far ?_ NB359_386.out _; (with_reducible repeat (first | refine blk_drewN ?_ _ | refine blk_drew ?_ | refine blk_alloc ?_ _)); refine blk_far ?_ NB359_386.out _; (with_reducible repeat (first | refine blk_drewN ?_ _ | refine blk_drew ?_ | refine blk_alloc ?_ _)); refine blk_far ?_ NB359_386.out _; (with_reducible repeat (first | refine blk_drewN ?_ _ | refine blk_drew ?_ | refine blk_alloc ?_ _)); refine blk_far ?_ NB359_386.out _; (with_reducible repeat (first | refine blk_drewN ?_ _ | refine blk_drew ?_ | refine blk_alloc ?_ _)); refine blk_far ?_ NB359_386.out _; (with_reducible repeat (first | refine blk_drewN ?_ _ | refine blk_drew ?_ | refine blk_alloc ?_ _)); refine blk_far ?_ NB359_386.out _; (with_reducible repeat (first | refine blk_drewN ?_ _ | refine blk_drew ?_ | refine blk_alloc ?_ _)); refine blk_far ?_ NB359_386.out _; (with_reducible repeat (first | refine blk_drewN ?_ _ | refine blk_drew ?_ | refine blk_alloc ?_ _)); refine blk_far ?_ NB359_386.out _; (with_reducible repeat (first | refine blk_drewN ?_ _ | refine blk_drew ?_ | refine blk_alloc ?_ _)); refine blk_far ?_ NB359_386.out _; (with_reducible repeat (first | refine blk_drewN ?_ _ | refine blk_drew ?_ | refine blk_alloc ?_ _)); refine blk_far ?_ NB359_386.out _; (with_reducible repeat (first | refine blk_drewN ?_ _ | refine blk_drew ?_ | refine blk_alloc ?_ _)); exact BK359.out) hb); have n4_ := Aside0.mk (blk_below (g := gb386) (o := .cells #[.int .i64 t370, .int .i64 t371, .bool t372, .bool t373, .int .i64 t374, .int .i64 t375, .int .i64 t376, .int .u32 t377, .int .u32 t378, .slice Ao39 t379.length co39, .slice Ao40 t382.length co40] 25 (0, 0)) (by (with_reducible repeat (first | refine blk_drewN ?_ _ | refine blk_drew ?_ | refine blk_alloc ?_ _)); refine blk_put (cs := #[.int .i64 t370, .int .i64 t371, .bool t372, .bool t373, .int .i64 t374, .int .i64 t375, .int .i64 t376, .int .u32 t377, .int .u32 t378, .slice Ao39 t379.length co39, .slice none 0 0]) ?_ 10 _ rfl; (with_reducible repeat (first | refine blk_drewN ?_ _ | refine blk_drew ?_ | refine blk_alloc ?_ _)); refine blk_put (cs := #[.int .i64 t370, .int .i64 t371, .bool t372, .bool t373, .int .i64 t374, .int .i64 t375, .int .i64 t376, .int .u32 t377, .int .u32 t378, .slice none 0 0, .slice none 0 0]) ?_ 9 _ rfl; (with_reducible repeat (first | refine blk_drewN ?_ _ | refine blk_drew ?_ | refine blk_alloc ?_ _)); refine blk_put (cs := #[.int .i64 t370, .int .i64 t371, .bool t372, .bool t373, .int .i64 t374, .int .i64 t375, .int .i64 t376, .int .u32 t377, .int .u32 0, .slice none 0 0, .slice none 0 0]) ?_ 8 _ rfl; (with_reducible repeat (first | refine blk_drewN ?_ _ | refine blk_drew ?_ | refine blk_alloc ?_ _)); refine blk_put (cs := #[.int .i64 t370, .int .i64 t371, .bool t372, .bool t373, .int .i64 t374, .int .i64 t375, .int .i64 t376, .int .u32 0, .int .u32 0, .slice none 0 0, .slice none 0 0]) ?_ 7 _ rfl; (with_reducible repeat (first | refine blk_drewN ?_ _ | refine blk_drew ?_ | refine blk_alloc ?_ _)); refine blk_put (cs := #[.int .i64 t370, .int .i64 t371, .bool t372, .bool t373, .int .i64 t374, .int .i64 t375, .int .i64 0, .int .u32 0, .int .u32 0, .slice none 0 0, .slice none 0 0]) ?_ 6 _ rfl; (with_reducible repeat (first | refine blk_drewN ?_ _ | refine blk_drew ?_ | refine blk_alloc ?_ _)); refine blk_put (cs := #[.int .i64 t370, .int .i64 t371, .bool t372, .bool t373, .int .i64 t374, .int .i64 0, .int .i64 0, .int .u32 0, .int .u32 0, .slice none 0 0, .slice none 0 0]) ?_ 5 _ rfl; (with_reducible repeat (first | refine blk_drewN ?_ _ | refine blk_drew ?_ | refine blk_alloc ?_ _)); refine blk_put (cs := #[.int .i64 t370, .int .i64 t371, .bool t372, .bool t373, .int .i64 0, .int .i64 0, .int .i64 0, .int .u32 0, .int .u32 0, .slice none 0 0, .slice none 0 0]) ?_ 4 _ rfl; (with_reducible repeat (first | refine blk_drewN ?_ _ | refine blk_drew ?_ | refine blk_alloc ?_ _)); refine blk_put (cs := #[.int .i64 t370, .int .i64 t371, .bool t372, .bool false, .int .i64 0, .int .i64 0, .int .i64 0, .int .u32 0, .int .u32 0, .slice none 0 0, .slice none 0 0]) ?_ 3 _ rfl; (with_reducible repeat (first | refine blk_drewN ?_ _ | refine blk_drew ?_ | refine blk_alloc ?_ _)); refine blk_put (cs := #[.int .i64 t370, .int .i64 t371, .bool false, .bool false, .int .i64 0, .int .i64 0, .int .i64 0, .int .u32 0, .int .u32 0, .slice none 0 0, .slice none 0 0]) ?_ 2 _ rfl; (with_reducible repeat (first | refine blk_drewN ?_ _ | refine blk_drew ?_ | refine blk_alloc ?_ _)); refine blk_put (cs := #[.int .i64 t370, .int .i64 0, .bool false, .bool false, .int .i64 0, .int .i64 0, .int .i64 0, .int .u32 0, .int .u32 0, .slice none 0 0, .slice none 0 0]) ?_ 1 _ rfl; (with_reducible repeat (first | refine blk_drewN ?_ _ | refine blk_drew ?_ | refine blk_alloc ?_ _)); refine blk_put (cs := #[.int .i64 0, .int .i64 0, .bool false, .bool false, .int .i64 0, .int .i64 0, .int .i64 0, .int .u32 0, .int .u32 0, .slice none 0 0, .slice none 0 0]) ?_ 0 _ rfl; (with_reducible repeat (first | refine blk_drewN ?_ _ | refine blk_drew ?_ | refine blk_alloc ?_ _)); exact BK386.out) hb); have n5_ := Aside0.mk (below_step (by repeat (first | (with_reducible first | exact HB.out | apply below_alloc | apply pw_below_drewN | apply below_drew1 | refine below_set ?_ GE359.out | refine below_set ?_ GE386.out) | exact HB.out)) hb); clear HO_5; clear HO381; clear HO384; clear BK359; clear BK386; clear HB; have HO_5 := n0_; have HO381 := n1_; have HO384 := n2_; have BK359 := n3_; have BK386 := n4_; have HB := n5_; clear n0_ n1_ n2_ n3_ n4_ n5_; (try clear hb); (try clear hb2); (try clear hk); (try clear hi)))
                    go_ret
                    exact ⟨by first | rfl | (simp [errW_none, errW_some] <;> rfl) | (simp only [← hji22, ← hji25, ← hji27]; first | rfl | (simp [errW_none, errW_some] <;> rfl)) | (simp [*, errW_none, errW_some] <;> rfl), by repeat (first | (with_reducible first | exact HB.out | apply below_alloc | apply pw_below_drewN | apply below_drew1 | refine below_set ?_ GE359.out | refine below_set ?_ GE386.out) | exact HB.out)⟩
                  · replace c31 := Bool.eq_false_iff.mpr c31
                    subst c31
                    have H1 : (some false) = some r := by rw [if_neg (show ¬ (false = true) by decide)] at H; exact H
                    clear H
                    have H := H1
                    clear H1
                    exact absurd ((Option.some.inj H).trans hT) (by decide)
                · rw [if_neg c26] at H
                  exact absurd H (by simp)
              · rw [if_neg c24] at H
                exact absurd H (by simp)
            · rw [if_neg c23] at H
              exact absurd H (by simp)
    · replace c6 := Bool.eq_false_iff.mpr c6
      subst c6
      have H1 : ((bailiwicklaw2_awake.f).bind fun t362 => (some t362)) = some r := by rw [if_neg (show ¬ (false = true) by decide)] at H; exact H
      clear H
      have H := H1
      clear H1
      replace H := Option.bind_eq_some_iff.mp H
      obtain ⟨t362, A520, H⟩ := H
      replace H : (some t362) = some r := H
      have A52 := Aside0.mk A520
      clear A520
      obtain rfl := Option.some.inj H
      go_enter Try.func7, Try.ntmps7
      go_wp2_with (first | ((with_reducible refine gate_dst (N := 2) rfl ?_); refine box_event ?hg (N := 2) ?hd (cs := #[.int .i64 a0_0, .int .i64 a0_1, .bool a0_2, .bool a0_3, .int .i64 a0_4, .int .i64 a0_5, .int .i64 a0_6, .int .u32 a0_7, .int .u32 a0_8, .slice A0_9 l0_9.length c0_9, .slice A0_10 l0_10.length c0_10]) (t := 25) ?hr ?_; (case hd => rfl); (case hg => rfl); (case hr => first | (go_simp; done) | (go_simp; rfl)); intro gb359 hg w53 hbox hb; have n0_ := Aside0.mk (below_step (by repeat (first | (with_reducible first | exact HB.out | apply below_alloc | apply pw_below_drewN | apply below_drew1) | exact HB.out)) hb); have n1_ := Aside0.mk (hbox); have n2_ := Aside0.mk ((by rw [hg]; exact (below_size (by repeat (first | (with_reducible first | exact HB.out | apply below_alloc | apply pw_below_drewN | apply below_drew1) | exact HB.out))) : w.heap.size ≤ gb359)); have n3_ := Aside0.mk ((by rw [hg]; exact (below_size (by repeat (first | (with_reducible first | exact HB.out | apply below_alloc | apply pw_below_drewN | apply below_drew1) | exact HB.out))) : w.heap.size ≤ gb359)); clear HB; have HB := n0_; have BK359 := n1_; have GW359 := n2_; have GE359 := n3_; clear n0_ n1_ n2_ n3_; clear hb hbox hg) | ((with_reducible refine gate_callee (f := 13) rfl ?_); refine goesL_ (some 10) rfl rfl Try.func13 (by kernel_rfl) rfl #[] rfl (by (try simp only [List.map_toArray, List.map_cons, List.map_nil]); first | done | rfl | (simp only [List.length_drop, List.length_take]; rfl)) ?_; (with_reducible refine (bailiwicklaw2_awake.calls  true _ A3.out).mono ?_); rintro e w54 ⟨rfl, hb⟩; refine ⟨_, rfl, ?_⟩; have n0_ := Aside0.mk (blk_below (g := gb359) (o := .cells #[.int .i64 a0_0, .int .i64 a0_1, .bool a0_2, .bool a0_3, .int .i64 a0_4, .int .i64 a0_5, .int .i64 a0_6, .int .u32 a0_7, .int .u32 a0_8, .slice A0_9 l0_9.length c0_9, .slice A0_10 l0_10.length c0_10] 25 (0, 0)) (by (with_reducible repeat (first | refine blk_drewN ?_ _ | refine blk_drew ?_ | refine blk_alloc ?_ _)); exact BK359.out) hb); have n1_ := Aside0.mk (below_step (by repeat (first | (with_reducible first | exact HB.out | apply below_alloc | apply pw_below_drewN | apply below_drew1 | refine below_set ?_ GE359.out) | exact HB.out)) hb); clear BK359; clear HB; have BK359 := n0_; have HB := n1_; clear n0_ n1_; (try clear hb); (try clear hb2); (try clear hk); (try clear hi); have hcz55_0 : w54.cell? ⟨gb359, 0, none⟩ = some (.int .i64 a0_0) := (blk_cell BK359.out 0).trans rfl; have hcz55_1 : w54.cell? ⟨gb359, 1, none⟩ = some (.int .i64 a0_1) := (blk_cell BK359.out 1).trans rfl; have hcz55_2 : w54.cell? ⟨gb359, 2, none⟩ = some (.bool a0_2) := (blk_cell BK359.out 2).trans rfl; have hcz55_3 : w54.cell? ⟨gb359, 3, none⟩ = some (.bool a0_3) := (blk_cell BK359.out 3).trans rfl; have hcz55_4 : w54.cell? ⟨gb359, 4, none⟩ = some (.int .i64 a0_4) := (blk_cell BK359.out 4).trans rfl; have hcz55_5 : w54.cell? ⟨gb359, 5, none⟩ = some (.int .i64 a0_5) := (blk_cell BK359.out 5).trans rfl; have hcz55_6 : w54.cell? ⟨gb359, 6, none⟩ = some (.int .i64 a0_6) := (blk_cell BK359.out 6).trans rfl; have hcz55_7 : w54.cell? ⟨gb359, 7, none⟩ = some (.int .u32 a0_7) := (blk_cell BK359.out 7).trans rfl; have hcz55_8 : w54.cell? ⟨gb359, 8, none⟩ = some (.int .u32 a0_8) := (blk_cell BK359.out 8).trans rfl; have hcz55_9 : w54.cell? ⟨gb359, 9, none⟩ = some (.slice A0_9 l0_9.length c0_9) := (blk_cell BK359.out 9).trans rfl; have hcz55_10 : w54.cell? ⟨gb359, 10, none⟩ = some (.slice A0_10 l0_10.length c0_10) := (blk_cell BK359.out 10).trans rfl; have hfz55_0 := blk_frozen BK359.out 0; have hfz55_1 := blk_frozen BK359.out 1; have hfz55_2 := blk_frozen BK359.out 2; have hfz55_3 := blk_frozen BK359.out 3; have hfz55_4 := blk_frozen BK359.out 4; have hfz55_5 := blk_frozen BK359.out 5; have hfz55_6 := blk_frozen BK359.out 6; have hfz55_7 := blk_frozen BK359.out 7; have hfz55_8 := blk_frozen BK359.out 8; have hfz55_9 := blk_frozen BK359.out 9; have hfz55_10 := blk_frozen BK359.out 10) | ((with_reducible refine gate_callee (f := 14) rfl ?_); refine goesL_ (some 13) rfl rfl Try.func14 (by kernel_rfl) rfl #[.agg #[.int .i64 a0_0, .int .i64 a0_1, .bool a0_2, .bool a0_3, .int .i64 a0_4, .int .i64 a0_5, .int .i64 a0_6, .int .u32 a0_7, .int .u32 a0_8, .slice A0_9 l0_9.length c0_9, .slice A0_10 l0_10.length c0_10]] rfl (by (try simp only [List.map_toArray, List.map_cons, List.map_nil]); first | done | rfl | (simp only [List.length_drop, List.length_take]; rfl)) ?_; (with_reducible refine (bailiwicklaw2_small.calls a0_0 a0_1 a0_2 a0_3 a0_4 a0_5 a0_6 a0_7 a0_8 _ _ l0_9 _ _ l0_10 false _ ?side1 ?side2 ?side3 ?side4 A5.out).mono ?_); (case side1 => repeat (first | exact (Kd.C_below HR0_9.out HB.out) | (with_reducible refine Kd.C_alloc ?_ _) | (with_reducible refine Kd.C_drewN ?_ _) | (with_reducible refine Kd.C_drew ?_))); (case side2 => exact HC0_9.out); (case side3 => repeat (first | exact (Kd.C_below HR0_10.out HB.out) | (with_reducible refine Kd.C_alloc ?_ _) | (with_reducible refine Kd.C_drewN ?_ _) | (with_reducible refine Kd.C_drew ?_))); (case side4 => exact HC0_10.out); rintro e w56 ⟨rfl, hb⟩; refine ⟨_, rfl, ?_⟩; have n0_ := Aside0.mk (blk_below (g := gb359) (o := .cells #[.int .i64 a0_0, .int .i64 a0_1, .bool a0_2, .bool a0_3, .int .i64 a0_4, .int .i64 a0_5, .int .i64 a0_6, .int .u32 a0_7, .int .u32 a0_8, .slice A0_9 l0_9.length c0_9, .slice A0_10 l0_10.length c0_10] 25 (0, 0)) (by (with_reducible repeat (first | refine blk_drewN ?_ _ | refine blk_drew ?_ | refine blk_alloc ?_ _)); exact BK359.out) hb); have n1_ := Aside0.mk (below_step (by repeat (first | (with_reducible first | exact HB.out | apply below_alloc | apply pw_below_drewN | apply below_drew1 | refine below_set ?_ GE359.out) | exact HB.out)) hb); clear BK359; clear HB; have BK359 := n0_; have HB := n1_; clear n0_ n1_; (try clear hb); (try clear hb2); (try clear hk); (try clear hi)) | ((with_reducible refine gate_callee (f := 13) rfl ?_); refine goesL_ (some 15) rfl rfl Try.func13 (by kernel_rfl) rfl #[] rfl (by (try simp only [List.map_toArray, List.map_cons, List.map_nil]); first | done | rfl | (simp only [List.length_drop, List.length_take]; rfl)) ?_; (with_reducible refine (bailiwicklaw2_awake.calls  t362 _ A52.out).mono ?_); rintro e w57 ⟨rfl, hb⟩; refine ⟨_, rfl, ?_⟩; have n0_ := Aside0.mk (blk_below (g := gb359) (o := .cells #[.int .i64 a0_0, .int .i64 a0_1, .bool a0_2, .bool a0_3, .int .i64 a0_4, .int .i64 a0_5, .int .i64 a0_6, .int .u32 a0_7, .int .u32 a0_8, .slice A0_9 l0_9.length c0_9, .slice A0_10 l0_10.length c0_10] 25 (0, 0)) (by (with_reducible repeat (first | refine blk_drewN ?_ _ | refine blk_drew ?_ | refine blk_alloc ?_ _)); exact BK359.out) hb); have n1_ := Aside0.mk (below_step (by repeat (first | (with_reducible first | exact HB.out | apply below_alloc | apply pw_below_drewN | apply below_drew1 | refine below_set ?_ GE359.out) | exact HB.out)) hb); clear BK359; clear HB; have BK359 := n0_; have HB := n1_; clear n0_ n1_; (try clear hb); (try clear hb2); (try clear hk); (try clear hi)))
      go_ret
      exact ⟨by first | rfl | (simp [errW_none, errW_some] <;> rfl) | (simp [*, errW_none, errW_some] <;> rfl), by repeat (first | (with_reducible first | exact HB.out | apply below_alloc | apply pw_below_drewN | apply below_drew1 | refine below_set ?_ GE359.out) | exact HB.out)⟩
  · replace c4 := Bool.eq_false_iff.mpr c4
    subst c4
    have H1 : (some false) = some r := by rw [if_neg (show ¬ (false = true) by decide)] at H; exact H
    clear H
    have H := H1
    clear H1
    exact absurd ((Option.some.inj H).trans hT) (by decide)
def bailiwicklaw2_IpTurned.Pure : Prop := ∀ (a0_0 : Int) (a0_1 : Int) (a0_2 : Bool) (a0_3 : Bool) (a0_4 : Int) (a0_5 : Int) (a0_6 : Int) (a0_7 : Int) (a0_8 : Int) (l0_9 : List Int) (l0_10 : List Int) (a1 : Int), (Lit.int .i64 a0_0).wf = true → (Lit.int .i64 a0_1).wf = true → (Lit.int .i64 a0_4).wf = true → (Lit.int .i64 a0_5).wf = true → (Lit.int .i64 a0_6).wf = true → (Lit.int .u32 a0_7).wf = true → (Lit.int .u32 a0_8).wf = true → (l0_9.length ≤ maxLen ∧ l0_9.length * 1 ≤ 140737488351232 ∧ ∀ a__ ∈ l0_9, (Lit.int .u8 a__).wf = true) → (l0_10.length ≤ maxLen ∧ l0_10.length * 1 ≤ 140737488351232 ∧ ∀ a__ ∈ l0_10, (Lit.int .u8 a__).wf = true) → (Lit.int .i64 a1).wf = true → ∃ k, bailiwicklaw2_IpTurned.f k a0_0 a0_1 a0_2 a0_3 a0_4 a0_5 a0_6 a0_7 a0_8 l0_9 l0_10 a1 = some true

end Go.Proofs.Ythnhpbplglmmmaa.P
