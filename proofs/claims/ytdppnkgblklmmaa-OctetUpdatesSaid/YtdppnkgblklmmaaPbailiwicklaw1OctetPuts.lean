-- Laid by a program (wip/tools/myprint.py) out of the translation. Not trusted: Lean checks it.
import Derived.Test.YtdppnkgblklmmaaP0
import Derived.Test.YtdppnkgblklmmaaPoctet
import Derived.Test.YtdppnkgblklmmaaPbailiwicklaw1
import Derived.Test.YtdppnkgblklmmaaPbailiwickref1
namespace Go.Proofs.Ytdppnkgblklmmaa.P
open Go.RowKit Go.Proofs.YtdppnkgblklmmaaW.PrintWords Go.Proofs.YtdppnkgblklmmaaW.PrintLast Go.Proofs.YtdppnkgblklmmaaW.PrintMore
attribute [local go_sem] max2_int min2_int max_two min_two max_three min_three max_four min_four   -- for this text's walks alone
set_option linter.unusedVariables false
set_option linter.unusedSimpArgs false

/-! ### bailiwicklaw1_OctetPuts: function 7 -/
def bailiwicklaw1_OctetPuts.j0 : Nat → List Int → Bool → Bool → List Int → Int → Int → Int → Option (Bool)
  | 0, _, _, _, _, _, _, _ => none
  | k + 1, x4, x5, x54, x215000, x215001, x215002, x215003 => if x54 = true then (some false) else (if x5 = true then ((octet_Get.f x4 x215001 x215002).bind fun bt229 => (if bt229.2 = true then (if x215002 = 8 then (if bt229.1 = x215003 then (some true) else (if x215002 < 8 then (if 0 ≤ (IntKind.u64.wrap (8 * (IntKind.u64.wrap (x215002)))) then (some (bt229.1 == (Go.bits .and .u64 x215003 (IntKind.u64.wrap ((shl .u64 1 (IntKind.u64.wrap (8 * (IntKind.u64.wrap (x215002))))) - 1))))) else (none)) else (some false))) else (if x215002 < 8 then (if 0 ≤ (IntKind.u64.wrap (8 * (IntKind.u64.wrap (x215002)))) then (some (bt229.1 == (Go.bits .and .u64 x215003 (IntKind.u64.wrap ((shl .u64 1 (IntKind.u64.wrap (8 * (IntKind.u64.wrap (x215002))))) - 1))))) else (none)) else (some false))) else (some false))) else (some ((x4.length : Int) == 0)))
def bailiwicklaw1_OctetPuts.f (k : Nat) (l0_0 : List Int) (a0_1 : Int) (a0_2 : Int) (a0_3 : Int) : Option (Bool) := (bailiwicklaw1_awake.f).bind fun t215 => (if t215 = true then ((bailiwickref1_Copy.f k l0_0).bind fun t216 => ((octet_Put.f k l0_0 a0_1 a0_2 a0_3).bind fun bt219 => ((bailiwickref1_Put.f k l0_0 a0_1 a0_2 a0_3).bind fun bt223 => (if (bt219.2 != bt223.2) = true then (bailiwicklaw1_OctetPuts.j0 k bt219.1 bt219.2 true l0_0 a0_1 a0_2 a0_3) else ((bailiwickref1_Same.f k bt219.1 bt223.1).bind fun t227 => (if t227 = true then ((bailiwickref1_Same.f k t216 l0_0).bind fun t228 => (bailiwicklaw1_OctetPuts.j0 k bt219.1 bt219.2 (!t228) l0_0 a0_1 a0_2 a0_3)) else (bailiwicklaw1_OctetPuts.j0 k bt219.1 bt219.2 true l0_0 a0_1 a0_2 a0_3))))))) else (some false))
theorem bailiwicklaw1_OctetPuts.mono_l : ∀ k, (∀ y0 y1 y2 y3 y4 y5 y6, LeO (bailiwicklaw1_OctetPuts.j0 k y0 y1 y2 y3 y4 y5 y6) (bailiwicklaw1_OctetPuts.j0 (k + 1) y0 y1 y2 y3 y4 y5 y6))
  | 0 => fun _ _ _ _ _ _ _ r h => by simp [bailiwicklaw1_OctetPuts.j0] at h
  | k + 1 => by
    have ih0 := bailiwicklaw1_OctetPuts.mono_l k
    · intro y0 y1 y2 y3 y4 y5 y6
      unfold bailiwicklaw1_OctetPuts.j0
      repeat' first
      | (with_reducible exact ih0 _ _ _ _ _ _ _)
      | (with_reducible exact bailiwickref1_Copy.mono _ _)
      | (with_reducible exact bailiwickref1_Put.mono _ _ _ _ _)
      | (with_reducible exact bailiwickref1_Same.mono _ _ _)
      | (with_reducible exact octet_Put.mono _ _ _ _ _)
      | (with_reducible exact LeO.refl _)
      | (with_reducible exact LeO.none _)
      | (with_reducible refine LeO.ite ?_ ?_)
      | (with_reducible refine LeO.bind ?_ (fun _ => ?_))
      | exact ih0 _ _ _ _ _ _ _
      | exact bailiwickref1_Copy.mono _ _
      | exact bailiwickref1_Put.mono _ _ _ _ _
      | exact bailiwickref1_Same.mono _ _ _
      | exact octet_Put.mono _ _ _ _ _
      | exact LeO.none _
      | refine LeO.ite ?_ ?_
      | refine LeO.bind ?_ (fun _ => ?_)
theorem bailiwicklaw1_OctetPuts.mono : ∀ a0 a1 a2 a3 k, LeO (bailiwicklaw1_OctetPuts.f k a0 a1 a2 a3) (bailiwicklaw1_OctetPuts.f (k + 1) a0 a1 a2 a3) := by
  intro a0 a1 a2 a3 k
  have ih0 := bailiwicklaw1_OctetPuts.mono_l k
  unfold bailiwicklaw1_OctetPuts.f
  repeat' first
      | (with_reducible exact ih0 _ _ _ _ _ _ _)
      | (with_reducible exact bailiwickref1_Copy.mono _ _)
      | (with_reducible exact bailiwickref1_Put.mono _ _ _ _ _)
      | (with_reducible exact bailiwickref1_Same.mono _ _ _)
      | (with_reducible exact octet_Put.mono _ _ _ _ _)
      | (with_reducible exact LeO.refl _)
      | (with_reducible exact LeO.none _)
      | (with_reducible refine LeO.ite ?_ ?_)
      | (with_reducible refine LeO.bind ?_ (fun _ => ?_))
      | exact ih0 _ _ _ _ _ _ _
      | exact bailiwickref1_Copy.mono _ _
      | exact bailiwickref1_Put.mono _ _ _ _ _
      | exact bailiwickref1_Same.mono _ _ _
      | exact octet_Put.mono _ _ _ _ _
      | exact LeO.none _
      | refine LeO.ite ?_ ?_
      | refine LeO.bind ?_ (fun _ => ?_)
set_option maxHeartbeats 8000000 in
set_option maxRecDepth 100000 in
theorem bailiwicklaw1_OctetPuts.calls (k : Nat) (A0_0 : Option Addr) (c0_0 : Nat) (l0_0 : List Int) (a0_1 : Int) (a0_2 : Int) (a0_3 : Int) (r : Bool) (w : World) (hr0_0 : Kd.C (Kd.int .u8) w A0_0 l0_0.length l0_0) (hc0_0 : l0_0.length ≤ c0_0) (h : bailiwicklaw1_OctetPuts.f k l0_0 a0_1 a0_2 a0_3 = some r) :
    Calls Try.prog 7 #[.agg #[.slice A0_0 l0_0.length c0_0, .int .i64 a0_1, .int .i64 a0_2, .int .u64 a0_3]] w fun e w' => e = .returned (.bool r) ∧ Below w.heap.size w w' := by
  have hu25 := Try.underlying25
  have HR0_0 := Aside0.mk hr0_0
  have HC0_0 := Aside0.mk hc0_0
  clear hr0_0 hc0_0
  have HB := Aside0.mk (Below.refl w.heap.size w)
  have H : ((bailiwicklaw1_awake.f).bind fun t215 => (if t215 = true then ((bailiwickref1_Copy.f k l0_0).bind fun t216 => ((octet_Put.f k l0_0 a0_1 a0_2 a0_3).bind fun bt219 => ((bailiwickref1_Put.f k l0_0 a0_1 a0_2 a0_3).bind fun bt223 => (if (bt219.2 != bt223.2) = true then (bailiwicklaw1_OctetPuts.j0 k bt219.1 bt219.2 true l0_0 a0_1 a0_2 a0_3) else ((bailiwickref1_Same.f k bt219.1 bt223.1).bind fun t227 => (if t227 = true then ((bailiwickref1_Same.f k t216 l0_0).bind fun t228 => (bailiwicklaw1_OctetPuts.j0 k bt219.1 bt219.2 (!t228) l0_0 a0_1 a0_2 a0_3)) else (bailiwicklaw1_OctetPuts.j0 k bt219.1 bt219.2 true l0_0 a0_1 a0_2 a0_3))))))) else (some false))) = some r := h
  clear h
  replace H := Option.bind_eq_some_iff.mp H
  obtain ⟨t215, A20, H⟩ := H
  replace H : (if t215 = true then ((bailiwickref1_Copy.f k l0_0).bind fun t216 => ((octet_Put.f k l0_0 a0_1 a0_2 a0_3).bind fun bt219 => ((bailiwickref1_Put.f k l0_0 a0_1 a0_2 a0_3).bind fun bt223 => (if (bt219.2 != bt223.2) = true then (bailiwicklaw1_OctetPuts.j0 k bt219.1 bt219.2 true l0_0 a0_1 a0_2 a0_3) else ((bailiwickref1_Same.f k bt219.1 bt223.1).bind fun t227 => (if t227 = true then ((bailiwickref1_Same.f k t216 l0_0).bind fun t228 => (bailiwicklaw1_OctetPuts.j0 k bt219.1 bt219.2 (!t228) l0_0 a0_1 a0_2 a0_3)) else (bailiwicklaw1_OctetPuts.j0 k bt219.1 bt219.2 true l0_0 a0_1 a0_2 a0_3))))))) else (some false)) = some r := H
  have A2 := Aside0.mk A20
  clear A20
  by_cases c3 : t215 = true
  · subst c3
    have H1 : ((bailiwickref1_Copy.f k l0_0).bind fun t216 => ((octet_Put.f k l0_0 a0_1 a0_2 a0_3).bind fun bt219 => ((bailiwickref1_Put.f k l0_0 a0_1 a0_2 a0_3).bind fun bt223 => (if (bt219.2 != bt223.2) = true then (bailiwicklaw1_OctetPuts.j0 k bt219.1 bt219.2 true l0_0 a0_1 a0_2 a0_3) else ((bailiwickref1_Same.f k bt219.1 bt223.1).bind fun t227 => (if t227 = true then ((bailiwickref1_Same.f k t216 l0_0).bind fun t228 => (bailiwicklaw1_OctetPuts.j0 k bt219.1 bt219.2 (!t228) l0_0 a0_1 a0_2 a0_3)) else (bailiwicklaw1_OctetPuts.j0 k bt219.1 bt219.2 true l0_0 a0_1 a0_2 a0_3))))))) = some r := by rw [if_pos rfl] at H; exact H
    clear H
    have H := H1
    clear H1
    replace H := Option.bind_eq_some_iff.mp H
    obtain ⟨t216, A40, H⟩ := H
    replace H : ((octet_Put.f k l0_0 a0_1 a0_2 a0_3).bind fun bt219 => ((bailiwickref1_Put.f k l0_0 a0_1 a0_2 a0_3).bind fun bt223 => (if (bt219.2 != bt223.2) = true then (bailiwicklaw1_OctetPuts.j0 k bt219.1 bt219.2 true l0_0 a0_1 a0_2 a0_3) else ((bailiwickref1_Same.f k bt219.1 bt223.1).bind fun t227 => (if t227 = true then ((bailiwickref1_Same.f k t216 l0_0).bind fun t228 => (bailiwicklaw1_OctetPuts.j0 k bt219.1 bt219.2 (!t228) l0_0 a0_1 a0_2 a0_3)) else (bailiwicklaw1_OctetPuts.j0 k bt219.1 bt219.2 true l0_0 a0_1 a0_2 a0_3)))))) = some r := H
    have A4 := Aside0.mk A40
    clear A40
    replace H := Option.bind_eq_some_iff.mp H
    obtain ⟨⟨t219, t220⟩, A50, H⟩ := H
    replace H : ((bailiwickref1_Put.f k l0_0 a0_1 a0_2 a0_3).bind fun bt223 => (if (t220 != bt223.2) = true then (bailiwicklaw1_OctetPuts.j0 k t219 t220 true l0_0 a0_1 a0_2 a0_3) else ((bailiwickref1_Same.f k t219 bt223.1).bind fun t227 => (if t227 = true then ((bailiwickref1_Same.f k t216 l0_0).bind fun t228 => (bailiwicklaw1_OctetPuts.j0 k t219 t220 (!t228) l0_0 a0_1 a0_2 a0_3)) else (bailiwicklaw1_OctetPuts.j0 k t219 t220 true l0_0 a0_1 a0_2 a0_3))))) = some r := H
    have A5 := Aside0.mk A50
    clear A50
    replace H := Option.bind_eq_some_iff.mp H
    obtain ⟨⟨t223, t224⟩, A60, H⟩ := H
    replace H : (if (t220 != t224) = true then (bailiwicklaw1_OctetPuts.j0 k t219 t220 true l0_0 a0_1 a0_2 a0_3) else ((bailiwickref1_Same.f k t219 t223).bind fun t227 => (if t227 = true then ((bailiwickref1_Same.f k t216 l0_0).bind fun t228 => (bailiwicklaw1_OctetPuts.j0 k t219 t220 (!t228) l0_0 a0_1 a0_2 a0_3)) else (bailiwicklaw1_OctetPuts.j0 k t219 t220 true l0_0 a0_1 a0_2 a0_3)))) = some r := H
    have A6 := Aside0.mk A60
    clear A60
    have HC7 := Aside0.mk H
    clear H
    go_enter Try.func7, Try.ntmps7
    go_upto_region 6 with (first | ((with_reducible refine gate_dst (N := 1) rfl ?_); refine box_event ?hg (N := 1) ?hd (cs := #[.slice A0_0 l0_0.length c0_0, .int .i64 a0_1, .int .i64 a0_2, .int .u64 a0_3]) (t := 25) ?hr ?_; (case hd => rfl); (case hg => rfl); (case hr => first | (go_simp; done) | (go_simp; rfl)); intro gb214 hg w8 hbox hb; have n0_ := Aside0.mk (below_step (by repeat (first | (with_reducible first | exact HB.out | apply below_alloc | apply pw_below_drewN | apply below_drew1) | exact HB.out)) hb); have n1_ := Aside0.mk (hbox); have n2_ := Aside0.mk ((by rw [hg]; exact (below_size (by repeat (first | (with_reducible first | exact HB.out | apply below_alloc | apply pw_below_drewN | apply below_drew1) | exact HB.out))) : w.heap.size ≤ gb214)); have n3_ := Aside0.mk ((by rw [hg]; exact (below_size (by repeat (first | (with_reducible first | exact HB.out | apply below_alloc | apply pw_below_drewN | apply below_drew1) | exact HB.out))) : w.heap.size ≤ gb214)); clear HB; have HB := n0_; have BK214 := n1_; have GW214 := n2_; have GE214 := n3_; clear n0_ n1_ n2_ n3_; clear hb hbox hg) | ((with_reducible refine gate_callee (f := 22) rfl ?_); refine goesL_ (some 10) rfl rfl Try.func22 (by kernel_rfl) rfl #[] rfl (by (try simp only [List.map_toArray, List.map_cons, List.map_nil]); first | done | rfl | (simp only [List.length_drop, List.length_take]; rfl)) ?_; (with_reducible refine (bailiwicklaw1_awake.calls  true _ A2.out).mono ?_); rintro e w9 ⟨rfl, hb⟩; refine ⟨_, rfl, ?_⟩; have n0_ := Aside0.mk (blk_below (g := gb214) (o := .cells #[.slice A0_0 l0_0.length c0_0, .int .i64 a0_1, .int .i64 a0_2, .int .u64 a0_3] 25 (0, 0)) (by (with_reducible repeat (first | refine blk_drewN ?_ _ | refine blk_drew ?_ | refine blk_alloc ?_ _)); exact BK214.out) hb); have n1_ := Aside0.mk (below_step (by repeat (first | (with_reducible first | exact HB.out | apply below_alloc | apply pw_below_drewN | apply below_drew1 | refine below_set ?_ GE214.out) | exact HB.out)) hb); clear BK214; clear HB; have BK214 := n0_; have HB := n1_; clear n0_ n1_; (try clear hb); (try clear hb2); (try clear hk); (try clear hi); have hcz10_0 : w9.cell? ⟨gb214, 0, none⟩ = some (.slice A0_0 l0_0.length c0_0) := (blk_cell BK214.out 0).trans rfl; have hcz10_1 : w9.cell? ⟨gb214, 1, none⟩ = some (.int .i64 a0_1) := (blk_cell BK214.out 1).trans rfl; have hcz10_2 : w9.cell? ⟨gb214, 2, none⟩ = some (.int .i64 a0_2) := (blk_cell BK214.out 2).trans rfl; have hcz10_3 : w9.cell? ⟨gb214, 3, none⟩ = some (.int .u64 a0_3) := (blk_cell BK214.out 3).trans rfl; have hfz10_0 := blk_frozen BK214.out 0; have hfz10_1 := blk_frozen BK214.out 1; have hfz10_2 := blk_frozen BK214.out 2; have hfz10_3 := blk_frozen BK214.out 3) | ((with_reducible refine gate_callee (f := 25) rfl ?_); refine goesL_ (some 14) rfl rfl Try.func25 (by kernel_rfl) rfl #[.slice A0_0 l0_0.length c0_0] rfl (by (try simp only [List.map_toArray, List.map_cons, List.map_nil]); first | done | rfl | (simp only [List.length_drop, List.length_take]; rfl)) ?_; (with_reducible refine (bailiwickref1_Copy.calls k _ _ l0_0 t216 _ ?side1 ?side2 A4.out).mono ?_); (case side1 => repeat (first | exact (Kd.C_below HR0_0.out HB.out) | (with_reducible refine Kd.C_alloc ?_ _) | (with_reducible refine Kd.C_drewN ?_ _) | (with_reducible refine Kd.C_drew ?_))); (case side2 => exact HC0_0.out); rintro e w11 ⟨v217, rfl, ho0, hb⟩; refine ⟨_, rfl, ?_⟩; have n0_ := Aside0.mk (Kd.R_lower ho0 (below_size (by repeat (first | (with_reducible first | exact HB.out | apply below_alloc | apply pw_below_drewN | apply below_drew1 | refine below_set ?_ GE214.out) | exact HB.out)))); have n1_ := Aside0.mk (blk_below (g := gb214) (o := .cells #[.slice A0_0 l0_0.length c0_0, .int .i64 a0_1, .int .i64 a0_2, .int .u64 a0_3] 25 (0, 0)) (by (with_reducible repeat (first | refine blk_drewN ?_ _ | refine blk_drew ?_ | refine blk_alloc ?_ _)); exact BK214.out) hb); have n2_ := Aside0.mk (below_step (by repeat (first | (with_reducible first | exact HB.out | apply below_alloc | apply pw_below_drewN | apply below_drew1 | refine below_set ?_ GE214.out) | exact HB.out)) hb); clear BK214; clear HB; have HO218 := n0_; have BK214 := n1_; have HB := n2_; clear n0_ n1_ n2_; (try clear hb); (try clear hb2); (try clear hk); (try clear hi); (try clear ho0); have hcz12_0 : w11.cell? ⟨gb214, 0, none⟩ = some (.slice A0_0 l0_0.length c0_0) := (blk_cell BK214.out 0).trans rfl; have hcz12_1 : w11.cell? ⟨gb214, 1, none⟩ = some (.int .i64 a0_1) := (blk_cell BK214.out 1).trans rfl; have hcz12_2 : w11.cell? ⟨gb214, 2, none⟩ = some (.int .i64 a0_2) := (blk_cell BK214.out 2).trans rfl; have hcz12_3 : w11.cell? ⟨gb214, 3, none⟩ = some (.int .u64 a0_3) := (blk_cell BK214.out 3).trans rfl; have hfz12_0 := blk_frozen BK214.out 0; have hfz12_1 := blk_frozen BK214.out 1; have hfz12_2 := blk_frozen BK214.out 2; have hfz12_3 := blk_frozen BK214.out 3) | ((with_reducible refine gate_callee (f := 33) rfl ?_); refine goesL_ (some 24) rfl rfl Try.func33 (by kernel_rfl) rfl #[.slice A0_0 l0_0.length c0_0, .int .i64 a0_1, .int .i64 a0_2, .int .u64 a0_3] rfl (by (try simp only [List.map_toArray, List.map_cons, List.map_nil]); first | done | rfl | (simp only [List.length_drop, List.length_take]; rfl)) ?_; (with_reducible refine (octet_Put.calls k _ _ l0_0 a0_1 a0_2 a0_3 t219 t220 _ ?side1 ?side2 A5.out).mono ?_); (case side1 => repeat (first | exact (Kd.C_below HR0_0.out HB.out) | (with_reducible refine Kd.C_alloc ?_ _) | (with_reducible refine Kd.C_drewN ?_ _) | (with_reducible refine Kd.C_drew ?_))); (case side2 => exact HC0_0.out); rintro e w13 ⟨v221, rfl, ho0, hb⟩; refine ⟨_, rfl, ?_⟩; have n0_ := Aside0.mk (Kd.R_elder' (by (with_reducible repeat (first | apply Kd.R_alloc | apply Kd.R_drewN | apply Kd.R_drew)); exact HO218.out) (Kd.R_base ho0) hb); have n1_ := Aside0.mk (Kd.R_lower (Kd.R_new' ho0 (Kd.R_lt (by (with_reducible repeat (first | apply Kd.R_alloc | apply Kd.R_drewN | apply Kd.R_drew)); exact HO218.out))) (below_size (by repeat (first | (with_reducible first | exact HB.out | apply below_alloc | apply pw_below_drewN | apply below_drew1 | refine below_set ?_ GE214.out) | exact HB.out)))); have n2_ := Aside0.mk (blk_below (g := gb214) (o := .cells #[.slice A0_0 l0_0.length c0_0, .int .i64 a0_1, .int .i64 a0_2, .int .u64 a0_3] 25 (0, 0)) (by (with_reducible repeat (first | refine blk_drewN ?_ _ | refine blk_drew ?_ | refine blk_alloc ?_ _)); exact BK214.out) hb); have n3_ := Aside0.mk (below_step (by repeat (first | (with_reducible first | exact HB.out | apply below_alloc | apply pw_below_drewN | apply below_drew1 | refine below_set ?_ GE214.out) | exact HB.out)) hb); clear HO218; clear BK214; clear HB; have HO218 := n0_; have HO222 := n1_; have BK214 := n2_; have HB := n3_; clear n0_ n1_ n2_ n3_; (try clear hb); (try clear hb2); (try clear hk); (try clear hi); (try clear ho0); have hcz14_0 : w13.cell? ⟨gb214, 0, none⟩ = some (.slice A0_0 l0_0.length c0_0) := (blk_cell BK214.out 0).trans rfl; have hcz14_1 : w13.cell? ⟨gb214, 1, none⟩ = some (.int .i64 a0_1) := (blk_cell BK214.out 1).trans rfl; have hcz14_2 : w13.cell? ⟨gb214, 2, none⟩ = some (.int .i64 a0_2) := (blk_cell BK214.out 2).trans rfl; have hcz14_3 : w13.cell? ⟨gb214, 3, none⟩ = some (.int .u64 a0_3) := (blk_cell BK214.out 3).trans rfl; have hfz14_0 := blk_frozen BK214.out 0; have hfz14_1 := blk_frozen BK214.out 1; have hfz14_2 := blk_frozen BK214.out 2; have hfz14_3 := blk_frozen BK214.out 3) | ((with_reducible refine gate_callee (f := 34) rfl ?_); refine goesL_ (some 36) rfl rfl Try.func34 (by kernel_rfl) rfl #[.slice A0_0 l0_0.length c0_0, .int .i64 a0_1, .int .i64 a0_2, .int .u64 a0_3] rfl (by (try simp only [List.map_toArray, List.map_cons, List.map_nil]); first | done | rfl | (simp only [List.length_drop, List.length_take]; rfl)) ?_; (with_reducible refine (bailiwickref1_Put.calls k _ _ l0_0 a0_1 a0_2 a0_3 t223 t224 _ ?side1 ?side2 A6.out).mono ?_); (case side1 => repeat (first | exact (Kd.C_below HR0_0.out HB.out) | (with_reducible refine Kd.C_alloc ?_ _) | (with_reducible refine Kd.C_drewN ?_ _) | (with_reducible refine Kd.C_drew ?_))); (case side2 => exact HC0_0.out); rintro e w15 ⟨v225, rfl, ho0, hb⟩; refine ⟨_, rfl, ?_⟩; have n0_ := Aside0.mk (Kd.R_elder' (by (with_reducible repeat (first | apply Kd.R_alloc | apply Kd.R_drewN | apply Kd.R_drew)); exact HO218.out) (Kd.R_base ho0) hb); have n1_ := Aside0.mk (Kd.R_elder' (by (with_reducible repeat (first | apply Kd.R_alloc | apply Kd.R_drewN | apply Kd.R_drew)); exact HO222.out) (Kd.R_base ho0) hb); have n2_ := Aside0.mk (Kd.R_lower (Kd.R_new' (Kd.R_new' ho0 (Kd.R_lt (by (with_reducible repeat (first | apply Kd.R_alloc | apply Kd.R_drewN | apply Kd.R_drew)); exact HO218.out))) (Kd.R_lt (by (with_reducible repeat (first | apply Kd.R_alloc | apply Kd.R_drewN | apply Kd.R_drew)); exact HO222.out))) (below_size (by repeat (first | (with_reducible first | exact HB.out | apply below_alloc | apply pw_below_drewN | apply below_drew1 | refine below_set ?_ GE214.out) | exact HB.out)))); have n3_ := Aside0.mk (blk_below (g := gb214) (o := .cells #[.slice A0_0 l0_0.length c0_0, .int .i64 a0_1, .int .i64 a0_2, .int .u64 a0_3] 25 (0, 0)) (by (with_reducible repeat (first | refine blk_drewN ?_ _ | refine blk_drew ?_ | refine blk_alloc ?_ _)); exact BK214.out) hb); have n4_ := Aside0.mk (below_step (by repeat (first | (with_reducible first | exact HB.out | apply below_alloc | apply pw_below_drewN | apply below_drew1 | refine below_set ?_ GE214.out) | exact HB.out)) hb); clear HO218; clear HO222; clear BK214; clear HB; have HO218 := n0_; have HO222 := n1_; have HO226 := n2_; have BK214 := n3_; have HB := n4_; clear n0_ n1_ n2_ n3_ n4_; (try clear hb); (try clear hb2); (try clear hk); (try clear hi); (try clear ho0)))
    (try simp only [Act.put, List.setIfInBounds_toArray, List.set_cons_zero, List.set_cons_succ])
    go_cut [54] (fun v54 wc => ∃ (kq : Nat) (x54_6 : Bool), v54 = .bool x54_6 ∧ Aside0 (bailiwicklaw1_OctetPuts.j0 kq t219 t220 x54_6 l0_0 a0_1 a0_2 a0_3 = some r) ∧ Aside0 (kq ≤ k) ∧ Aside0 (Kd.R (Kd.int .u8) 5 wc w.heap.size (fun _ => True) v221 t219) ∧ Aside0 (wc.heap[gb214]? = some (.cells #[(.slice A0_0 l0_0.length c0_0), .int .i64 a0_1, .int .i64 a0_2, .int .u64 a0_3] 25 (0, 0))) ∧ Aside0 (Below w.heap.size w wc))
    case first =>
      have H := HC7.out
      clear HC7
      by_cases c16 : (t220 != t224) = true
      · rw [if_pos c16] at H
        have c16b0 : (t220 != t224) = true := c16
        (try (have c16b1 : decide (t220 = t224) = false := by simpa using c16))
        (try (have c16b2 : (t220 == t224) = false := by simpa using c16))
        (try (have c16b3 : ¬ (t220 = t224) := by simpa using c16))
        clear c16
        (first | rw [c16b0] | (simp only [i64_w, i32_w]; rw [c16b0]) | skip)
        have H' := Aside0.mk H
        clear H
        go_wp2
        go_meet
        case rel => exact ⟨_, (true), (by first | rfl | (simp; done) | (simp [*]; done)), H', ⟨by first | omega | exact Nat.le_refl _⟩, ⟨by (with_reducible repeat (first | apply Kd.R_alloc | apply Kd.R_drewN | apply Kd.R_drew)); exact Kd.R_mono HO222.out (fun _ hk => trivial)⟩, ⟨by (with_reducible repeat (first | refine blk_drewN ?_ _ | refine blk_drew ?_ | refine blk_alloc ?_ _)); exact BK214.out⟩, ⟨by repeat (first | (with_reducible first | exact HB.out | apply below_alloc | apply pw_below_drewN | apply below_drew1 | refine below_set ?_ GE214.out) | exact HB.out)⟩⟩
      · rw [if_neg c16] at H
        have c16b0 : (t220 != t224) = false := by simpa using c16
        (try (have c16b1 : decide (t220 = t224) = true := by simpa using c16))
        (try (have c16b2 : (t220 == t224) = true := by simpa using c16))
        clear c16
        (first | rw [c16b0] | (simp only [i64_w, i32_w]; rw [c16b0]) | skip)
        replace H := Option.bind_eq_some_iff.mp H
        obtain ⟨t227, A170, H⟩ := H
        replace H : (if t227 = true then ((bailiwickref1_Same.f k t216 l0_0).bind fun t228 => (bailiwicklaw1_OctetPuts.j0 k t219 t220 (!t228) l0_0 a0_1 a0_2 a0_3)) else (bailiwicklaw1_OctetPuts.j0 k t219 t220 true l0_0 a0_1 a0_2 a0_3)) = some r := H
        have A17 := Aside0.mk A170
        clear A170
        by_cases c18 : t227 = true
        · subst c18
          have H1 : ((bailiwickref1_Same.f k t216 l0_0).bind fun t228 => (bailiwicklaw1_OctetPuts.j0 k t219 t220 (!t228) l0_0 a0_1 a0_2 a0_3)) = some r := by rw [if_pos rfl] at H; exact H
          clear H
          have H := H1
          clear H1
          replace H := Option.bind_eq_some_iff.mp H
          obtain ⟨t228, A190, H⟩ := H
          replace H : (bailiwicklaw1_OctetPuts.j0 k t219 t220 (!t228) l0_0 a0_1 a0_2 a0_3) = some r := H
          have A19 := Aside0.mk A190
          clear A190
          have H' := Aside0.mk H
          clear H
          obtain ⟨Ao20, co20, eo20⟩ := Kd.R_slice HO222.out
          subst eo20
          obtain ⟨Ao21, co21, eo21⟩ := Kd.R_slice HO226.out
          subst eo21
          go_wp2_with (first | (go_at_call 35; (with_reducible refine (bailiwickref1_Same.calls k _ _ t219 _ _ t223 true _ ?side1 ?side2 ?side3 ?side4 A17.out).mono ?_); (case side1 => repeat (first | exact (Kd.R_reads' HO222.out).2.2 | (with_reducible refine Kd.C_alloc ?_ _) | (with_reducible refine Kd.C_drewN ?_ _) | (with_reducible refine Kd.C_drew ?_))); (case side2 => exact (Kd.R_reads' HO222.out).2.1); (case side3 => repeat (first | exact (Kd.R_reads' HO226.out).2.2 | (with_reducible refine Kd.C_alloc ?_ _) | (with_reducible refine Kd.C_drewN ?_ _) | (with_reducible refine Kd.C_drew ?_))); (case side4 => exact (Kd.R_reads' HO226.out).2.1); rintro e w' ⟨rfl, ⟨nd, rfl⟩⟩; have hcz22_0 : w15.cell? ⟨gb214, 0, none⟩ = some (.slice A0_0 l0_0.length c0_0) := (blk_cell BK214.out 0).trans rfl; have hcz22_1 : w15.cell? ⟨gb214, 1, none⟩ = some (.int .i64 a0_1) := (blk_cell BK214.out 1).trans rfl; have hcz22_2 : w15.cell? ⟨gb214, 2, none⟩ = some (.int .i64 a0_2) := (blk_cell BK214.out 2).trans rfl; have hcz22_3 : w15.cell? ⟨gb214, 3, none⟩ = some (.int .u64 a0_3) := (blk_cell BK214.out 3).trans rfl; have hfz22_0 := blk_frozen BK214.out 0; have hfz22_1 := blk_frozen BK214.out 1; have hfz22_2 := blk_frozen BK214.out 2; have hfz22_3 := blk_frozen BK214.out 3; obtain ⟨Ao23, co23, eo23⟩ := Kd.R_slice HO218.out; subst eo23) | (go_at_call 35; (with_reducible refine (bailiwickref1_Same.calls k _ _ t216 _ _ l0_0 t228 _ ?side1 ?side2 ?side3 ?side4 A19.out).mono ?_); (case side1 => repeat (first | exact (Kd.R_reads' HO218.out).2.2 | (with_reducible refine Kd.C_alloc ?_ _) | (with_reducible refine Kd.C_drewN ?_ _) | (with_reducible refine Kd.C_drew ?_))); (case side2 => exact (Kd.R_reads' HO218.out).2.1); (case side3 => repeat (first | exact (Kd.C_below HR0_0.out (by repeat (first | (with_reducible first | exact HB.out | apply below_alloc | apply pw_below_drewN | apply below_drew1 | refine below_set ?_ GE214.out) | exact HB.out))) | (with_reducible refine Kd.C_alloc ?_ _) | (with_reducible refine Kd.C_drewN ?_ _) | (with_reducible refine Kd.C_drew ?_))); (case side4 => exact HC0_0.out); rintro e w' ⟨rfl, ⟨nd, rfl⟩⟩))
          go_meet
          case rel => exact ⟨_, (!t228), (by first | rfl | (simp; done) | (simp [*]; done)), H', ⟨by first | omega | exact Nat.le_refl _⟩, ⟨by (with_reducible repeat (first | apply Kd.R_alloc | apply Kd.R_drewN | apply Kd.R_drew)); exact Kd.R_mono HO222.out (fun _ hk => trivial)⟩, ⟨by (with_reducible repeat (first | refine blk_drewN ?_ _ | refine blk_drew ?_ | refine blk_alloc ?_ _)); exact BK214.out⟩, ⟨by repeat (first | (with_reducible first | exact HB.out | apply below_alloc | apply pw_below_drewN | apply below_drew1 | refine below_set ?_ GE214.out) | exact HB.out)⟩⟩
        · replace c18 := Bool.eq_false_iff.mpr c18
          subst c18
          have H1 : (bailiwicklaw1_OctetPuts.j0 k t219 t220 true l0_0 a0_1 a0_2 a0_3) = some r := by rw [if_neg (show ¬ (false = true) by decide)] at H; exact H
          clear H
          have H := H1
          clear H1
          have H' := Aside0.mk H
          clear H
          obtain ⟨Ao24, co24, eo24⟩ := Kd.R_slice HO222.out
          subst eo24
          obtain ⟨Ao25, co25, eo25⟩ := Kd.R_slice HO226.out
          subst eo25
          go_wp2_with (first | (go_at_call 35; (with_reducible refine (bailiwickref1_Same.calls k _ _ t219 _ _ t223 false _ ?side1 ?side2 ?side3 ?side4 A17.out).mono ?_); (case side1 => repeat (first | exact (Kd.R_reads' HO222.out).2.2 | (with_reducible refine Kd.C_alloc ?_ _) | (with_reducible refine Kd.C_drewN ?_ _) | (with_reducible refine Kd.C_drew ?_))); (case side2 => exact (Kd.R_reads' HO222.out).2.1); (case side3 => repeat (first | exact (Kd.R_reads' HO226.out).2.2 | (with_reducible refine Kd.C_alloc ?_ _) | (with_reducible refine Kd.C_drewN ?_ _) | (with_reducible refine Kd.C_drew ?_))); (case side4 => exact (Kd.R_reads' HO226.out).2.1); rintro e w' ⟨rfl, ⟨nd, rfl⟩⟩))
          go_meet
          case rel => exact ⟨_, (true), (by first | rfl | (simp; done) | (simp [*]; done)), H', ⟨by first | omega | exact Nat.le_refl _⟩, ⟨by (with_reducible repeat (first | apply Kd.R_alloc | apply Kd.R_drewN | apply Kd.R_drew)); exact Kd.R_mono HO222.out (fun _ hk => trivial)⟩, ⟨by (with_reducible repeat (first | refine blk_drewN ?_ _ | refine blk_drew ?_ | refine blk_alloc ?_ _)); exact BK214.out⟩, ⟨by repeat (first | (with_reducible first | exact HB.out | apply below_alloc | apply pw_below_drewN | apply below_drew1 | refine below_set ?_ GE214.out) | exact HB.out)⟩⟩
    case rest =>
      clear HC7
      try clear c1
      try clear c2
      try clear p2
      try clear c3
      try clear c7
      try clear c16
      try clear c16b0
      try clear c16b1
      try clear c16b2
      try clear c18
      try clear c22
      try clear c25
      try clear hcz10_0
      try clear hcz10_1
      try clear hcz10_2
      try clear hcz10_3
      try clear hcz12_0
      try clear hcz12_1
      try clear hcz12_2
      try clear hcz12_3
      try clear hcz14_0
      try clear hcz14_1
      try clear hcz14_2
      try clear hcz14_3
      try clear hcz22_0
      try clear hcz22_1
      try clear hcz22_2
      try clear hcz22_3
      try clear hfz10_0
      try clear hfz10_1
      try clear hfz10_2
      try clear hfz10_3
      try clear hfz12_0
      try clear hfz12_1
      try clear hfz12_2
      try clear hfz12_3
      try clear hfz14_0
      try clear hfz14_1
      try clear hfz14_2
      try clear hfz14_3
      try clear hfz22_0
      try clear hfz22_1
      try clear hfz22_2
      try clear hfz22_3
      obtain ⟨kq, x54_6, rfl, HA, HJ6, HO_4, BK214, HB⟩ := hcut
      cases kq with
      | zero => exact absurd HA.out (by simp [bailiwicklaw1_OctetPuts.j0])
      | succ kj6 =>
        have H := HA.out
        clear HA
        simp only [bailiwicklaw1_OctetPuts.j0] at H
        by_cases c26 : x54_6 = true
        · subst c26
          have H1 : (some false) = some r := by rw [if_pos rfl] at H; exact H
          clear H
          have H := H1
          clear H1
          obtain rfl := Option.some.inj H
          go_wp2
          go_ret
          exact ⟨by first | rfl | (simp [errW_none, errW_some] <;> rfl) | (simp [*, errW_none, errW_some] <;> rfl), by repeat (first | (with_reducible first | exact HB.out | apply below_alloc | apply pw_below_drewN | apply below_drew1 | refine below_set ?_ GE214.out) | exact HB.out)⟩
        · replace c26 := Bool.eq_false_iff.mpr c26
          subst c26
          have H1 : (if t220 = true then ((octet_Get.f t219 a0_1 a0_2).bind fun bt229 => (if bt229.2 = true then (if a0_2 = 8 then (if bt229.1 = a0_3 then (some true) else (if a0_2 < 8 then (if 0 ≤ (IntKind.u64.wrap (8 * (IntKind.u64.wrap (a0_2)))) then (some (bt229.1 == (Go.bits .and .u64 a0_3 (IntKind.u64.wrap ((shl .u64 1 (IntKind.u64.wrap (8 * (IntKind.u64.wrap (a0_2))))) - 1))))) else (none)) else (some false))) else (if a0_2 < 8 then (if 0 ≤ (IntKind.u64.wrap (8 * (IntKind.u64.wrap (a0_2)))) then (some (bt229.1 == (Go.bits .and .u64 a0_3 (IntKind.u64.wrap ((shl .u64 1 (IntKind.u64.wrap (8 * (IntKind.u64.wrap (a0_2))))) - 1))))) else (none)) else (some false))) else (some false))) else (some ((t219.length : Int) == 0))) = some r := by rw [if_neg (show ¬ (false = true) by decide)] at H; exact H
          clear H
          have H := H1
          clear H1
          by_cases c27 : t220 = true
          · subst c27
            have H1 : ((octet_Get.f t219 a0_1 a0_2).bind fun bt229 => (if bt229.2 = true then (if a0_2 = 8 then (if bt229.1 = a0_3 then (some true) else (if a0_2 < 8 then (if 0 ≤ (IntKind.u64.wrap (8 * (IntKind.u64.wrap (a0_2)))) then (some (bt229.1 == (Go.bits .and .u64 a0_3 (IntKind.u64.wrap ((shl .u64 1 (IntKind.u64.wrap (8 * (IntKind.u64.wrap (a0_2))))) - 1))))) else (none)) else (some false))) else (if a0_2 < 8 then (if 0 ≤ (IntKind.u64.wrap (8 * (IntKind.u64.wrap (a0_2)))) then (some (bt229.1 == (Go.bits .and .u64 a0_3 (IntKind.u64.wrap ((shl .u64 1 (IntKind.u64.wrap (8 * (IntKind.u64.wrap (a0_2))))) - 1))))) else (none)) else (some false))) else (some false))) = some r := by rw [if_pos rfl] at H; exact H
            clear H
            have H := H1
            clear H1
            replace H := Option.bind_eq_some_iff.mp H
            obtain ⟨⟨t229, t230⟩, A280, H⟩ := H
            replace H : (if t230 = true then (if a0_2 = 8 then (if t229 = a0_3 then (some true) else (if a0_2 < 8 then (if 0 ≤ (IntKind.u64.wrap (8 * (IntKind.u64.wrap (a0_2)))) then (some (t229 == (Go.bits .and .u64 a0_3 (IntKind.u64.wrap ((shl .u64 1 (IntKind.u64.wrap (8 * (IntKind.u64.wrap (a0_2))))) - 1))))) else (none)) else (some false))) else (if a0_2 < 8 then (if 0 ≤ (IntKind.u64.wrap (8 * (IntKind.u64.wrap (a0_2)))) then (some (t229 == (Go.bits .and .u64 a0_3 (IntKind.u64.wrap ((shl .u64 1 (IntKind.u64.wrap (8 * (IntKind.u64.wrap (a0_2))))) - 1))))) else (none)) else (some false))) else (some false)) = some r := H
            have A28 := Aside0.mk A280
            clear A280
            by_cases c29 : t230 = true
            · subst c29
              have H1 : (if a0_2 = 8 then (if t229 = a0_3 then (some true) else (if a0_2 < 8 then (if 0 ≤ (IntKind.u64.wrap (8 * (IntKind.u64.wrap (a0_2)))) then (some (t229 == (Go.bits .and .u64 a0_3 (IntKind.u64.wrap ((shl .u64 1 (IntKind.u64.wrap (8 * (IntKind.u64.wrap (a0_2))))) - 1))))) else (none)) else (some false))) else (if a0_2 < 8 then (if 0 ≤ (IntKind.u64.wrap (8 * (IntKind.u64.wrap (a0_2)))) then (some (t229 == (Go.bits .and .u64 a0_3 (IntKind.u64.wrap ((shl .u64 1 (IntKind.u64.wrap (8 * (IntKind.u64.wrap (a0_2))))) - 1))))) else (none)) else (some false))) = some r := by rw [if_pos rfl] at H; exact H
              clear H
              have H := H1
              clear H1
              by_cases c30 : a0_2 = 8
              · rw [if_pos c30] at H
                have c30b0 : (a0_2 == 8) = true := beq_iff_eq.mpr c30
                have c30b1 : (a0_2 != 8) = false := bne_eq_false_iff_eq.mpr c30
                clear c30
                by_cases c31 : t229 = a0_3
                · rw [if_pos c31] at H
                  have c31b0 : (t229 == a0_3) = true := beq_iff_eq.mpr c31
                  have c31b1 : (t229 != a0_3) = false := bne_eq_false_iff_eq.mpr c31
                  clear c31
                  obtain rfl := Option.some.inj H
                  have hcz32_0 : wc.cell? ⟨gb214, 0, none⟩ = some (.slice A0_0 l0_0.length c0_0) := (blk_cell BK214.out 0).trans rfl
                  have hcz32_1 : wc.cell? ⟨gb214, 1, none⟩ = some (.int .i64 a0_1) := (blk_cell BK214.out 1).trans rfl
                  have hcz32_2 : wc.cell? ⟨gb214, 2, none⟩ = some (.int .i64 a0_2) := (blk_cell BK214.out 2).trans rfl
                  have hcz32_3 : wc.cell? ⟨gb214, 3, none⟩ = some (.int .u64 a0_3) := (blk_cell BK214.out 3).trans rfl
                  have hfz32_0 := blk_frozen BK214.out 0
                  have hfz32_1 := blk_frozen BK214.out 1
                  have hfz32_2 := blk_frozen BK214.out 2
                  have hfz32_3 := blk_frozen BK214.out 3
                  obtain ⟨Ao33, co33, eo33⟩ := Kd.R_slice HO_4.out
                  subst eo33
                  go_wp2_with (first | ((with_reducible refine gate_callee (f := 23) rfl ?_); refine goesL_ (some 66) rfl rfl Try.func23 (by kernel_rfl) rfl #[.slice Ao33 t219.length co33, .int .i64 a0_1, .int .i64 a0_2] rfl (by (try simp only [List.map_toArray, List.map_cons, List.map_nil]); first | done | rfl | (simp only [List.length_drop, List.length_take]; rfl)) ?_; (with_reducible refine (octet_Get.calls _ _ t219 a0_1 a0_2 t229 true _ ?side1 ?side2 A28.out).mono ?_); (case side1 => repeat (first | exact (Kd.R_reads' HO_4.out).2.2 | (with_reducible refine Kd.C_alloc ?_ _) | (with_reducible refine Kd.C_drewN ?_ _) | (with_reducible refine Kd.C_drew ?_))); (case side2 => exact (Kd.R_reads' HO_4.out).2.1); rintro e w' ⟨rfl, ⟨nd, rfl⟩⟩; refine ⟨_, rfl, ?_⟩))
                  go_ret
                  exact ⟨by first | rfl | (simp [errW_none, errW_some] <;> rfl) | (simp [*, errW_none, errW_some] <;> rfl), by repeat (first | (with_reducible first | exact HB.out | apply below_alloc | apply pw_below_drewN | apply below_drew1 | refine below_set ?_ GE214.out) | exact HB.out)⟩
                · rw [if_neg c31] at H
                  have c31b0 : (t229 == a0_3) = false := beq_eq_false_iff_ne.mpr c31
                  have c31b1 : (t229 != a0_3) = true := bne_iff_ne.mpr c31
                  by_cases c34 : a0_2 < 8
                  · rw [if_pos c34] at H
                    have c34b0 : decide (a0_2 < 8) = true := decide_eq_true c34
                    clear c34
                    obtain ⟨ji35, hji35⟩ : ∃ j_ : Int, (IntKind.u64.wrap (8 * (IntKind.u64.wrap (a0_2)))) = j_ := ⟨_, rfl⟩
                    replace H : (if 0 ≤ (ji35) then (some (t229 == (Go.bits .and .u64 a0_3 (IntKind.u64.wrap ((shl .u64 1 (ji35)) - 1))))) else (none)) = some r := by first | (rw [hji35] at H; exact H) | (simp only [hji35] at H ⊢; exact H)
                    (try rw [hji35] at A28)
                    by_cases c36 : 0 ≤ (ji35)
                    · rw [if_pos c36] at H
                      have c36b0 := eq_true c36
                      have c36b1 : decide (0 ≤ (ji35)) = true := decide_eq_true c36
                      clear c36
                      obtain ⟨ji37, hji37⟩ : ∃ j_ : Int, (shl .u64 1 (ji35)) = j_ := ⟨_, rfl⟩
                      replace H : (some (t229 == (Go.bits .and .u64 a0_3 (IntKind.u64.wrap ((ji37) - 1))))) = some r := by first | (rw [hji37] at H; exact H) | (simp only [hji37] at H ⊢; exact H)
                      (try rw [hji37] at A28)
                      have hji37_ : (IntKind.u64.wrap (1 * 2 ^ min (ji35).toNat 64)) = ji37 := hji37
                      have hji37z : (ji35) ≤ 64 → (IntKind.u64.wrap (1 * 2 ^ (ji35).toNat)) = ji37 := shl_small hji37
                      have hji37u : (IntKind.u64.wrap (2 ^ min (ji35).toNat 64)) = ji37 := by have h_ := hji37_; rw [Int.one_mul] at h_; exact h_
                      have hji37v : (ji35) ≤ 64 → (IntKind.u64.wrap (2 ^ (ji35).toNat)) = ji37 := fun hle_ => by have h_ := hji37z hle_; rw [Int.one_mul] at h_; exact h_
                      obtain rfl := Option.some.inj H
                      have hcz38_0 : wc.cell? ⟨gb214, 0, none⟩ = some (.slice A0_0 l0_0.length c0_0) := (blk_cell BK214.out 0).trans rfl
                      have hcz38_1 : wc.cell? ⟨gb214, 1, none⟩ = some (.int .i64 a0_1) := (blk_cell BK214.out 1).trans rfl
                      have hcz38_2 : wc.cell? ⟨gb214, 2, none⟩ = some (.int .i64 a0_2) := (blk_cell BK214.out 2).trans rfl
                      have hcz38_3 : wc.cell? ⟨gb214, 3, none⟩ = some (.int .u64 a0_3) := (blk_cell BK214.out 3).trans rfl
                      have hfz38_0 := blk_frozen BK214.out 0
                      have hfz38_1 := blk_frozen BK214.out 1
                      have hfz38_2 := blk_frozen BK214.out 2
                      have hfz38_3 := blk_frozen BK214.out 3
                      obtain ⟨Ao39, co39, eo39⟩ := Kd.R_slice HO_4.out
                      subst eo39
                      go_wp2_with (first | ((with_reducible refine gate_callee (f := 23) rfl ?_); refine goesL_ (some 66) rfl rfl Try.func23 (by kernel_rfl) rfl #[.slice Ao39 t219.length co39, .int .i64 a0_1, .int .i64 a0_2] rfl (by (try simp only [List.map_toArray, List.map_cons, List.map_nil]); first | done | rfl | (simp only [List.length_drop, List.length_take]; rfl)) ?_; (with_reducible refine (octet_Get.calls _ _ t219 a0_1 a0_2 t229 true _ ?side1 ?side2 A28.out).mono ?_); (case side1 => repeat (first | exact (Kd.R_reads' HO_4.out).2.2 | (with_reducible refine Kd.C_alloc ?_ _) | (with_reducible refine Kd.C_drewN ?_ _) | (with_reducible refine Kd.C_drew ?_))); (case side2 => exact (Kd.R_reads' HO_4.out).2.1); rintro e w' ⟨rfl, ⟨nd, rfl⟩⟩; refine ⟨_, rfl, ?_⟩))
                      go_ret
                      exact ⟨by first | rfl | (simp [errW_none, errW_some] <;> rfl) | (simp only [← hji35, ← hji37]; first | rfl | (simp [errW_none, errW_some] <;> rfl)) | (simp [*, errW_none, errW_some] <;> rfl), by repeat (first | (with_reducible first | exact HB.out | apply below_alloc | apply pw_below_drewN | apply below_drew1 | refine below_set ?_ GE214.out) | exact HB.out)⟩
                    · rw [if_neg c36] at H
                      exact absurd H (by simp)
                  · rw [if_neg c34] at H
                    have c34b0 : decide (a0_2 < 8) = false := decide_eq_false c34
                    clear c34
                    obtain rfl := Option.some.inj H
                    have hcz40_0 : wc.cell? ⟨gb214, 0, none⟩ = some (.slice A0_0 l0_0.length c0_0) := (blk_cell BK214.out 0).trans rfl
                    have hcz40_1 : wc.cell? ⟨gb214, 1, none⟩ = some (.int .i64 a0_1) := (blk_cell BK214.out 1).trans rfl
                    have hcz40_2 : wc.cell? ⟨gb214, 2, none⟩ = some (.int .i64 a0_2) := (blk_cell BK214.out 2).trans rfl
                    have hcz40_3 : wc.cell? ⟨gb214, 3, none⟩ = some (.int .u64 a0_3) := (blk_cell BK214.out 3).trans rfl
                    have hfz40_0 := blk_frozen BK214.out 0
                    have hfz40_1 := blk_frozen BK214.out 1
                    have hfz40_2 := blk_frozen BK214.out 2
                    have hfz40_3 := blk_frozen BK214.out 3
                    obtain ⟨Ao41, co41, eo41⟩ := Kd.R_slice HO_4.out
                    subst eo41
                    go_wp2_with (first | ((with_reducible refine gate_callee (f := 23) rfl ?_); refine goesL_ (some 66) rfl rfl Try.func23 (by kernel_rfl) rfl #[.slice Ao41 t219.length co41, .int .i64 a0_1, .int .i64 a0_2] rfl (by (try simp only [List.map_toArray, List.map_cons, List.map_nil]); first | done | rfl | (simp only [List.length_drop, List.length_take]; rfl)) ?_; (with_reducible refine (octet_Get.calls _ _ t219 a0_1 a0_2 t229 true _ ?side1 ?side2 A28.out).mono ?_); (case side1 => repeat (first | exact (Kd.R_reads' HO_4.out).2.2 | (with_reducible refine Kd.C_alloc ?_ _) | (with_reducible refine Kd.C_drewN ?_ _) | (with_reducible refine Kd.C_drew ?_))); (case side2 => exact (Kd.R_reads' HO_4.out).2.1); rintro e w' ⟨rfl, ⟨nd, rfl⟩⟩; refine ⟨_, rfl, ?_⟩))
                    go_ret
                    exact ⟨by first | rfl | (simp [errW_none, errW_some] <;> rfl) | (simp [*, errW_none, errW_some] <;> rfl), by repeat (first | (with_reducible first | exact HB.out | apply below_alloc | apply pw_below_drewN | apply below_drew1 | refine below_set ?_ GE214.out) | exact HB.out)⟩
              · rw [if_neg c30] at H
                have c30b0 : (a0_2 == 8) = false := beq_eq_false_iff_ne.mpr c30
                have c30b1 : (a0_2 != 8) = true := bne_iff_ne.mpr c30
                by_cases c42 : a0_2 < 8
                · rw [if_pos c42] at H
                  have c42b0 : decide (a0_2 < 8) = true := decide_eq_true c42
                  clear c42
                  obtain ⟨ji43, hji43⟩ : ∃ j_ : Int, (IntKind.u64.wrap (8 * (IntKind.u64.wrap (a0_2)))) = j_ := ⟨_, rfl⟩
                  replace H : (if 0 ≤ (ji43) then (some (t229 == (Go.bits .and .u64 a0_3 (IntKind.u64.wrap ((shl .u64 1 (ji43)) - 1))))) else (none)) = some r := by first | (rw [hji43] at H; exact H) | (simp only [hji43] at H ⊢; exact H)
                  (try rw [hji43] at A28)
                  by_cases c44 : 0 ≤ (ji43)
                  · rw [if_pos c44] at H
                    have c44b0 := eq_true c44
                    have c44b1 : decide (0 ≤ (ji43)) = true := decide_eq_true c44
                    clear c44
                    obtain ⟨ji45, hji45⟩ : ∃ j_ : Int, (shl .u64 1 (ji43)) = j_ := ⟨_, rfl⟩
                    replace H : (some (t229 == (Go.bits .and .u64 a0_3 (IntKind.u64.wrap ((ji45) - 1))))) = some r := by first | (rw [hji45] at H; exact H) | (simp only [hji45] at H ⊢; exact H)
                    (try rw [hji45] at A28)
                    have hji45_ : (IntKind.u64.wrap (1 * 2 ^ min (ji43).toNat 64)) = ji45 := hji45
                    have hji45z : (ji43) ≤ 64 → (IntKind.u64.wrap (1 * 2 ^ (ji43).toNat)) = ji45 := shl_small hji45
                    have hji45u : (IntKind.u64.wrap (2 ^ min (ji43).toNat 64)) = ji45 := by have h_ := hji45_; rw [Int.one_mul] at h_; exact h_
                    have hji45v : (ji43) ≤ 64 → (IntKind.u64.wrap (2 ^ (ji43).toNat)) = ji45 := fun hle_ => by have h_ := hji45z hle_; rw [Int.one_mul] at h_; exact h_
                    obtain rfl := Option.some.inj H
                    have hcz46_0 : wc.cell? ⟨gb214, 0, none⟩ = some (.slice A0_0 l0_0.length c0_0) := (blk_cell BK214.out 0).trans rfl
                    have hcz46_1 : wc.cell? ⟨gb214, 1, none⟩ = some (.int .i64 a0_1) := (blk_cell BK214.out 1).trans rfl
                    have hcz46_2 : wc.cell? ⟨gb214, 2, none⟩ = some (.int .i64 a0_2) := (blk_cell BK214.out 2).trans rfl
                    have hcz46_3 : wc.cell? ⟨gb214, 3, none⟩ = some (.int .u64 a0_3) := (blk_cell BK214.out 3).trans rfl
                    have hfz46_0 := blk_frozen BK214.out 0
                    have hfz46_1 := blk_frozen BK214.out 1
                    have hfz46_2 := blk_frozen BK214.out 2
                    have hfz46_3 := blk_frozen BK214.out 3
                    obtain ⟨Ao47, co47, eo47⟩ := Kd.R_slice HO_4.out
                    subst eo47
                    go_wp2_with (first | ((with_reducible refine gate_callee (f := 23) rfl ?_); refine goesL_ (some 66) rfl rfl Try.func23 (by kernel_rfl) rfl #[.slice Ao47 t219.length co47, .int .i64 a0_1, .int .i64 a0_2] rfl (by (try simp only [List.map_toArray, List.map_cons, List.map_nil]); first | done | rfl | (simp only [List.length_drop, List.length_take]; rfl)) ?_; (with_reducible refine (octet_Get.calls _ _ t219 a0_1 a0_2 t229 true _ ?side1 ?side2 A28.out).mono ?_); (case side1 => repeat (first | exact (Kd.R_reads' HO_4.out).2.2 | (with_reducible refine Kd.C_alloc ?_ _) | (with_reducible refine Kd.C_drewN ?_ _) | (with_reducible refine Kd.C_drew ?_))); (case side2 => exact (Kd.R_reads' HO_4.out).2.1); rintro e w' ⟨rfl, ⟨nd, rfl⟩⟩; refine ⟨_, rfl, ?_⟩))
                    go_ret
                    exact ⟨by first | rfl | (simp [errW_none, errW_some] <;> rfl) | (simp only [← hji43, ← hji45]; first | rfl | (simp [errW_none, errW_some] <;> rfl)) | (simp [*, errW_none, errW_some] <;> rfl), by repeat (first | (with_reducible first | exact HB.out | apply below_alloc | apply pw_below_drewN | apply below_drew1 | refine below_set ?_ GE214.out) | exact HB.out)⟩
                  · rw [if_neg c44] at H
                    exact absurd H (by simp)
                · rw [if_neg c42] at H
                  have c42b0 : decide (a0_2 < 8) = false := decide_eq_false c42
                  clear c42
                  obtain rfl := Option.some.inj H
                  have hcz48_0 : wc.cell? ⟨gb214, 0, none⟩ = some (.slice A0_0 l0_0.length c0_0) := (blk_cell BK214.out 0).trans rfl
                  have hcz48_1 : wc.cell? ⟨gb214, 1, none⟩ = some (.int .i64 a0_1) := (blk_cell BK214.out 1).trans rfl
                  have hcz48_2 : wc.cell? ⟨gb214, 2, none⟩ = some (.int .i64 a0_2) := (blk_cell BK214.out 2).trans rfl
                  have hcz48_3 : wc.cell? ⟨gb214, 3, none⟩ = some (.int .u64 a0_3) := (blk_cell BK214.out 3).trans rfl
                  have hfz48_0 := blk_frozen BK214.out 0
                  have hfz48_1 := blk_frozen BK214.out 1
                  have hfz48_2 := blk_frozen BK214.out 2
                  have hfz48_3 := blk_frozen BK214.out 3
                  obtain ⟨Ao49, co49, eo49⟩ := Kd.R_slice HO_4.out
                  subst eo49
                  go_wp2_with (first | ((with_reducible refine gate_callee (f := 23) rfl ?_); refine goesL_ (some 66) rfl rfl Try.func23 (by kernel_rfl) rfl #[.slice Ao49 t219.length co49, .int .i64 a0_1, .int .i64 a0_2] rfl (by (try simp only [List.map_toArray, List.map_cons, List.map_nil]); first | done | rfl | (simp only [List.length_drop, List.length_take]; rfl)) ?_; (with_reducible refine (octet_Get.calls _ _ t219 a0_1 a0_2 t229 true _ ?side1 ?side2 A28.out).mono ?_); (case side1 => repeat (first | exact (Kd.R_reads' HO_4.out).2.2 | (with_reducible refine Kd.C_alloc ?_ _) | (with_reducible refine Kd.C_drewN ?_ _) | (with_reducible refine Kd.C_drew ?_))); (case side2 => exact (Kd.R_reads' HO_4.out).2.1); rintro e w' ⟨rfl, ⟨nd, rfl⟩⟩; refine ⟨_, rfl, ?_⟩))
                  go_ret
                  exact ⟨by first | rfl | (simp [errW_none, errW_some] <;> rfl) | (simp [*, errW_none, errW_some] <;> rfl), by repeat (first | (with_reducible first | exact HB.out | apply below_alloc | apply pw_below_drewN | apply below_drew1 | refine below_set ?_ GE214.out) | exact HB.out)⟩
            · replace c29 := Bool.eq_false_iff.mpr c29
              subst c29
              have H1 : (some false) = some r := by rw [if_neg (show ¬ (false = true) by decide)] at H; exact H
              clear H
              have H := H1
              clear H1
              obtain rfl := Option.some.inj H
              have hcz50_0 : wc.cell? ⟨gb214, 0, none⟩ = some (.slice A0_0 l0_0.length c0_0) := (blk_cell BK214.out 0).trans rfl
              have hcz50_1 : wc.cell? ⟨gb214, 1, none⟩ = some (.int .i64 a0_1) := (blk_cell BK214.out 1).trans rfl
              have hcz50_2 : wc.cell? ⟨gb214, 2, none⟩ = some (.int .i64 a0_2) := (blk_cell BK214.out 2).trans rfl
              have hcz50_3 : wc.cell? ⟨gb214, 3, none⟩ = some (.int .u64 a0_3) := (blk_cell BK214.out 3).trans rfl
              have hfz50_0 := blk_frozen BK214.out 0
              have hfz50_1 := blk_frozen BK214.out 1
              have hfz50_2 := blk_frozen BK214.out 2
              have hfz50_3 := blk_frozen BK214.out 3
              obtain ⟨Ao51, co51, eo51⟩ := Kd.R_slice HO_4.out
              subst eo51
              go_wp2_with (first | ((with_reducible refine gate_callee (f := 23) rfl ?_); refine goesL_ (some 66) rfl rfl Try.func23 (by kernel_rfl) rfl #[.slice Ao51 t219.length co51, .int .i64 a0_1, .int .i64 a0_2] rfl (by (try simp only [List.map_toArray, List.map_cons, List.map_nil]); first | done | rfl | (simp only [List.length_drop, List.length_take]; rfl)) ?_; (with_reducible refine (octet_Get.calls _ _ t219 a0_1 a0_2 t229 false _ ?side1 ?side2 A28.out).mono ?_); (case side1 => repeat (first | exact (Kd.R_reads' HO_4.out).2.2 | (with_reducible refine Kd.C_alloc ?_ _) | (with_reducible refine Kd.C_drewN ?_ _) | (with_reducible refine Kd.C_drew ?_))); (case side2 => exact (Kd.R_reads' HO_4.out).2.1); rintro e w' ⟨rfl, ⟨nd, rfl⟩⟩; refine ⟨_, rfl, ?_⟩))
              go_ret
              exact ⟨by first | rfl | (simp [errW_none, errW_some] <;> rfl) | (simp [*, errW_none, errW_some] <;> rfl), by repeat (first | (with_reducible first | exact HB.out | apply below_alloc | apply pw_below_drewN | apply below_drew1 | refine below_set ?_ GE214.out) | exact HB.out)⟩
          · replace c27 := Bool.eq_false_iff.mpr c27
            subst c27
            have H1 : (some ((t219.length : Int) == 0)) = some r := by rw [if_neg (show ¬ (false = true) by decide)] at H; exact H
            clear H
            have H := H1
            clear H1
            obtain rfl := Option.some.inj H
            obtain ⟨Ao52, co52, eo52⟩ := Kd.R_slice HO_4.out
            subst eo52
            go_wp2
            go_ret
            exact ⟨by first | rfl | (simp [errW_none, errW_some] <;> rfl) | (simp [*, errW_none, errW_some] <;> rfl), by repeat (first | (with_reducible first | exact HB.out | apply below_alloc | apply pw_below_drewN | apply below_drew1 | refine below_set ?_ GE214.out) | exact HB.out)⟩
  · replace c3 := Bool.eq_false_iff.mpr c3
    subst c3
    have H1 : (some false) = some r := by rw [if_neg (show ¬ (false = true) by decide)] at H; exact H
    clear H
    have H := H1
    clear H1
    obtain rfl := Option.some.inj H
    go_enter Try.func7, Try.ntmps7
    go_wp2_with (first | ((with_reducible refine gate_dst (N := 1) rfl ?_); refine box_event ?hg (N := 1) ?hd (cs := #[.slice A0_0 l0_0.length c0_0, .int .i64 a0_1, .int .i64 a0_2, .int .u64 a0_3]) (t := 25) ?hr ?_; (case hd => rfl); (case hg => rfl); (case hr => first | (go_simp; done) | (go_simp; rfl)); intro gb214 hg w53 hbox hb; have n0_ := Aside0.mk (below_step (by repeat (first | (with_reducible first | exact HB.out | apply below_alloc | apply pw_below_drewN | apply below_drew1) | exact HB.out)) hb); have n1_ := Aside0.mk (hbox); have n2_ := Aside0.mk ((by rw [hg]; exact (below_size (by repeat (first | (with_reducible first | exact HB.out | apply below_alloc | apply pw_below_drewN | apply below_drew1) | exact HB.out))) : w.heap.size ≤ gb214)); have n3_ := Aside0.mk ((by rw [hg]; exact (below_size (by repeat (first | (with_reducible first | exact HB.out | apply below_alloc | apply pw_below_drewN | apply below_drew1) | exact HB.out))) : w.heap.size ≤ gb214)); clear HB; have HB := n0_; have BK214 := n1_; have GW214 := n2_; have GE214 := n3_; clear n0_ n1_ n2_ n3_; clear hb hbox hg) | ((with_reducible refine gate_callee (f := 22) rfl ?_); refine goesL_ (some 10) rfl rfl Try.func22 (by kernel_rfl) rfl #[] rfl (by (try simp only [List.map_toArray, List.map_cons, List.map_nil]); first | done | rfl | (simp only [List.length_drop, List.length_take]; rfl)) ?_; (with_reducible refine (bailiwicklaw1_awake.calls  false _ A2.out).mono ?_); rintro e w54 ⟨rfl, hb⟩; refine ⟨_, rfl, ?_⟩; have n0_ := Aside0.mk (blk_below (g := gb214) (o := .cells #[.slice A0_0 l0_0.length c0_0, .int .i64 a0_1, .int .i64 a0_2, .int .u64 a0_3] 25 (0, 0)) (by (with_reducible repeat (first | refine blk_drewN ?_ _ | refine blk_drew ?_ | refine blk_alloc ?_ _)); exact BK214.out) hb); have n1_ := Aside0.mk (below_step (by repeat (first | (with_reducible first | exact HB.out | apply below_alloc | apply pw_below_drewN | apply below_drew1 | refine below_set ?_ GE214.out) | exact HB.out)) hb); clear BK214; clear HB; have BK214 := n0_; have HB := n1_; clear n0_ n1_; (try clear hb); (try clear hb2); (try clear hk); (try clear hi)))
    go_ret
    exact ⟨by first | rfl | (simp [errW_none, errW_some] <;> rfl) | (simp [*, errW_none, errW_some] <;> rfl), by repeat (first | (with_reducible first | exact HB.out | apply below_alloc | apply pw_below_drewN | apply below_drew1 | refine below_set ?_ GE214.out) | exact HB.out)⟩
def bailiwicklaw1_OctetPuts.Pure : Prop := ∀ (l0_0 : List Int) (a0_1 : Int) (a0_2 : Int) (a0_3 : Int), (l0_0.length ≤ maxLen ∧ l0_0.length * 1 ≤ 140737488351232 ∧ ∀ a__ ∈ l0_0, (Lit.int .u8 a__).wf = true) → (Lit.int .i64 a0_1).wf = true → (Lit.int .i64 a0_2).wf = true → (Lit.int .u64 a0_3).wf = true → ∃ k, bailiwicklaw1_OctetPuts.f k l0_0 a0_1 a0_2 a0_3 = some true

end Go.Proofs.Ytdppnkgblklmmaa.P
