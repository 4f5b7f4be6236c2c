-- Laid by a program (wip/tools/myprint.py) out of the translation. Not trusted: Lean checks it.
import Derived.Test.YtdppnkgblklmmaaP0
import Derived.Test.YtdppnkgblklmmaaPbailiwickref3B
import Derived.Test.YtdppnkgblklmmaaPicmp
import Derived.Test.YtdppnkgblklmmaaPbailiwicklaw5
namespace Go.Proofs.Ytdppnkgblklmmaa.P
open Go.RowKit Go.Proofs.YtdppnkgblklmmaaW.PrintWords Go.Proofs.YtdppnkgblklmmaaW.PrintLast Go.Proofs.YtdppnkgblklmmaaW.PrintMore
attribute [local go_sem] max2_int min2_int max_two min_two max_three min_three max_four min_four   -- for this text's walks alone
set_option linter.unusedVariables false
set_option linter.unusedSimpArgs false

/-! ### bailiwicklaw5_IcmpBack: function 21 -/
def bailiwicklaw5_IcmpBack.j0 : Nat → Int → List Int → Bool → Option (Bool)
  | 0, _, _, _ => none
  | k + 1, x1, x5, x36 => if x36 = true then (some false) else (if x1 < 0 then (some true) else (if (wrap64 (Int.tdiv x1 8)) ≥ (x5.length : Int) then (some true) else (if 0 ≤ (wrap64 (Int.tdiv x1 8)) then (if (wrap64 (Int.tdiv x1 8)) < (x5.length : Int) then (if 0 ≤ (IntKind.u64.wrap (Int.tmod x1 8)) then ((icmp_Parse.f (x5.set ((wrap64 (Int.tdiv x1 8)) : Int).toNat (Go.bits .xor .u8 (rd x5 (wrap64 (Int.tdiv x1 8))) (shl .u8 1 (IntKind.u64.wrap (Int.tmod x1 8)))))).bind fun bt708 => (some (bt708.2.2.2.2 == 5))) else (none)) else (none)) else (none))))
def bailiwicklaw5_IcmpBack.f (k : Nat) (a0_0 : Int) (a0_1 : Int) (a0_2 : Int) (l0_3 : List Int) (a1 : Int) : Option (Bool) := (bailiwicklaw5_awake.f k).bind fun t692 => (if t692 = true then (if (l0_3.length : Int) > 5000 then (some true) else ((icmp_Build.f k a0_0 a0_1 a0_2 l0_3).bind fun bt693 => (if bt693.2 = 0 then ((icmp_Parse.f bt693.1).bind fun bt697 => (if bt697.2.2.2.2 = 0 then ((bailiwickref3_SameWord.f k bt697.1 bt697.2.1 bt697.2.2.1 bt697.2.2.2.1 a0_0 a0_1 a0_2 l0_3).bind fun t705 => (bailiwicklaw5_IcmpBack.j0 k a1 bt693.1 (!t705))) else (bailiwicklaw5_IcmpBack.j0 k a1 bt693.1 true))) else (some true)))) else (some false))
theorem bailiwicklaw5_IcmpBack.mono_l : ∀ k, (∀ y0 y1 y2, LeO (bailiwicklaw5_IcmpBack.j0 k y0 y1 y2) (bailiwicklaw5_IcmpBack.j0 (k + 1) y0 y1 y2))
  | 0 => fun _ _ _ r h => by simp [bailiwicklaw5_IcmpBack.j0] at h
  | k + 1 => by
    have ih0 := bailiwicklaw5_IcmpBack.mono_l k
    · intro y0 y1 y2
      unfold bailiwicklaw5_IcmpBack.j0
      repeat' first
      | (with_reducible exact ih0 _ _ _)
      | (with_reducible exact bailiwicklaw5_awake.mono _)
      | (with_reducible exact bailiwickref3_SameWord.mono _ _ _ _ _ _ _ _ _)
      | (with_reducible exact icmp_Build.mono _ _ _ _ _)
      | (with_reducible exact LeO.refl _)
      | (with_reducible exact LeO.none _)
      | (with_reducible refine LeO.ite ?_ ?_)
      | (with_reducible refine LeO.bind ?_ (fun _ => ?_))
      | exact ih0 _ _ _
      | exact bailiwicklaw5_awake.mono _
      | exact bailiwickref3_SameWord.mono _ _ _ _ _ _ _ _ _
      | exact icmp_Build.mono _ _ _ _ _
      | exact LeO.none _
      | refine LeO.ite ?_ ?_
      | refine LeO.bind ?_ (fun _ => ?_)
theorem bailiwicklaw5_IcmpBack.mono : ∀ a0 a1 a2 a3 a4 k, LeO (bailiwicklaw5_IcmpBack.f k a0 a1 a2 a3 a4) (bailiwicklaw5_IcmpBack.f (k + 1) a0 a1 a2 a3 a4) := by
  intro a0 a1 a2 a3 a4 k
  have ih0 := bailiwicklaw5_IcmpBack.mono_l k
  unfold bailiwicklaw5_IcmpBack.f
  repeat' first
      | (with_reducible exact ih0 _ _ _)
      | (with_reducible exact bailiwicklaw5_awake.mono _)
      | (with_reducible exact bailiwickref3_SameWord.mono _ _ _ _ _ _ _ _ _)
      | (with_reducible exact icmp_Build.mono _ _ _ _ _)
      | (with_reducible exact LeO.refl _)
      | (with_reducible exact LeO.none _)
      | (with_reducible refine LeO.ite ?_ ?_)
      | (with_reducible refine LeO.bind ?_ (fun _ => ?_))
      | exact ih0 _ _ _
      | exact bailiwicklaw5_awake.mono _
      | exact bailiwickref3_SameWord.mono _ _ _ _ _ _ _ _ _
      | exact icmp_Build.mono _ _ _ _ _
      | exact LeO.none _
      | refine LeO.ite ?_ ?_
      | refine LeO.bind ?_ (fun _ => ?_)
set_option maxHeartbeats 8000000 in
set_option maxRecDepth 100000 in
theorem bailiwicklaw5_IcmpBack.calls (k : Nat) (a0_0 : Int) (a0_1 : Int) (a0_2 : Int) (A0_3 : Option Addr) (c0_3 : Nat) (l0_3 : List Int) (a1 : Int) (r : Bool) (w : World) (hr0_3 : Kd.C (Kd.int .u8) w A0_3 l0_3.length l0_3) (hc0_3 : l0_3.length ≤ c0_3) (h : bailiwicklaw5_IcmpBack.f k a0_0 a0_1 a0_2 l0_3 a1 = some r) :
    Calls Try.prog 21 #[.agg #[.int .i64 a0_0, .int .i64 a0_1, .int .u32 a0_2, .slice A0_3 l0_3.length c0_3], .int .i64 a1] w fun e w' => e = .returned (.bool r) ∧ Below w.heap.size w w' := by
  have hu66 := Try.underlying66
  have HR0_3 := Aside0.mk hr0_3
  have HC0_3 := Aside0.mk hc0_3
  clear hr0_3 hc0_3
  have HB := Aside0.mk (Below.refl w.heap.size w)
  have H : ((bailiwicklaw5_awake.f k).bind fun t692 => (if t692 = true then (if (l0_3.length : Int) > 5000 then (some true) else ((icmp_Build.f k a0_0 a0_1 a0_2 l0_3).bind fun bt693 => (if bt693.2 = 0 then ((icmp_Parse.f bt693.1).bind fun bt697 => (if bt697.2.2.2.2 = 0 then ((bailiwickref3_SameWord.f k bt697.1 bt697.2.1 bt697.2.2.1 bt697.2.2.2.1 a0_0 a0_1 a0_2 l0_3).bind fun t705 => (bailiwicklaw5_IcmpBack.j0 k a1 bt693.1 (!t705))) else (bailiwicklaw5_IcmpBack.j0 k a1 bt693.1 true))) else (some true)))) else (some false))) = some r := h
  clear h
  replace H := Option.bind_eq_some_iff.mp H
  obtain ⟨t692, A30, H⟩ := H
  replace H : (if t692 = true then (if (l0_3.length : Int) > 5000 then (some true) else ((icmp_Build.f k a0_0 a0_1 a0_2 l0_3).bind fun bt693 => (if bt693.2 = 0 then ((icmp_Parse.f bt693.1).bind fun bt697 => (if bt697.2.2.2.2 = 0 then ((bailiwickref3_SameWord.f k bt697.1 bt697.2.1 bt697.2.2.1 bt697.2.2.2.1 a0_0 a0_1 a0_2 l0_3).bind fun t705 => (bailiwicklaw5_IcmpBack.j0 k a1 bt693.1 (!t705))) else (bailiwicklaw5_IcmpBack.j0 k a1 bt693.1 true))) else (some true)))) else (some false)) = some r := H
  have A3 := Aside0.mk A30
  clear A30
  by_cases c4 : t692 = true
  · subst c4
    have H1 : (if (l0_3.length : Int) > 5000 then (some true) else ((icmp_Build.f k a0_0 a0_1 a0_2 l0_3).bind fun bt693 => (if bt693.2 = 0 then ((icmp_Parse.f bt693.1).bind fun bt697 => (if bt697.2.2.2.2 = 0 then ((bailiwickref3_SameWord.f k bt697.1 bt697.2.1 bt697.2.2.1 bt697.2.2.2.1 a0_0 a0_1 a0_2 l0_3).bind fun t705 => (bailiwicklaw5_IcmpBack.j0 k a1 bt693.1 (!t705))) else (bailiwicklaw5_IcmpBack.j0 k a1 bt693.1 true))) else (some true)))) = some r := by rw [if_pos rfl] at H; exact H
    clear H
    have H := H1
    clear H1
    by_cases c5 : (l0_3.length : Int) > 5000
    · rw [if_pos c5] at H
      have c5b0 : decide (5000 < (l0_3.length : Int)) = true := decide_eq_true c5
      have c5b1 : decide (5000 < l0_3.length) = true := decide_eq_true (by omega)
      clear c5
      obtain rfl := Option.some.inj H
      go_enter Try.func21, Try.ntmps21
      go_wp2_with (first | ((with_reducible refine gate_dst (N := 2) rfl ?_); (try (refine gate_guard (by rfl) ?_; dsimp only)); refine box_event ?hg (N := 2) ?hd (cs := #[.int .i64 a0_0, .int .i64 a0_1, .int .u32 a0_2, .slice A0_3 l0_3.length c0_3]) (t := 66) ?hr ?_; (case hd => rfl); (case hg => rfl); (case hr => first | (go_simp; done) | (go_simp; rfl)); intro gb691 hg w6 hbox hb; have n0_ := Aside0.mk (below_step (by repeat (first | (with_reducible first | exact HB.out | apply below_alloc | apply pw_below_drewN | apply below_drew1) | exact HB.out)) hb); have n1_ := Aside0.mk (hbox); have n2_ := Aside0.mk ((by rw [hg]; exact (below_size (by repeat (first | (with_reducible first | exact HB.out | apply below_alloc | apply pw_below_drewN | apply below_drew1) | exact HB.out))) : w.heap.size ≤ gb691)); have n3_ := Aside0.mk ((by rw [hg]; exact (below_size (by repeat (first | (with_reducible first | exact HB.out | apply below_alloc | apply pw_below_drewN | apply below_drew1) | exact HB.out))) : w.heap.size ≤ gb691)); clear HB; have HB := n0_; have BK691 := n1_; have GW691 := n2_; have GE691 := n3_; clear n0_ n1_ n2_ n3_; clear hb hbox hg) | ((with_reducible refine gate_callee (f := 46) rfl ?_); refine goesL_ (some 11) rfl rfl Try.func46 (by kernel_rfl) rfl #[] rfl (by (try simp only [List.map_toArray, List.map_cons, List.map_nil]); first | done | rfl | (simp only [List.length_drop, List.length_take]; rfl)) ?_; (with_reducible refine (bailiwicklaw5_awake.calls k  true _ A3.out).mono ?_); rintro e w7 ⟨rfl, hb⟩; refine ⟨_, rfl, ?_⟩; have n0_ := Aside0.mk (blk_below (g := gb691) (o := .cells #[.int .i64 a0_0, .int .i64 a0_1, .int .u32 a0_2, .slice A0_3 l0_3.length c0_3] 66 (0, 0)) (by (with_reducible repeat (first | refine blk_drewN ?_ _ | refine blk_drew ?_ | refine blk_alloc ?_ _)); exact BK691.out) hb); have n1_ := Aside0.mk (below_step (by repeat (first | (with_reducible first | exact HB.out | apply below_alloc | apply pw_below_drewN | apply below_drew1 | refine below_set ?_ GE691.out) | exact HB.out)) hb); clear BK691; clear HB; have BK691 := n0_; have HB := n1_; clear n0_ n1_; (try clear hb); (try clear hb2); (try clear hk); (try clear hi); have hcz8_0 : w7.cell? ⟨gb691, 0, none⟩ = some (.int .i64 a0_0) := (blk_cell BK691.out 0).trans rfl; have hcz8_1 : w7.cell? ⟨gb691, 1, none⟩ = some (.int .i64 a0_1) := (blk_cell BK691.out 1).trans rfl; have hcz8_2 : w7.cell? ⟨gb691, 2, none⟩ = some (.int .u32 a0_2) := (blk_cell BK691.out 2).trans rfl; have hcz8_3 : w7.cell? ⟨gb691, 3, none⟩ = some (.slice A0_3 l0_3.length c0_3) := (blk_cell BK691.out 3).trans rfl; have hfz8_0 := blk_frozen BK691.out 0; have hfz8_1 := blk_frozen BK691.out 1; have hfz8_2 := blk_frozen BK691.out 2; have hfz8_3 := blk_frozen BK691.out 3))
      go_ret
      exact ⟨by first | rfl | (simp [errW_none, errW_some] <;> rfl) | (simp [*, errW_none, errW_some] <;> rfl), by repeat (first | (with_reducible first | exact HB.out | apply below_alloc | apply pw_below_drewN | apply below_drew1 | refine below_set ?_ GE691.out) | exact HB.out)⟩
    · rw [if_neg c5] at H
      have c5b0 : decide (5000 < (l0_3.length : Int)) = false := decide_eq_false c5
      have c5b1 : decide (5000 < l0_3.length) = false := decide_eq_false (by omega)
      clear c5
      replace H := Option.bind_eq_some_iff.mp H
      obtain ⟨⟨t693, t696⟩, A90, H⟩ := H
      replace H : (if t696 = 0 then ((icmp_Parse.f t693).bind fun bt697 => (if bt697.2.2.2.2 = 0 then ((bailiwickref3_SameWord.f k bt697.1 bt697.2.1 bt697.2.2.1 bt697.2.2.2.1 a0_0 a0_1 a0_2 l0_3).bind fun t705 => (bailiwicklaw5_IcmpBack.j0 k a1 t693 (!t705))) else (bailiwicklaw5_IcmpBack.j0 k a1 t693 true))) else (some true)) = some r := H
      have A9 := Aside0.mk A90
      clear A90
      by_cases c10 : t696 = 0
      · rw [if_pos c10] at H
        have c10b0 : (t696 == 0) = true := beq_iff_eq.mpr c10
        have c10b1 : (t696 != 0) = false := bne_eq_false_iff_eq.mpr c10
        clear c10
        replace H := Option.bind_eq_some_iff.mp H
        obtain ⟨⟨t697, t698, t699, t700, t703⟩, A110, H⟩ := H
        replace H : (if t703 = 0 then ((bailiwickref3_SameWord.f k t697 t698 t699 t700 a0_0 a0_1 a0_2 l0_3).bind fun t705 => (bailiwicklaw5_IcmpBack.j0 k a1 t693 (!t705))) else (bailiwicklaw5_IcmpBack.j0 k a1 t693 true)) = some r := H
        have A11 := Aside0.mk A110
        clear A110
        have HC12 := Aside0.mk H
        clear H
        go_enter Try.func21, Try.ntmps21
        go_upto_region 9 with (first | ((with_reducible refine gate_dst (N := 2) rfl ?_); (try (refine gate_guard (by rfl) ?_; dsimp only)); refine box_event ?hg (N := 2) ?hd (cs := #[.int .i64 a0_0, .int .i64 a0_1, .int .u32 a0_2, .slice A0_3 l0_3.length c0_3]) (t := 66) ?hr ?_; (case hd => rfl); (case hg => rfl); (case hr => first | (go_simp; done) | (go_simp; rfl)); intro gb691 hg w13 hbox hb; have n0_ := Aside0.mk (below_step (by repeat (first | (with_reducible first | exact HB.out | apply below_alloc | apply pw_below_drewN | apply below_drew1) | exact HB.out)) hb); have n1_ := Aside0.mk (hbox); have n2_ := Aside0.mk ((by rw [hg]; exact (below_size (by repeat (first | (with_reducible first | exact HB.out | apply below_alloc | apply pw_below_drewN | apply below_drew1) | exact HB.out))) : w.heap.size ≤ gb691)); have n3_ := Aside0.mk ((by rw [hg]; exact (below_size (by repeat (first | (with_reducible first | exact HB.out | apply below_alloc | apply pw_below_drewN | apply below_drew1) | exact HB.out))) : w.heap.size ≤ gb691)); clear HB; have HB := n0_; have BK691 := n1_; have GW691 := n2_; have GE691 := n3_; clear n0_ n1_ n2_ n3_; clear hb hbox hg) | ((with_reducible refine gate_callee (f := 46) rfl ?_); refine goesL_ (some 11) rfl rfl Try.func46 (by kernel_rfl) rfl #[] rfl (by (try simp only [List.map_toArray, List.map_cons, List.map_nil]); first | done | rfl | (simp only [List.length_drop, List.length_take]; rfl)) ?_; (with_reducible refine (bailiwicklaw5_awake.calls k  true _ A3.out).mono ?_); rintro e w14 ⟨rfl, hb⟩; refine ⟨_, rfl, ?_⟩; have n0_ := Aside0.mk (blk_below (g := gb691) (o := .cells #[.int .i64 a0_0, .int .i64 a0_1, .int .u32 a0_2, .slice A0_3 l0_3.length c0_3] 66 (0, 0)) (by (with_reducible repeat (first | refine blk_drewN ?_ _ | refine blk_drew ?_ | refine blk_alloc ?_ _)); exact BK691.out) hb); have n1_ := Aside0.mk (below_step (by repeat (first | (with_reducible first | exact HB.out | apply below_alloc | apply pw_below_drewN | apply below_drew1 | refine below_set ?_ GE691.out) | exact HB.out)) hb); clear BK691; clear HB; have BK691 := n0_; have HB := n1_; clear n0_ n1_; (try clear hb); (try clear hb2); (try clear hk); (try clear hi); have hcz15_0 : w14.cell? ⟨gb691, 0, none⟩ = some (.int .i64 a0_0) := (blk_cell BK691.out 0).trans rfl; have hcz15_1 : w14.cell? ⟨gb691, 1, none⟩ = some (.int .i64 a0_1) := (blk_cell BK691.out 1).trans rfl; have hcz15_2 : w14.cell? ⟨gb691, 2, none⟩ = some (.int .u32 a0_2) := (blk_cell BK691.out 2).trans rfl; have hcz15_3 : w14.cell? ⟨gb691, 3, none⟩ = some (.slice A0_3 l0_3.length c0_3) := (blk_cell BK691.out 3).trans rfl; have hfz15_0 := blk_frozen BK691.out 0; have hfz15_1 := blk_frozen BK691.out 1; have hfz15_2 := blk_frozen BK691.out 2; have hfz15_3 := blk_frozen BK691.out 3) | ((with_reducible refine gate_callee (f := 47) rfl ?_); refine goesL_ (some 19) rfl rfl Try.func47 (by kernel_rfl) rfl #[.agg #[.int .i64 a0_0, .int .i64 a0_1, .int .u32 a0_2, .slice A0_3 l0_3.length c0_3]] rfl (by (try simp only [List.map_toArray, List.map_cons, List.map_nil]); first | done | rfl | (simp only [List.length_drop, List.length_take]; rfl)) ?_; (with_reducible refine (icmp_Build.calls k a0_0 a0_1 a0_2 _ _ l0_3 t693 t696 _ ?side1 ?side2 A9.out).mono ?_); (case side1 => repeat (first | exact (Kd.C_below HR0_3.out HB.out) | (with_reducible refine Kd.C_alloc ?_ _) | (with_reducible refine Kd.C_drewN ?_ _) | (with_reducible refine Kd.C_drew ?_))); (case side2 => exact HC0_3.out); rintro e w16 ⟨v694, rfl, ho0, hb⟩; refine ⟨_, rfl, ?_⟩; have n0_ := Aside0.mk (Kd.R_lower ho0 (below_size (by repeat (first | (with_reducible first | exact HB.out | apply below_alloc | apply pw_below_drewN | apply below_drew1 | refine below_set ?_ GE691.out) | exact HB.out)))); have n1_ := Aside0.mk (blk_below (g := gb691) (o := .cells #[.int .i64 a0_0, .int .i64 a0_1, .int .u32 a0_2, .slice A0_3 l0_3.length c0_3] 66 (0, 0)) (by (with_reducible repeat (first | refine blk_drewN ?_ _ | refine blk_drew ?_ | refine blk_alloc ?_ _)); exact BK691.out) hb); have n2_ := Aside0.mk (below_step (by repeat (first | (with_reducible first | exact HB.out | apply below_alloc | apply pw_below_drewN | apply below_drew1 | refine below_set ?_ GE691.out) | exact HB.out)) hb); clear BK691; clear HB; have HO695 := n0_; have BK691 := n1_; have HB := n2_; clear n0_ n1_ n2_; (try clear hb); (try clear hb2); (try clear hk); (try clear hi); (try clear ho0); obtain ⟨Ao17, co17, eo17⟩ := Kd.R_slice HO695.out; subst eo17) | ((with_reducible refine gate_callee (f := 52) rfl ?_); refine goesL_ (some 26) rfl rfl Try.func52 (by kernel_rfl) rfl #[.slice Ao17 t693.length co17] rfl (by (try simp only [List.map_toArray, List.map_cons, List.map_nil]); first | done | rfl | (simp only [List.length_drop, List.length_take]; rfl)) ?_; (with_reducible refine (icmp_Parse.calls _ _ t693 t697 t698 t699 t700 t703 _ ?side1 ?side2 A11.out).mono ?_); (case side1 => repeat (first | exact (Kd.R_reads' HO695.out).2.2 | (with_reducible refine Kd.C_alloc ?_ _) | (with_reducible refine Kd.C_drewN ?_ _) | (with_reducible refine Kd.C_drew ?_))); (case side2 => exact (Kd.R_reads' HO695.out).2.1); rintro e w18 ⟨v701, rfl, ho0, hb⟩; refine ⟨_, rfl, ?_⟩; have n0_ := Aside0.mk (Kd.R_elder' (by (with_reducible repeat (first | apply Kd.R_alloc | apply Kd.R_drewN | apply Kd.R_drew)); exact HO695.out) (Kd.R_base ho0) hb); have n1_ := Aside0.mk (Kd.R_lower (Kd.R_new' ho0 (Kd.R_lt (by (with_reducible repeat (first | apply Kd.R_alloc | apply Kd.R_drewN | apply Kd.R_drew)); exact HO695.out))) (below_size (by repeat (first | (with_reducible first | exact HB.out | apply below_alloc | apply pw_below_drewN | apply below_drew1 | refine below_set ?_ GE691.out) | exact HB.out)))); have n2_ := Aside0.mk (blk_below (g := gb691) (o := .cells #[.int .i64 a0_0, .int .i64 a0_1, .int .u32 a0_2, .slice A0_3 l0_3.length c0_3] 66 (0, 0)) (by (with_reducible repeat (first | refine blk_drewN ?_ _ | refine blk_drew ?_ | refine blk_alloc ?_ _)); exact BK691.out) hb); have n3_ := Aside0.mk (below_step (by repeat (first | (with_reducible first | exact HB.out | apply below_alloc | apply pw_below_drewN | apply below_drew1 | refine below_set ?_ GE691.out) | exact HB.out)) hb); clear HO695; clear BK691; clear HB; have HO695 := n0_; have HO702 := n1_; have BK691 := n2_; have HB := n3_; clear n0_ n1_ n2_ n3_; (try clear hb); (try clear hb2); (try clear hk); (try clear hi); (try clear ho0)) | ((with_reducible refine gate_dst (N := 7) rfl ?_); (try (refine gate_guard (by rfl) ?_; dsimp only)); refine box_event ?hg (N := 7) ?hd (cs := #[.int .i64 0, .int .i64 0, .int .u32 0, .slice none 0 0]) (t := 66) ?hr ?_; (case hd => rfl); (case hg => rfl); (case hr => first | (go_simp; done) | (go_simp; rfl)); intro gb704 hg w19 hbox hb; have n0_ := Aside0.mk (Kd.R_below (by (with_reducible repeat (first | apply Kd.R_alloc | apply Kd.R_drewN | apply Kd.R_drew)); exact HO695.out) hb); have n1_ := Aside0.mk (Kd.R_below (by (with_reducible repeat (first | apply Kd.R_alloc | apply Kd.R_drewN | apply Kd.R_drew)); exact HO702.out) hb); have n2_ := Aside0.mk (blk_below (g := gb691) (o := .cells #[.int .i64 a0_0, .int .i64 a0_1, .int .u32 a0_2, .slice A0_3 l0_3.length c0_3] 66 (0, 0)) (by (with_reducible repeat (first | refine blk_drewN ?_ _ | refine blk_drew ?_ | refine blk_alloc ?_ _)); exact BK691.out) hb); have n3_ := Aside0.mk (below_step (by repeat (first | (with_reducible first | exact HB.out | apply below_alloc | apply pw_below_drewN | apply below_drew1 | refine below_set ?_ GE691.out) | exact HB.out)) hb); have n4_ := Aside0.mk (hbox); have n5_ := Aside0.mk ((by rw [hg]; exact (below_size (by repeat (first | (with_reducible first | exact HB.out | apply below_alloc | apply pw_below_drewN | apply below_drew1 | refine below_set ?_ GE691.out) | exact HB.out))) : w.heap.size ≤ gb704)); have n6_ := Aside0.mk ((by rw [hg]; exact (below_size (by repeat (first | (with_reducible first | exact HB.out | apply below_alloc | apply pw_below_drewN | apply below_drew1 | refine below_set ?_ GE691.out) | exact HB.out))) : w.heap.size ≤ gb704)); have n7_ := Aside0.mk ((by rw [hg]; exact Nat.ne_of_lt (blk_lt (g := gb691) (o := .cells #[.int .i64 a0_0, .int .i64 a0_1, .int .u32 a0_2, .slice A0_3 l0_3.length c0_3] 66 (0, 0)) (by (with_reducible repeat (first | refine blk_drewN ?_ _ | refine blk_drew ?_ | refine blk_alloc ?_ _)); exact BK691.out)) : gb691 ≠ gb704)); have n8_ := Aside0.mk ((by rw [hg]; exact Nat.ne_of_gt (blk_lt (g := gb691) (o := .cells #[.int .i64 a0_0, .int .i64 a0_1, .int .u32 a0_2, .slice A0_3 l0_3.length c0_3] 66 (0, 0)) (by (with_reducible repeat (first | refine blk_drewN ?_ _ | refine blk_drew ?_ | refine blk_alloc ?_ _)); exact BK691.out)) : gb704 ≠ gb691)); clear HO695; clear HO702; clear BK691; clear HB; have HO695 := n0_; have HO702 := n1_; have BK691 := n2_; have HB := n3_; have BK704 := n4_; have GW704 := n5_; have GE704 := n6_; have NB691_704 := n7_; have NB704_691 := n8_; clear n0_ n1_ n2_ n3_ n4_ n5_ n6_ n7_ n8_; clear hb hbox hg; have hnb20 := NB704_691.out; have hnc20 := NB691_704.out; have hcz21_0 : w19.cell? ⟨gb704, 0, none⟩ = some (.int .i64 0) := (blk_cell BK704.out 0).trans rfl; have hcz21_1 : w19.cell? ⟨gb704, 1, none⟩ = some (.int .i64 0) := (blk_cell BK704.out 1).trans rfl; have hcz21_2 : w19.cell? ⟨gb704, 2, none⟩ = some (.int .u32 0) := (blk_cell BK704.out 2).trans rfl; have hcz21_3 : w19.cell? ⟨gb704, 3, none⟩ = some (.slice none 0 0) := (blk_cell BK704.out 3).trans rfl; have hfz21_0 := blk_frozen BK704.out 0; have hfz21_1 := blk_frozen BK704.out 1; have hfz21_2 := blk_frozen BK704.out 2; have hfz21_3 := blk_frozen BK704.out 3; obtain ⟨Ao22, co22, eo22⟩ := Kd.R_slice HO702.out; subst eo22))
        (try simp only [Act.put, List.setIfInBounds_toArray, List.set_cons_zero, List.set_cons_succ])
        go_cut [36] (fun v36 wc => ∃ (kq : Nat) (x36_11 : Bool), v36 = .bool x36_11 ∧ Aside0 (bailiwicklaw5_IcmpBack.j0 kq a1 t693 x36_11 = some r) ∧ Aside0 (kq ≤ k) ∧ Aside0 (Kd.R (Kd.int .u8) 5 wc w.heap.size (fun k_ => some k_ ≠ ((.slice Ao22 t700.length co22) : Value).ownBlock) (.slice Ao17 t693.length co17) t693) ∧ Aside0 (Kd.R (Kd.int .u8) 5 wc w.heap.size (fun k_ => some k_ ≠ ((.slice Ao17 t693.length co17) : Value).ownBlock) (.slice Ao22 t700.length co22) t700) ∧ Aside0 (wc.heap[gb691]? = some (.cells #[.int .i64 a0_0, .int .i64 a0_1, .int .u32 a0_2, (.slice A0_3 l0_3.length c0_3)] 66 (0, 0))) ∧ Aside0 (wc.heap[gb704]? = some (.cells #[.int .i64 t697, .int .i64 t698, .int .u32 t699, (.slice Ao22 t700.length co22)] 66 (0, 0))) ∧ Aside0 (Below w.heap.size w wc))
        case first =>
          have H := HC12.out
          clear HC12
          by_cases c23 : t703 = 0
          · rw [if_pos c23] at H
            have c23b0 : (t703 == 0) = true := beq_iff_eq.mpr c23
            have c23b1 : (t703 != 0) = false := bne_eq_false_iff_eq.mpr c23
            clear c23
            (first | rw [c23b0] | (simp only [i64_w, i32_w]; rw [c23b0]) | skip)
            replace H := Option.bind_eq_some_iff.mp H
            obtain ⟨t705, A240, H⟩ := H
            replace H : (bailiwicklaw5_IcmpBack.j0 k a1 t693 (!t705)) = some r := H
            have A24 := Aside0.mk A240
            clear A240
            have H' := Aside0.mk H
            clear H
            have hnb25 := NB704_691.out
            have hnc25 := NB691_704.out
            have hcz26_0 : w19.cell? ⟨gb704, 0, none⟩ = some (.int .i64 0) := (blk_cell BK704.out 0).trans rfl
            have hcz26_1 : w19.cell? ⟨gb704, 1, none⟩ = some (.int .i64 0) := (blk_cell BK704.out 1).trans rfl
            have hcz26_2 : w19.cell? ⟨gb704, 2, none⟩ = some (.int .u32 0) := (blk_cell BK704.out 2).trans rfl
            have hcz26_3 : w19.cell? ⟨gb704, 3, none⟩ = some (.slice none 0 0) := (blk_cell BK704.out 3).trans rfl
            have hfz26_0 := blk_frozen BK704.out 0
            have hfz26_1 := blk_frozen BK704.out 1
            have hfz26_2 := blk_frozen BK704.out 2
            have hfz26_3 := blk_frozen BK704.out 3
            have hcz27_0 : w19.cell? ⟨gb691, 0, none⟩ = some (.int .i64 a0_0) := (blk_cell BK691.out 0).trans rfl
            have hcz27_1 : w19.cell? ⟨gb691, 1, none⟩ = some (.int .i64 a0_1) := (blk_cell BK691.out 1).trans rfl
            have hcz27_2 : w19.cell? ⟨gb691, 2, none⟩ = some (.int .u32 a0_2) := (blk_cell BK691.out 2).trans rfl
            have hcz27_3 : w19.cell? ⟨gb691, 3, none⟩ = some (.slice A0_3 l0_3.length c0_3) := (blk_cell BK691.out 3).trans rfl
            have hfz27_0 := blk_frozen BK691.out 0
            have hfz27_1 := blk_frozen BK691.out 1
            have hfz27_2 := blk_frozen BK691.out 2
            have hfz27_3 := blk_frozen BK691.out 3
            go_wp2_with (first | (go_at_call 54; (with_reducible refine (bailiwickref3_SameWord.calls k t697 t698 t699 _ _ t700 a0_0 a0_1 a0_2 _ _ l0_3 t705 _ ?side1 ?side2 ?side3 ?side4 A24.out).mono ?_); (case side1 => refine (Kd.R_reads' (e := 5) (base := w.heap.size) (ok := fun k_ => (True ∧ some k_ ≠ (.slice Ao17 t693.length co17 : Value).ownBlock)) (n := t700.length) (c := co22) ?_).2.2; exact (by (with_reducible repeat (first | apply Kd.R_alloc | apply Kd.R_drewN | apply Kd.R_drew)); exact (Kd.R_mono (Kd.R_far (p := ⟨gb704, 3, none⟩) (Kd.R_far (p := ⟨gb704, 2, none⟩) (Kd.R_far (p := ⟨gb704, 1, none⟩) (Kd.R_far (p := ⟨gb704, 0, none⟩) (Kd.R_types HO702.out BK704.out (by decide)) (fun _ hk => hk.2) (.int .i64 t697)) (fun _ hk => hk.2) (.int .i64 t698)) (fun _ hk => hk.2) (.int .u32 t699)) (fun _ hk => hk.2) (.slice Ao22 t700.length co22)) (fun _ h_ => h_.1)))); (case side2 => exact (Kd.R_reads' HO702.out).2.1); (case side3 => exact Kd.C_below HR0_3.out (by repeat (first | (with_reducible first | exact HB.out | apply below_alloc | apply pw_below_drewN | apply below_drew1 | refine below_set ?_ GE691.out | refine below_set ?_ GE704.out) | exact HB.out))); (case side4 => exact HC0_3.out); rintro e w28 ⟨rfl, hb⟩; have n0_ := Aside0.mk (Kd.R_below (by (with_reducible repeat (first | apply Kd.R_alloc | apply Kd.R_drewN | apply Kd.R_drew)); exact (Kd.R_mono (Kd.R_far (p := ⟨gb704, 3, none⟩) (Kd.R_far (p := ⟨gb704, 2, none⟩) (Kd.R_far (p := ⟨gb704, 1, none⟩) (Kd.R_far (p := ⟨gb704, 0, none⟩) (Kd.R_types HO695.out BK704.out (by decide)) (fun _ hk => hk.2) (.int .i64 t697)) (fun _ hk => hk.2) (.int .i64 t698)) (fun _ hk => hk.2) (.int .u32 t699)) (fun _ hk => hk.2) (.slice Ao22 t700.length co22)) (fun _ h_ => h_.1))) hb); have n1_ := Aside0.mk (Kd.R_below (by (with_reducible repeat (first | apply Kd.R_alloc | apply Kd.R_drewN | apply Kd.R_drew)); exact (Kd.R_mono (Kd.R_far (p := ⟨gb704, 3, none⟩) (Kd.R_far (p := ⟨gb704, 2, none⟩) (Kd.R_far (p := ⟨gb704, 1, none⟩) (Kd.R_far (p := ⟨gb704, 0, none⟩) (Kd.R_types HO702.out BK704.out (by decide)) (fun _ hk => hk.2) (.int .i64 t697)) (fun _ hk => hk.2) (.int .i64 t698)) (fun _ hk => hk.2) (.int .u32 t699)) (fun _ hk => hk.2) (.slice Ao22 t700.length co22)) (fun _ h_ => h_.1))) hb); have n2_ := Aside0.mk (blk_below (g := gb691) (o := .cells #[.int .i64 a0_0, .int .i64 a0_1, .int .u32 a0_2, .slice A0_3 l0_3.length c0_3] 66 (0, 0)) (by (with_reducible repeat (first | refine blk_drewN ?_ _ | refine blk_drew ?_ | refine blk_alloc ?_ _)); refine blk_far ?_ NB691_704.out _; (with_reducible repeat (first | refine blk_drewN ?_ _ | refine blk_drew ?_ | refine blk_alloc ?_ _)); refine blk_far ?_ NB691_704.out _; (with_reducible repeat (first | refine blk_drewN ?_ _ | refine blk_drew ?_ | refine blk_alloc ?_ _)); refine blk_far ?_ NB691_704.out _; (with_reducible repeat (first | refine blk_drewN ?_ _ | refine blk_drew ?_ | refine blk_alloc ?_ _)); refine blk_far ?_ NB691_704.out _; (with_reducible repeat (first | refine blk_drewN ?_ _ | refine blk_drew ?_ | refine blk_alloc ?_ _)); exact BK691.out) hb); have n3_ := Aside0.mk (blk_below (g := gb704) (o := .cells #[.int .i64 t697, .int .i64 t698, .int .u32 t699, .slice Ao22 t700.length co22] 66 (0, 0)) (by (with_reducible repeat (first | refine blk_drewN ?_ _ | refine blk_drew ?_ | refine blk_alloc ?_ _)); refine blk_put (cs := #[.int .i64 t697, .int .i64 t698, .int .u32 t699, .slice none 0 0]) ?_ 3 _ rfl; (with_reducible repeat (first | refine blk_drewN ?_ _ | refine blk_drew ?_ | refine blk_alloc ?_ _)); refine blk_put (cs := #[.int .i64 t697, .int .i64 t698, .int .u32 0, .slice none 0 0]) ?_ 2 _ rfl; (with_reducible repeat (first | refine blk_drewN ?_ _ | refine blk_drew ?_ | refine blk_alloc ?_ _)); refine blk_put (cs := #[.int .i64 t697, .int .i64 0, .int .u32 0, .slice none 0 0]) ?_ 1 _ rfl; (with_reducible repeat (first | refine blk_drewN ?_ _ | refine blk_drew ?_ | refine blk_alloc ?_ _)); refine blk_put (cs := #[.int .i64 0, .int .i64 0, .int .u32 0, .slice none 0 0]) ?_ 0 _ rfl; (with_reducible repeat (first | refine blk_drewN ?_ _ | refine blk_drew ?_ | refine blk_alloc ?_ _)); exact BK704.out) hb); have n4_ := Aside0.mk (below_step (by repeat (first | (with_reducible first | exact HB.out | apply below_alloc | apply pw_below_drewN | apply below_drew1 | refine below_set ?_ GE691.out | refine below_set ?_ GE704.out) | exact HB.out)) hb); clear HO695; clear HO702; clear BK691; clear BK704; clear HB; have HO695 := n0_; have HO702 := n1_; have BK691 := n2_; have BK704 := n3_; have HB := n4_; clear n0_ n1_ n2_ n3_ n4_; (try clear hb); (try clear hb2); (try clear hk); (try clear hi)))
            go_meet
            case rel => exact ⟨_, (!t705), (by first | rfl | (simp; done) | (simp [*]; done)), H', ⟨by first | omega | exact Nat.le_refl _⟩, ⟨by (with_reducible repeat (first | apply Kd.R_alloc | apply Kd.R_drewN | apply Kd.R_drew)); exact Kd.R_mono HO695.out (fun _ hk => hk.2)⟩, ⟨by (with_reducible repeat (first | apply Kd.R_alloc | apply Kd.R_drewN | apply Kd.R_drew)); exact Kd.R_mono HO702.out (fun _ hk => hk.2)⟩, ⟨by (with_reducible repeat (first | refine blk_drewN ?_ _ | refine blk_drew ?_ | refine blk_alloc ?_ _)); exact BK691.out⟩, ⟨by (with_reducible repeat (first | refine blk_drewN ?_ _ | refine blk_drew ?_ | refine blk_alloc ?_ _)); exact BK704.out⟩, ⟨by repeat (first | (with_reducible first | exact HB.out | apply below_alloc | apply pw_below_drewN | apply below_drew1 | refine below_set ?_ GE691.out | refine below_set ?_ GE704.out) | exact HB.out)⟩⟩
          · rw [if_neg c23] at H
            have c23b0 : (t703 == 0) = false := beq_eq_false_iff_ne.mpr c23
            have c23b1 : (t703 != 0) = true := bne_iff_ne.mpr c23
            (first | rw [c23b0] | (simp only [i64_w, i32_w]; rw [c23b0]) | skip)
            have H' := Aside0.mk H
            clear H
            go_wp2
            go_meet
            case rel => exact ⟨_, (true), (by first | rfl | (simp; done) | (simp [*]; done)), H', ⟨by first | omega | exact Nat.le_refl _⟩, ⟨by (with_reducible repeat (first | apply Kd.R_alloc | apply Kd.R_drewN | apply Kd.R_drew)); exact Kd.R_mono (Kd.R_far (p := ⟨gb704, 3, none⟩) (Kd.R_far (p := ⟨gb704, 2, none⟩) (Kd.R_far (p := ⟨gb704, 1, none⟩) (Kd.R_far (p := ⟨gb704, 0, none⟩) (Kd.R_types HO695.out BK704.out (by decide)) (fun _ hk => hk.2) (.int .i64 t697)) (fun _ hk => hk.2) (.int .i64 t698)) (fun _ hk => hk.2) (.int .u32 t699)) (fun _ hk => hk.2) (.slice Ao22 t700.length co22)) (fun _ hk => hk.1.2)⟩, ⟨by (with_reducible repeat (first | apply Kd.R_alloc | apply Kd.R_drewN | apply Kd.R_drew)); exact Kd.R_mono (Kd.R_far (p := ⟨gb704, 3, none⟩) (Kd.R_far (p := ⟨gb704, 2, none⟩) (Kd.R_far (p := ⟨gb704, 1, none⟩) (Kd.R_far (p := ⟨gb704, 0, none⟩) (Kd.R_types HO702.out BK704.out (by decide)) (fun _ hk => hk.2) (.int .i64 t697)) (fun _ hk => hk.2) (.int .i64 t698)) (fun _ hk => hk.2) (.int .u32 t699)) (fun _ hk => hk.2) (.slice Ao22 t700.length co22)) (fun _ hk => hk.1.2)⟩, ⟨by (with_reducible repeat (first | refine blk_drewN ?_ _ | refine blk_drew ?_ | refine blk_alloc ?_ _)); refine blk_far ?_ NB691_704.out _; (with_reducible repeat (first | refine blk_drewN ?_ _ | refine blk_drew ?_ | refine blk_alloc ?_ _)); refine blk_far ?_ NB691_704.out _; (with_reducible repeat (first | refine blk_drewN ?_ _ | refine blk_drew ?_ | refine blk_alloc ?_ _)); refine blk_far ?_ NB691_704.out _; (with_reducible repeat (first | refine blk_drewN ?_ _ | refine blk_drew ?_ | refine blk_alloc ?_ _)); refine blk_far ?_ NB691_704.out _; (with_reducible repeat (first | refine blk_drewN ?_ _ | refine blk_drew ?_ | refine blk_alloc ?_ _)); exact BK691.out⟩, ⟨by (with_reducible repeat (first | refine blk_drewN ?_ _ | refine blk_drew ?_ | refine blk_alloc ?_ _)); refine blk_put (cs := #[.int .i64 t697, .int .i64 t698, .int .u32 t699, .slice none 0 0]) ?_ 3 _ rfl; (with_reducible repeat (first | refine blk_drewN ?_ _ | refine blk_drew ?_ | refine blk_alloc ?_ _)); refine blk_put (cs := #[.int .i64 t697, .int .i64 t698, .int .u32 0, .slice none 0 0]) ?_ 2 _ rfl; (with_reducible repeat (first | refine blk_drewN ?_ _ | refine blk_drew ?_ | refine blk_alloc ?_ _)); refine blk_put (cs := #[.int .i64 t697, .int .i64 0, .int .u32 0, .slice none 0 0]) ?_ 1 _ rfl; (with_reducible repeat (first | refine blk_drewN ?_ _ | refine blk_drew ?_ | refine blk_alloc ?_ _)); refine blk_put (cs := #[.int .i64 0, .int .i64 0, .int .u32 0, .slice none 0 0]) ?_ 0 _ rfl; (with_reducible repeat (first | refine blk_drewN ?_ _ | refine blk_drew ?_ | refine blk_alloc ?_ _)); exact BK704.out⟩, ⟨by repeat (first | (with_reducible first | exact HB.out | apply below_alloc | apply pw_below_drewN | apply below_drew1 | refine below_set ?_ GE691.out | refine below_set ?_ GE704.out) | exact HB.out)⟩⟩
        case rest =>
          clear HC12
          try clear c1
          try clear c2
          try clear p2
          try clear c4
          try clear c5
          try clear c5b0
          try clear c5b1
          try clear c10
          try clear c10b0
          try clear c10b1
          try clear c20
          try clear c21
          try clear c23
          try clear c23b0
          try clear c23b1
          try clear c25
          try clear hcz15_0
          try clear hcz15_1
          try clear hcz15_2
          try clear hcz15_3
          try clear hcz21_0
          try clear hcz21_1
          try clear hcz21_2
          try clear hcz21_3
          try clear hcz26_0
          try clear hcz26_1
          try clear hcz26_2
          try clear hcz26_3
          try clear hcz27_0
          try clear hcz27_1
          try clear hcz27_2
          try clear hcz27_3
          try clear hcz8_0
          try clear hcz8_1
          try clear hcz8_2
          try clear hcz8_3
          try clear hfz15_0
          try clear hfz15_1
          try clear hfz15_2
          try clear hfz15_3
          try clear hfz21_0
          try clear hfz21_1
          try clear hfz21_2
          try clear hfz21_3
          try clear hfz26_0
          try clear hfz26_1
          try clear hfz26_2
          try clear hfz26_3
          try clear hfz27_0
          try clear hfz27_1
          try clear hfz27_2
          try clear hfz27_3
          try clear hfz8_0
          try clear hfz8_1
          try clear hfz8_2
          try clear hfz8_3
          obtain ⟨kq, x36_11, rfl, HA, HJ11, HO_5, HO_705003, BK691, BK704, HB⟩ := hcut
          cases kq with
          | zero => exact absurd HA.out (by simp [bailiwicklaw5_IcmpBack.j0])
          | succ kj11 =>
            have H := HA.out
            clear HA
            simp only [bailiwicklaw5_IcmpBack.j0] at H
            by_cases c29 : x36_11 = true
            · subst c29
              have H1 : (some false) = some r := by rw [if_pos rfl] at H; exact H
              clear H
              have H := H1
              clear H1
              obtain rfl := Option.some.inj H
              go_wp2
              go_ret
              exact ⟨by first | rfl | (simp [errW_none, errW_some] <;> rfl) | (simp [*, errW_none, errW_some] <;> rfl), by repeat (first | (with_reducible first | exact HB.out | apply below_alloc | apply pw_below_drewN | apply below_drew1 | refine below_set ?_ GE691.out | refine below_set ?_ GE704.out) | exact HB.out)⟩
            · replace c29 := Bool.eq_false_iff.mpr c29
              subst c29
              have H1 : (if a1 < 0 then (some true) else (if (wrap64 (Int.tdiv a1 8)) ≥ (t693.length : Int) then (some true) else (if 0 ≤ (wrap64 (Int.tdiv a1 8)) then (if (wrap64 (Int.tdiv a1 8)) < (t693.length : Int) then (if 0 ≤ (IntKind.u64.wrap (Int.tmod a1 8)) then ((icmp_Parse.f (t693.set ((wrap64 (Int.tdiv a1 8)) : Int).toNat (Go.bits .xor .u8 (rd t693 (wrap64 (Int.tdiv a1 8))) (shl .u8 1 (IntKind.u64.wrap (Int.tmod a1 8)))))).bind fun bt708 => (some (bt708.2.2.2.2 == 5))) else (none)) else (none)) else (none)))) = some r := by rw [if_neg (show ¬ (false = true) by decide)] at H; exact H
              clear H
              have H := H1
              clear H1
              by_cases c30 : a1 < 0
              · rw [if_pos c30] at H
                have c30b0 : decide (a1 < 0) = true := decide_eq_true c30
                clear c30
                obtain rfl := Option.some.inj H
                go_wp2
                go_ret
                exact ⟨by first | rfl | (simp [errW_none, errW_some] <;> rfl) | (simp [*, errW_none, errW_some] <;> rfl), by repeat (first | (with_reducible first | exact HB.out | apply below_alloc | apply pw_below_drewN | apply below_drew1 | refine below_set ?_ GE691.out | refine below_set ?_ GE704.out) | exact HB.out)⟩
              · rw [if_neg c30] at H
                have c30b0 : decide (a1 < 0) = false := decide_eq_false c30
                clear c30
                by_cases c31 : (wrap64 (Int.tdiv a1 8)) ≥ (t693.length : Int)
                · rw [if_pos c31] at H
                  have c31b0 : decide ((t693.length : Int) ≤ (wrap64 (Int.tdiv a1 8))) = true := decide_eq_true c31
                  clear c31
                  obtain rfl := Option.some.inj H
                  go_wp2
                  go_ret
                  exact ⟨by first | rfl | (simp [errW_none, errW_some] <;> rfl) | (simp [*, errW_none, errW_some] <;> rfl), by repeat (first | (with_reducible first | exact HB.out | apply below_alloc | apply pw_below_drewN | apply below_drew1 | refine below_set ?_ GE691.out | refine below_set ?_ GE704.out) | exact HB.out)⟩
                · rw [if_neg c31] at H
                  have c31b0 : decide ((t693.length : Int) ≤ (wrap64 (Int.tdiv a1 8))) = false := decide_eq_false c31
                  clear c31
                  obtain ⟨ji32, hji32⟩ : ∃ j_ : Int, (wrap64 (Int.tdiv a1 8)) = j_ := ⟨_, rfl⟩
                  replace H : (if 0 ≤ (ji32) then (if (ji32) < (t693.length : Int) then (if 0 ≤ (IntKind.u64.wrap (Int.tmod a1 8)) then ((icmp_Parse.f (t693.set ((ji32) : Int).toNat (Go.bits .xor .u8 (rd t693 (ji32)) (shl .u8 1 (IntKind.u64.wrap (Int.tmod a1 8)))))).bind fun bt708 => (some (bt708.2.2.2.2 == 5))) else (none)) else (none)) else (none)) = some r := by first | (rw [hji32] at H; exact H) | (simp only [hji32] at H ⊢; exact H)
                  (try rw [hji32] at c31b0)
                  have hji32w : (IntKind.i64.wrap (Int.tdiv a1 8)) = ji32 := (i64_w _).trans hji32
                  by_cases c33 : 0 ≤ (ji32)
                  · rw [if_pos c33] at H
                    have c33b0 : decide (0 ≤ (ji32)) = true := decide_eq_true c33
                    clear c33
                    by_cases c34 : (ji32) < (t693.length : Int)
                    · rw [if_pos c34] at H
                      have c34b0 : decide ((ji32) < (t693.length : Int)) = true := decide_eq_true c34
                      clear c34
                      obtain ⟨ji35, hji35⟩ : ∃ j_ : Int, (IntKind.u64.wrap (Int.tmod a1 8)) = j_ := ⟨_, rfl⟩
                      replace H : (if 0 ≤ (ji35) then ((icmp_Parse.f (t693.set ((ji32) : Int).toNat (Go.bits .xor .u8 (rd t693 (ji32)) (shl .u8 1 (ji35))))).bind fun bt708 => (some (bt708.2.2.2.2 == 5))) else (none)) = some r := by first | (rw [hji35] at H; exact H) | (simp only [hji35] at H ⊢; exact H)
                      by_cases c36 : 0 ≤ (ji35)
                      · rw [if_pos c36] at H
                        have c36b0 := eq_true c36
                        have c36b1 : decide (0 ≤ (ji35)) = true := decide_eq_true c36
                        clear c36
                        obtain ⟨ji37, hji37⟩ : ∃ j_ : Int, (shl .u8 1 (ji35)) = j_ := ⟨_, rfl⟩
                        replace H : ((icmp_Parse.f (t693.set ((ji32) : Int).toNat (Go.bits .xor .u8 (rd t693 (ji32)) (ji37)))).bind fun bt708 => (some (bt708.2.2.2.2 == 5))) = some r := by first | (rw [hji37] at H; exact H) | (simp only [hji37] at H ⊢; exact H)
                        have hji37_ : (IntKind.u8.wrap (1 * 2 ^ min (ji35).toNat 8)) = ji37 := hji37
                        have hji37z : (ji35) ≤ 8 → (IntKind.u8.wrap (1 * 2 ^ (ji35).toNat)) = ji37 := shl_small hji37
                        have hji37u : (IntKind.u8.wrap (2 ^ min (ji35).toNat 8)) = ji37 := by have h_ := hji37_; rw [Int.one_mul] at h_; exact h_
                        have hji37v : (ji35) ≤ 8 → (IntKind.u8.wrap (2 ^ (ji35).toNat)) = ji37 := fun hle_ => by have h_ := hji37z hle_; rw [Int.one_mul] at h_; exact h_
                        obtain ⟨y707, hy707⟩ : ∃ y_ : List Int, y_ = (t693.set ((ji32) : Int).toNat (Go.bits .xor .u8 (rd t693 (ji32)) (ji37))) := ⟨_, rfl⟩
                        replace H : ((icmp_Parse.f y707).bind fun bt708 => (some (bt708.2.2.2.2 == 5))) = some r := by first | (rw [hy707]; with_reducible exact H) | (have H2_ := (Option.bind_some _ _).symm.trans H; rw [hy707]; with_reducible exact H2_) | (have H2_ := (Option.bind_some _ _).symm.trans H; with_reducible exact H2_) | with_reducible exact H | (rw [hy707]; exact H) | exact H
                        have Ny707 := Aside0.mk hy707
                        clear hy707
                        replace H := Option.bind_eq_some_iff.mp H
                        obtain ⟨⟨t708, t709, t710, t711, t714⟩, A390, H⟩ := H
                        replace H : (some (t714 == 5)) = some r := H
                        have A39 := Aside0.mk A390
                        clear A390
                        obtain rfl := Option.some.inj H
                        have p706 : 0 ≤ ((ji32) : Int) := of_decide_eq_true (by first | (with_reducible assumption) | assumption)
                        have q706 : (ji32) < (t693.length : Int) := of_decide_eq_true (by first | (with_reducible assumption) | assumption)
                        obtain ⟨ad706, e706, hx706_0⟩ := Kd.at_int (Kd.R_reads' HO_5.out).2.2 (ji32) p706 q706
                        cases e706
                        replace p706 := eq_true p706
                        replace q706 := eq_true q706
                        have p38 : 0 ≤ ((ji32) : Int) := of_decide_eq_true (by first | (with_reducible assumption) | assumption)
                        have q38 : ((ji32) : Int) < ((t693.length : Int) : Int) := of_decide_eq_true (by first | (with_reducible assumption) | assumption)
                        obtain ⟨go38, co38, eo38, gb38, gl38, cl38, HG38⟩ := Kd.R_form HO_5.out (by omega)
                        (first | cases eo38 | (injection eo38 with ea_ en_ ec_; (first | subst ea_ | (injection ea_ with ea_; subst ea_)); subst ec_; clear en_))
                        have GB38 := Aside0.mk gb38
                        have GG38 := Aside0.mk HG38
                        clear gb38 gl38 HG38
                        (first | simp only [add_plain] at hx706_0 | skip)
                        obtain ⟨hx38_0, hf38_0⟩ := Kd.R_celln 0 HO_5.out ((ji32) : Int) p38 q38
                        replace p38 := eq_true p38
                        replace q38 := eq_true q38
                        have HP40 := Kd.R_putg HO_5.out ((ji32) : Int) (Go.bits .xor .u8 (rd t693 (ji32)) (ji37))
                        go_wp2_with (first | ((with_reducible refine gate_store (t := 5) (p := 56) rfl ?_); refine store_event (t := 5) (p := 56) (v := ?vo_w41) (w1 := (wc.setCell ⟨go38, ((ji32) : Int).toNat, none⟩ (.int .u8 (Go.bits .xor .u8 (rd t693 (ji32)) (ji37))))) ?hg ?ho ?hn ?hr ?_; (case ho => rfl); (case hg => rfl); (case hn => rfl); (case hr => first | (go_simp; done) | (go_simp; rfl)); intro w41 hw; have hg : wc.grownBy w41 (some go38) := (by rw [hw]; exact HP40.2); have hp_ : Kd.R (Kd.int .u8) 5 w41 w.heap.size (fun k_ => some k_ ≠ (.slice Ao22 t700.length co22 : Value).ownBlock) (.slice (some ⟨go38, 0, none⟩) t693.length co17) y707 := (by rw [hw, Ny707.out]; exact HP40.1); clear HP40; have n0_ := Aside0.mk (hp_); have n1_ := Aside0.mk (Kd.R_after (v := (.slice (some ⟨go38, 0, none⟩) t693.length co17)) (v1 := (.slice (some ⟨go38, 0, none⟩) t693.length co17)) (ok := (fun _ => True)) (by (with_reducible repeat (first | apply Kd.R_alloc | apply Kd.R_drewN | apply Kd.R_drew)); exact Kd.R_mono HO_705003.out (fun _ hk => ⟨trivial, hk⟩)) hg (.inl rfl)); have n2_ := Aside0.mk (blk_grown (g := gb691) (o := .cells #[.int .i64 a0_0, .int .i64 a0_1, .int .u32 a0_2, .slice A0_3 l0_3.length c0_3] 66 (0, 0)) (by (with_reducible repeat (first | refine blk_drewN ?_ _ | refine blk_drew ?_ | refine blk_alloc ?_ _)); exact BK691.out) hg (Kd.R_ne HO_5.out BK691.out (by decide))); have n3_ := Aside0.mk (blk_grown (g := gb704) (o := .cells #[.int .i64 t697, .int .i64 t698, .int .u32 t699, .slice Ao22 t700.length co22] 66 (0, 0)) (by (with_reducible repeat (first | refine blk_drewN ?_ _ | refine blk_drew ?_ | refine blk_alloc ?_ _)); exact BK704.out) hg (Kd.R_ne HO_5.out BK704.out (by decide))); have n4_ := Aside0.mk ((by rw [hw]; exact below_set (HB.out) GB38.out : Below w.heap.size w w41)); clear HO_5; clear HO_705003; clear BK691; clear BK704; clear HB; have HO_5 := n0_; have HO_705003 := n1_; have BK691 := n2_; have BK704 := n3_; have HB := n4_; clear n0_ n1_ n2_ n3_ n4_; clear hg hw hp_) | ((with_reducible refine gate_callee (f := 52) rfl ?_); refine goesL_ (some 59) rfl rfl Try.func52 (by kernel_rfl) rfl #[.slice (some ⟨go38, 0, none⟩) y707.length co17] rfl (by (try simp only [List.map_toArray, List.map_cons, List.map_nil]); first | done | (rw [show y707.length = t693.length from (Kd.R_reads' HO_5.out).1.symm] <;> rfl) | rfl | (simp only [List.length_drop, List.length_take]; rfl)) ?_; (with_reducible refine (icmp_Parse.calls _ _ y707 t708 t709 t710 t711 t714 _ ?side1 ?side2 A39.out).mono ?_); (case side1 => repeat (first | exact (Kd.R_reads' HO_5.out).2.2 | (with_reducible refine Kd.C_alloc ?_ _) | (with_reducible refine Kd.C_drewN ?_ _) | (with_reducible refine Kd.C_drew ?_))); (case side2 => rw [show y707.length = t693.length from (Kd.R_reads' HO_5.out).1.symm]; exact (Kd.R_reads' HO_5.out).2.1); rintro e w42 ⟨v712, rfl, ho0, hb⟩; refine ⟨_, rfl, ?_⟩; have n0_ := Aside0.mk (Kd.R_elder' (by (with_reducible repeat (first | apply Kd.R_alloc | apply Kd.R_drewN | apply Kd.R_drew)); exact HO_5.out) (Kd.R_base ho0) hb); have n1_ := Aside0.mk (Kd.R_elder' (by (with_reducible repeat (first | apply Kd.R_alloc | apply Kd.R_drewN | apply Kd.R_drew)); exact HO_705003.out) (Kd.R_base ho0) hb); have n2_ := Aside0.mk (Kd.R_lower (Kd.R_new' (Kd.R_new' ho0 (Kd.R_lt (by (with_reducible repeat (first | apply Kd.R_alloc | apply Kd.R_drewN | apply Kd.R_drew)); exact HO_5.out))) (Kd.R_lt (by (with_reducible repeat (first | apply Kd.R_alloc | apply Kd.R_drewN | apply Kd.R_drew)); exact HO_705003.out))) (below_size (by repeat (first | (with_reducible first | exact HB.out | apply below_alloc | apply pw_below_drewN | apply below_drew1 | refine below_set ?_ GE691.out | refine below_set ?_ GE704.out) | exact HB.out)))); have n3_ := Aside0.mk (blk_below (g := gb691) (o := .cells #[.int .i64 a0_0, .int .i64 a0_1, .int .u32 a0_2, .slice A0_3 l0_3.length c0_3] 66 (0, 0)) (by (with_reducible repeat (first | refine blk_drewN ?_ _ | refine blk_drew ?_ | refine blk_alloc ?_ _)); exact BK691.out) hb); have n4_ := Aside0.mk (blk_below (g := gb704) (o := .cells #[.int .i64 t697, .int .i64 t698, .int .u32 t699, .slice Ao22 t700.length co22] 66 (0, 0)) (by (with_reducible repeat (first | refine blk_drewN ?_ _ | refine blk_drew ?_ | refine blk_alloc ?_ _)); exact BK704.out) hb); have n5_ := Aside0.mk (below_step (by repeat (first | (with_reducible first | exact HB.out | apply below_alloc | apply pw_below_drewN | apply below_drew1 | refine below_set ?_ GE691.out | refine below_set ?_ GE704.out) | exact HB.out)) hb); clear HO_5; clear HO_705003; clear BK691; clear BK704; clear HB; have HO_5 := n0_; have HO_705003 := n1_; have HO713 := n2_; have BK691 := n3_; have BK704 := n4_; have HB := n5_; clear n0_ n1_ n2_ n3_ n4_ n5_; (try clear hb); (try clear hb2); (try clear hk); (try clear hi); (try clear ho0)) | ((with_reducible refine gate_dst (N := 9) rfl ?_); (try (refine gate_guard (by rfl) ?_; dsimp only)); refine box_event ?hg (N := 9) ?hd (cs := #[.int .i64 0, .int .i64 0, .int .u32 0, .slice none 0 0]) (t := 66) ?hr ?_; (case hd => rfl); (case hg => rfl); (case hr => first | (go_simp; done) | (go_simp; rfl)); intro gb715 hg w43 hbox hb; have n0_ := Aside0.mk (Kd.R_below (by (with_reducible repeat (first | apply Kd.R_alloc | apply Kd.R_drewN | apply Kd.R_drew)); exact HO_5.out) hb); have n1_ := Aside0.mk (Kd.R_below (by (with_reducible repeat (first | apply Kd.R_alloc | apply Kd.R_drewN | apply Kd.R_drew)); exact HO_705003.out) hb); have n2_ := Aside0.mk (Kd.R_below (by (with_reducible repeat (first | apply Kd.R_alloc | apply Kd.R_drewN | apply Kd.R_drew)); exact HO713.out) hb); have n3_ := Aside0.mk (blk_below (g := gb691) (o := .cells #[.int .i64 a0_0, .int .i64 a0_1, .int .u32 a0_2, .slice A0_3 l0_3.length c0_3] 66 (0, 0)) (by (with_reducible repeat (first | refine blk_drewN ?_ _ | refine blk_drew ?_ | refine blk_alloc ?_ _)); exact BK691.out) hb); have n4_ := Aside0.mk (blk_below (g := gb704) (o := .cells #[.int .i64 t697, .int .i64 t698, .int .u32 t699, .slice Ao22 t700.length co22] 66 (0, 0)) (by (with_reducible repeat (first | refine blk_drewN ?_ _ | refine blk_drew ?_ | refine blk_alloc ?_ _)); exact BK704.out) hb); have n5_ := Aside0.mk (below_step (by repeat (first | (with_reducible first | exact HB.out | apply below_alloc | apply pw_below_drewN | apply below_drew1 | refine below_set ?_ GE691.out | refine below_set ?_ GE704.out) | exact HB.out)) hb); have n6_ := Aside0.mk (hbox); have n7_ := Aside0.mk ((by rw [hg]; exact (below_size (by repeat (first | (with_reducible first | exact HB.out | apply below_alloc | apply pw_below_drewN | apply below_drew1 | refine below_set ?_ GE691.out | refine below_set ?_ GE704.out) | exact HB.out))) : w.heap.size ≤ gb715)); have n8_ := Aside0.mk ((by rw [hg]; exact (below_size (by repeat (first | (with_reducible first | exact HB.out | apply below_alloc | apply pw_below_drewN | apply below_drew1 | refine below_set ?_ GE691.out | refine below_set ?_ GE704.out) | exact HB.out))) : w.heap.size ≤ gb715)); have n9_ := Aside0.mk ((by rw [hg]; exact Nat.ne_of_lt (blk_lt (g := gb691) (o := .cells #[.int .i64 a0_0, .int .i64 a0_1, .int .u32 a0_2, .slice A0_3 l0_3.length c0_3] 66 (0, 0)) (by (with_reducible repeat (first | refine blk_drewN ?_ _ | refine blk_drew ?_ | refine blk_alloc ?_ _)); exact BK691.out)) : gb691 ≠ gb715)); have n10_ := Aside0.mk ((by rw [hg]; exact Nat.ne_of_gt (blk_lt (g := gb691) (o := .cells #[.int .i64 a0_0, .int .i64 a0_1, .int .u32 a0_2, .slice A0_3 l0_3.length c0_3] 66 (0, 0)) (by (with_reducible repeat (first | refine blk_drewN ?_ _ | refine blk_drew ?_ | refine blk_alloc ?_ _)); exact BK691.out)) : gb715 ≠ gb691)); have n11_ := Aside0.mk ((by rw [hg]; exact Nat.ne_of_lt (blk_lt (g := gb704) (o := .cells #[.int .i64 t697, .int .i64 t698, .int .u32 t699, .slice Ao22 t700.length co22] 66 (0, 0)) (by (with_reducible repeat (first | refine blk_drewN ?_ _ | refine blk_drew ?_ | refine blk_alloc ?_ _)); exact BK704.out)) : gb704 ≠ gb715)); have n12_ := Aside0.mk ((by rw [hg]; exact Nat.ne_of_gt (blk_lt (g := gb704) (o := .cells #[.int .i64 t697, .int .i64 t698, .int .u32 t699, .slice Ao22 t700.length co22] 66 (0, 0)) (by (with_reducible repeat (first | refine blk_drewN ?_ _ | refine blk_drew ?_ | refine blk_alloc ?_ _)); exact BK704.out)) : gb715 ≠ gb704)); clear HO_5; clear HO_705003; clear HO713; clear BK691; clear BK704; clear HB; have HO_5 := n0_; have HO_705003 := n1_; have HO713 := n2_; have BK691 := n3_; have BK704 := n4_; have HB := n5_; have BK715 := n6_; have GW715 := n7_; have GE715 := n8_; have NB691_715 := n9_; have NB715_691 := n10_; have NB704_715 := n11_; have NB715_704 := n12_; clear n0_ n1_ n2_ n3_ n4_ n5_ n6_ n7_ n8_ n9_ n10_ n11_ n12_; clear hb hbox hg; have hnb44 := NB715_691.out; have hnc44 := NB691_715.out; have hnb45 := NB715_704.out; have hnc45 := NB704_715.out; have hcz46_0 : w43.cell? ⟨gb715, 0, none⟩ = some (.int .i64 0) := (blk_cell BK715.out 0).trans rfl; have hcz46_1 : w43.cell? ⟨gb715, 1, none⟩ = some (.int .i64 0) := (blk_cell BK715.out 1).trans rfl; have hcz46_2 : w43.cell? ⟨gb715, 2, none⟩ = some (.int .u32 0) := (blk_cell BK715.out 2).trans rfl; have hcz46_3 : w43.cell? ⟨gb715, 3, none⟩ = some (.slice none 0 0) := (blk_cell BK715.out 3).trans rfl; have hfz46_0 := blk_frozen BK715.out 0; have hfz46_1 := blk_frozen BK715.out 1; have hfz46_2 := blk_frozen BK715.out 2; have hfz46_3 := blk_frozen BK715.out 3; obtain ⟨Ao47, co47, eo47⟩ := Kd.R_slice HO713.out; subst eo47))
                        go_ret
                        exact ⟨by first | rfl | (simp [errW_none, errW_some] <;> rfl) | (simp only [← hji32, ← hji35, ← hji37]; first | rfl | (simp [errW_none, errW_some] <;> rfl)) | (simp [*, errW_none, errW_some] <;> rfl), by repeat (first | (with_reducible first | exact HB.out | apply below_alloc | apply pw_below_drewN | apply below_drew1 | refine below_set ?_ GE691.out | refine below_set ?_ GE704.out | refine below_set ?_ GE715.out) | exact HB.out)⟩
                      · rw [if_neg c36] at H
                        exact absurd H (by simp)
                    · rw [if_neg c34] at H
                      exact absurd H (by simp)
                  · rw [if_neg c33] at H
                    exact absurd H (by simp)
      · rw [if_neg c10] at H
        have c10b0 : (t696 == 0) = false := beq_eq_false_iff_ne.mpr c10
        have c10b1 : (t696 != 0) = true := bne_iff_ne.mpr c10
        obtain rfl := Option.some.inj H
        go_enter Try.func21, Try.ntmps21
        go_wp2_with (first | ((with_reducible refine gate_dst (N := 2) rfl ?_); (try (refine gate_guard (by rfl) ?_; dsimp only)); refine box_event ?hg (N := 2) ?hd (cs := #[.int .i64 a0_0, .int .i64 a0_1, .int .u32 a0_2, .slice A0_3 l0_3.length c0_3]) (t := 66) ?hr ?_; (case hd => rfl); (case hg => rfl); (case hr => first | (go_simp; done) | (go_simp; rfl)); intro gb691 hg w48 hbox hb; have n0_ := Aside0.mk (below_step (by repeat (first | (with_reducible first | exact HB.out | apply below_alloc | apply pw_below_drewN | apply below_drew1) | exact HB.out)) hb); have n1_ := Aside0.mk (hbox); have n2_ := Aside0.mk ((by rw [hg]; exact (below_size (by repeat (first | (with_reducible first | exact HB.out | apply below_alloc | apply pw_below_drewN | apply below_drew1) | exact HB.out))) : w.heap.size ≤ gb691)); have n3_ := Aside0.mk ((by rw [hg]; exact (below_size (by repeat (first | (with_reducible first | exact HB.out | apply below_alloc | apply pw_below_drewN | apply below_drew1) | exact HB.out))) : w.heap.size ≤ gb691)); clear HB; have HB := n0_; have BK691 := n1_; have GW691 := n2_; have GE691 := n3_; clear n0_ n1_ n2_ n3_; clear hb hbox hg) | ((with_reducible refine gate_callee (f := 46) rfl ?_); refine goesL_ (some 11) rfl rfl Try.func46 (by kernel_rfl) rfl #[] rfl (by (try simp only [List.map_toArray, List.map_cons, List.map_nil]); first | done | rfl | (simp only [List.length_drop, List.length_take]; rfl)) ?_; (with_reducible refine (bailiwicklaw5_awake.calls k  true _ A3.out).mono ?_); rintro e w49 ⟨rfl, hb⟩; refine ⟨_, rfl, ?_⟩; have n0_ := Aside0.mk (blk_below (g := gb691) (o := .cells #[.int .i64 a0_0, .int .i64 a0_1, .int .u32 a0_2, .slice A0_3 l0_3.length c0_3] 66 (0, 0)) (by (with_reducible repeat (first | refine blk_drewN ?_ _ | refine blk_drew ?_ | refine blk_alloc ?_ _)); exact BK691.out) hb); have n1_ := Aside0.mk (below_step (by repeat (first | (with_reducible first | exact HB.out | apply below_alloc | apply pw_below_drewN | apply below_drew1 | refine below_set ?_ GE691.out) | exact HB.out)) hb); clear BK691; clear HB; have BK691 := n0_; have HB := n1_; clear n0_ n1_; (try clear hb); (try clear hb2); (try clear hk); (try clear hi); have hcz50_0 : w49.cell? ⟨gb691, 0, none⟩ = some (.int .i64 a0_0) := (blk_cell BK691.out 0).trans rfl; have hcz50_1 : w49.cell? ⟨gb691, 1, none⟩ = some (.int .i64 a0_1) := (blk_cell BK691.out 1).trans rfl; have hcz50_2 : w49.cell? ⟨gb691, 2, none⟩ = some (.int .u32 a0_2) := (blk_cell BK691.out 2).trans rfl; have hcz50_3 : w49.cell? ⟨gb691, 3, none⟩ = some (.slice A0_3 l0_3.length c0_3) := (blk_cell BK691.out 3).trans rfl; have hfz50_0 := blk_frozen BK691.out 0; have hfz50_1 := blk_frozen BK691.out 1; have hfz50_2 := blk_frozen BK691.out 2; have hfz50_3 := blk_frozen BK691.out 3) | ((with_reducible refine gate_callee (f := 47) rfl ?_); refine goesL_ (some 19) rfl rfl Try.func47 (by kernel_rfl) rfl #[.agg #[.int .i64 a0_0, .int .i64 a0_1, .int .u32 a0_2, .slice A0_3 l0_3.length c0_3]] rfl (by (try simp only [List.map_toArray, List.map_cons, List.map_nil]); first | done | rfl | (simp only [List.length_drop, List.length_take]; rfl)) ?_; (with_reducible refine (icmp_Build.calls k a0_0 a0_1 a0_2 _ _ l0_3 t693 t696 _ ?side1 ?side2 A9.out).mono ?_); (case side1 => repeat (first | exact (Kd.C_below HR0_3.out HB.out) | (with_reducible refine Kd.C_alloc ?_ _) | (with_reducible refine Kd.C_drewN ?_ _) | (with_reducible refine Kd.C_drew ?_))); (case side2 => exact HC0_3.out); rintro e w51 ⟨v694, rfl, ho0, hb⟩; refine ⟨_, rfl, ?_⟩; have n0_ := Aside0.mk (Kd.R_lower ho0 (below_size (by repeat (first | (with_reducible first | exact HB.out | apply below_alloc | apply pw_below_drewN | apply below_drew1 | refine below_set ?_ GE691.out) | exact HB.out)))); have n1_ := Aside0.mk (blk_below (g := gb691) (o := .cells #[.int .i64 a0_0, .int .i64 a0_1, .int .u32 a0_2, .slice A0_3 l0_3.length c0_3] 66 (0, 0)) (by (with_reducible repeat (first | refine blk_drewN ?_ _ | refine blk_drew ?_ | refine blk_alloc ?_ _)); exact BK691.out) hb); have n2_ := Aside0.mk (below_step (by repeat (first | (with_reducible first | exact HB.out | apply below_alloc | apply pw_below_drewN | apply below_drew1 | refine below_set ?_ GE691.out) | exact HB.out)) hb); clear BK691; clear HB; have HO695 := n0_; have BK691 := n1_; have HB := n2_; clear n0_ n1_ n2_; (try clear hb); (try clear hb2); (try clear hk); (try clear hi); (try clear ho0)))
        go_ret
        exact ⟨by first | rfl | (simp [errW_none, errW_some] <;> rfl) | (simp [*, errW_none, errW_some] <;> rfl), by repeat (first | (with_reducible first | exact HB.out | apply below_alloc | apply pw_below_drewN | apply below_drew1 | refine below_set ?_ GE691.out) | exact HB.out)⟩
  · replace c4 := Bool.eq_false_iff.mpr c4
    subst c4
    have H1 : (some false) = some r := by rw [if_neg (show ¬ (false = true) by decide)] at H; exact H
    clear H
    have H := H1
    clear H1
    obtain rfl := Option.some.inj H
    go_enter Try.func21, Try.ntmps21
    go_wp2_with (first | ((with_reducible refine gate_dst (N := 2) rfl ?_); (try (refine gate_guard (by rfl) ?_; dsimp only)); refine box_event ?hg (N := 2) ?hd (cs := #[.int .i64 a0_0, .int .i64 a0_1, .int .u32 a0_2, .slice A0_3 l0_3.length c0_3]) (t := 66) ?hr ?_; (case hd => rfl); (case hg => rfl); (case hr => first | (go_simp; done) | (go_simp; rfl)); intro gb691 hg w52 hbox hb; have n0_ := Aside0.mk (below_step (by repeat (first | (with_reducible first | exact HB.out | apply below_alloc | apply pw_below_drewN | apply below_drew1) | exact HB.out)) hb); have n1_ := Aside0.mk (hbox); have n2_ := Aside0.mk ((by rw [hg]; exact (below_size (by repeat (first | (with_reducible first | exact HB.out | apply below_alloc | apply pw_below_drewN | apply below_drew1) | exact HB.out))) : w.heap.size ≤ gb691)); have n3_ := Aside0.mk ((by rw [hg]; exact (below_size (by repeat (first | (with_reducible first | exact HB.out | apply below_alloc | apply pw_below_drewN | apply below_drew1) | exact HB.out))) : w.heap.size ≤ gb691)); clear HB; have HB := n0_; have BK691 := n1_; have GW691 := n2_; have GE691 := n3_; clear n0_ n1_ n2_ n3_; clear hb hbox hg) | ((with_reducible refine gate_callee (f := 46) rfl ?_); refine goesL_ (some 11) rfl rfl Try.func46 (by kernel_rfl) rfl #[] rfl (by (try simp only [List.map_toArray, List.map_cons, List.map_nil]); first | done | rfl | (simp only [List.length_drop, List.length_take]; rfl)) ?_; (with_reducible refine (bailiwicklaw5_awake.calls k  false _ A3.out).mono ?_); rintro e w53 ⟨rfl, hb⟩; refine ⟨_, rfl, ?_⟩; have n0_ := Aside0.mk (blk_below (g := gb691) (o := .cells #[.int .i64 a0_0, .int .i64 a0_1, .int .u32 a0_2, .slice A0_3 l0_3.length c0_3] 66 (0, 0)) (by (with_reducible repeat (first | refine blk_drewN ?_ _ | refine blk_drew ?_ | refine blk_alloc ?_ _)); exact BK691.out) hb); have n1_ := Aside0.mk (below_step (by repeat (first | (with_reducible first | exact HB.out | apply below_alloc | apply pw_below_drewN | apply below_drew1 | refine below_set ?_ GE691.out) | exact HB.out)) hb); clear BK691; clear HB; have BK691 := n0_; have HB := n1_; clear n0_ n1_; (try clear hb); (try clear hb2); (try clear hk); (try clear hi)))
    go_ret
    exact ⟨by first | rfl | (simp [errW_none, errW_some] <;> rfl) | (simp [*, errW_none, errW_some] <;> rfl), by repeat (first | (with_reducible first | exact HB.out | apply below_alloc | apply pw_below_drewN | apply below_drew1 | refine below_set ?_ GE691.out) | exact HB.out)⟩
def bailiwicklaw5_IcmpBack.Pure : Prop := ∀ (a0_0 : Int) (a0_1 : Int) (a0_2 : Int) (l0_3 : List Int) (a1 : Int), (Lit.int .i64 a0_0).wf = true → (Lit.int .i64 a0_1).wf = true → (Lit.int .u32 a0_2).wf = true → (l0_3.length ≤ maxLen ∧ l0_3.length * 1 ≤ 140737488351232 ∧ ∀ a__ ∈ l0_3, (Lit.int .u8 a__).wf = true) → (Lit.int .i64 a1).wf = true → ∃ k, bailiwicklaw5_IcmpBack.f k a0_0 a0_1 a0_2 l0_3 a1 = some true

end Go.Proofs.Ytdppnkgblklmmaa.P
