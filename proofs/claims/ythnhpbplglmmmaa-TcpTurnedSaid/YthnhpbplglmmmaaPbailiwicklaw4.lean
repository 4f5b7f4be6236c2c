-- Laid by a program (wip/tools/myprint.py) out of the translation. Not trusted: Lean checks it.
import Derived.Test.YthnhpbplglmmmaaP0
import Derived.Test.YthnhpbplglmmmaaPtcp
namespace Go.Proofs.Ythnhpbplglmmmaa.P
open Go.RowKit Go.Proofs.YthnhpbplglmmmaaW.PrintWords Go.Proofs.YthnhpbplglmmmaaW.PrintLast Go.Proofs.YthnhpbplglmmmaaW.PrintMore
attribute [local go_sem] max2_int min2_int max_two min_two max_three min_three max_four min_four   -- for this text's walks alone
set_option linter.unusedVariables false
set_option linter.unusedSimpArgs false

/-! ### bailiwicklaw4_awake: function 23 -/
def bailiwicklaw4_awake.f  : Option (Bool) := (tcp_Build.f 16843009 33686018 5 21 1 0 2 0 0 ([] : List Int) ([] : List Int)).bind fun bt235 => (if bt235.2 = 0 then (if (bt235.1.length : Int) = 20 then (if 12 < (bt235.1.length : Int) then (if (rd bt235.1 12) = 80 then (if 13 < (bt235.1.length : Int) then (some ((rd bt235.1 13) == 2)) else (none)) else (some false)) else (none)) else (some false)) else (some false))
set_option maxHeartbeats 8000000 in
set_option maxRecDepth 100000 in
theorem bailiwicklaw4_awake.calls  (r : Bool) (w : World) (h : bailiwicklaw4_awake.f  = some r) :
    Calls Try.prog 23 #[] w fun e w' => e = .returned (.bool r) ∧ Below w.heap.size w w' := by
  have hu46 := Try.underlying46
  have HB := Aside0.mk (Below.refl w.heap.size w)
  have H : ((tcp_Build.f 16843009 33686018 5 21 1 0 2 0 0 ([] : List Int) ([] : List Int)).bind fun bt235 => (if bt235.2 = 0 then (if (bt235.1.length : Int) = 20 then (if 12 < (bt235.1.length : Int) then (if (rd bt235.1 12) = 80 then (if 13 < (bt235.1.length : Int) then (some ((rd bt235.1 13) == 2)) else (none)) else (some false)) else (none)) else (some false)) else (some false))) = some r := h
  clear h
  replace H := Option.bind_eq_some_iff.mp H
  obtain ⟨⟨t235, t238⟩, A10, H⟩ := H
  replace H : (if t238 = 0 then (if (t235.length : Int) = 20 then (if 12 < (t235.length : Int) then (if (rd t235 12) = 80 then (if 13 < (t235.length : Int) then (some ((rd t235 13) == 2)) else (none)) else (some false)) else (none)) else (some false)) else (some false)) = some r := H
  have A1 := Aside0.mk A10
  clear A10
  by_cases c2 : t238 = 0
  · rw [if_pos c2] at H
    have c2b0 : (t238 == 0) = true := beq_iff_eq.mpr c2
    have c2b1 : (t238 != 0) = false := bne_eq_false_iff_eq.mpr c2
    clear c2
    by_cases c3 : (t235.length : Int) = 20
    · rw [if_pos c3] at H
      have c3b0 : ((t235.length : Int) == 20) = true := beq_iff_eq.mpr c3
      have c3b1 : ((t235.length : Int) != 20) = false := bne_eq_false_iff_eq.mpr c3
      clear c3
      by_cases c4 : 12 < (t235.length : Int)
      · rw [if_pos c4] at H
        have c4b0 : decide (12 < (t235.length : Int)) = true := decide_eq_true c4
        have c4b1 : decide (12 < t235.length) = true := decide_eq_true (by omega)
        clear c4
        by_cases c5 : (rd t235 12) = 80
        · rw [if_pos c5] at H
          have c5b0 : ((rd t235 12) == 80) = true := beq_iff_eq.mpr c5
          have c5b1 : ((rd t235 12) != 80) = false := bne_eq_false_iff_eq.mpr c5
          clear c5
          by_cases c6 : 13 < (t235.length : Int)
          · rw [if_pos c6] at H
            have c6b0 : decide (13 < (t235.length : Int)) = true := decide_eq_true c6
            have c6b1 : decide (13 < t235.length) = true := decide_eq_true (by omega)
            clear c6
            obtain rfl := Option.some.inj H
            go_enter Try.func23, Try.ntmps23
            go_wp2_with (first | ((with_reducible refine gate_callee (f := 25) rfl ?_); refine goesL_ (some 5) rfl rfl Try.func25 (by kernel_rfl) rfl #[.int .u32 16843009, .int .u32 33686018, .agg #[.int .i64 5, .int .i64 21, .int .u32 1, .int .u32 0, .int .i64 2, .int .i64 0, .int .i64 0, .slice none 0 0, .slice none 0 0]] rfl (by (try simp only [List.map_toArray, List.map_cons, List.map_nil]); first | done | rfl | (simp only [List.length_drop, List.length_take]; rfl)) ?_; (refine (tcp_Build.calls 16843009 33686018 5 21 1 0 2 0 0 _ _ ([] : List Int) _ _ ([] : List Int) t235 t238 _ ?side1 ?side2 ?side3 ?side4 A1.out).mono ?_); (case side1 => exact Kd.C_nil _ _); (case side2 => exact Nat.le_refl _); (case side3 => exact Kd.C_nil _ _); (case side4 => exact Nat.le_refl _); rintro e w7 ⟨v236, rfl, ho0, hb⟩; refine ⟨_, rfl, ?_⟩; have n0_ := Aside0.mk (Kd.R_lower ho0 (below_size (by repeat (first | (with_reducible first | exact HB.out | apply below_alloc | apply pw_below_drewN | apply below_drew1) | exact HB.out)))); have n1_ := Aside0.mk (below_step (by repeat (first | (with_reducible first | exact HB.out | apply below_alloc | apply pw_below_drewN | apply below_drew1) | exact HB.out)) hb); clear HB; have HO237 := n0_; have HB := n1_; clear n0_ n1_; (try clear hb); (try clear hb2); (try clear hk); (try clear hi); (try clear ho0); obtain ⟨Ao8, co8, eo8⟩ := Kd.R_slice HO237.out; subst eo8; have p239 : 0 ≤ (12 : Int) := (by omega); have q239 : 12 < (t235.length : Int) := of_decide_eq_true (by first | (with_reducible assumption) | assumption); obtain ⟨ad239, e239, hx239_0⟩ := Kd.at_int (Kd.R_reads' HO237.out).2.2 12 p239 q239; cases e239; (try simp only [show (12 : Int).toNat = 12 from rfl, Nat.reduceMul, Nat.reduceEqDiff, Go.Addr.add, ↓reduceIte] at hx239_0); have qi239 : (12 < t235.length) = True := eq_true (by omega); (try rw [show ((12 : Int)).toNat = 12 from rfl] at hx239_0); replace p239 := eq_true p239; replace q239 := eq_true q239; have p240 : 0 ≤ (13 : Int) := (by omega); have q240 : 13 < (t235.length : Int) := of_decide_eq_true (by first | (with_reducible assumption) | assumption); obtain ⟨ad240, e240, hx240_0⟩ := Kd.at_int (Kd.R_reads' HO237.out).2.2 13 p240 q240; obtain rfl : ad239 = ad240 := (by injection e240); (try simp only [show (13 : Int).toNat = 13 from rfl, Nat.reduceMul, Nat.reduceEqDiff, Go.Addr.add, ↓reduceIte] at hx240_0); have qi240 : (13 < t235.length) = True := eq_true (by omega); (try rw [show ((13 : Int)).toNat = 13 from rfl] at hx240_0); replace p240 := eq_true p240; replace q240 := eq_true q240))
            go_ret
            exact ⟨by first | rfl | (simp [errW_none, errW_some] <;> rfl) | (simp [*, errW_none, errW_some] <;> rfl), by repeat (first | (with_reducible first | exact HB.out | apply below_alloc | apply pw_below_drewN | apply below_drew1) | exact HB.out)⟩
          · rw [if_neg c6] at H
            exact absurd H (by simp)
        · rw [if_neg c5] at H
          have c5b0 : ((rd t235 12) == 80) = false := beq_eq_false_iff_ne.mpr c5
          have c5b1 : ((rd t235 12) != 80) = true := bne_iff_ne.mpr c5
          obtain rfl := Option.some.inj H
          go_enter Try.func23, Try.ntmps23
          go_wp2_with (first | ((with_reducible refine gate_callee (f := 25) rfl ?_); refine goesL_ (some 5) rfl rfl Try.func25 (by kernel_rfl) rfl #[.int .u32 16843009, .int .u32 33686018, .agg #[.int .i64 5, .int .i64 21, .int .u32 1, .int .u32 0, .int .i64 2, .int .i64 0, .int .i64 0, .slice none 0 0, .slice none 0 0]] rfl (by (try simp only [List.map_toArray, List.map_cons, List.map_nil]); first | done | rfl | (simp only [List.length_drop, List.length_take]; rfl)) ?_; (refine (tcp_Build.calls 16843009 33686018 5 21 1 0 2 0 0 _ _ ([] : List Int) _ _ ([] : List Int) t235 t238 _ ?side1 ?side2 ?side3 ?side4 A1.out).mono ?_); (case side1 => exact Kd.C_nil _ _); (case side2 => exact Nat.le_refl _); (case side3 => exact Kd.C_nil _ _); (case side4 => exact Nat.le_refl _); rintro e w9 ⟨v236, rfl, ho0, hb⟩; refine ⟨_, rfl, ?_⟩; have n0_ := Aside0.mk (Kd.R_lower ho0 (below_size (by repeat (first | (with_reducible first | exact HB.out | apply below_alloc | apply pw_below_drewN | apply below_drew1) | exact HB.out)))); have n1_ := Aside0.mk (below_step (by repeat (first | (with_reducible first | exact HB.out | apply below_alloc | apply pw_below_drewN | apply below_drew1) | exact HB.out)) hb); clear HB; have HO237 := n0_; have HB := n1_; clear n0_ n1_; (try clear hb); (try clear hb2); (try clear hk); (try clear hi); (try clear ho0); obtain ⟨Ao10, co10, eo10⟩ := Kd.R_slice HO237.out; subst eo10; have p239 : 0 ≤ (12 : Int) := (by omega); have q239 : 12 < (t235.length : Int) := of_decide_eq_true (by first | (with_reducible assumption) | assumption); obtain ⟨ad239, e239, hx239_0⟩ := Kd.at_int (Kd.R_reads' HO237.out).2.2 12 p239 q239; cases e239; (try simp only [show (12 : Int).toNat = 12 from rfl, Nat.reduceMul, Nat.reduceEqDiff, Go.Addr.add, ↓reduceIte] at hx239_0); have qi239 : (12 < t235.length) = True := eq_true (by omega); (try rw [show ((12 : Int)).toNat = 12 from rfl] at hx239_0); replace p239 := eq_true p239; replace q239 := eq_true q239))
          go_ret
          exact ⟨by first | rfl | (simp [errW_none, errW_some] <;> rfl) | (simp [*, errW_none, errW_some] <;> rfl), by repeat (first | (with_reducible first | exact HB.out | apply below_alloc | apply pw_below_drewN | apply below_drew1) | exact HB.out)⟩
      · rw [if_neg c4] at H
        exact absurd H (by simp)
    · rw [if_neg c3] at H
      have c3b0 : ((t235.length : Int) == 20) = false := beq_eq_false_iff_ne.mpr c3
      have c3b1 : ((t235.length : Int) != 20) = true := bne_iff_ne.mpr c3
      obtain rfl := Option.some.inj H
      go_enter Try.func23, Try.ntmps23
      go_wp2_with (first | ((with_reducible refine gate_callee (f := 25) rfl ?_); refine goesL_ (some 5) rfl rfl Try.func25 (by kernel_rfl) rfl #[.int .u32 16843009, .int .u32 33686018, .agg #[.int .i64 5, .int .i64 21, .int .u32 1, .int .u32 0, .int .i64 2, .int .i64 0, .int .i64 0, .slice none 0 0, .slice none 0 0]] rfl (by (try simp only [List.map_toArray, List.map_cons, List.map_nil]); first | done | rfl | (simp only [List.length_drop, List.length_take]; rfl)) ?_; (refine (tcp_Build.calls 16843009 33686018 5 21 1 0 2 0 0 _ _ ([] : List Int) _ _ ([] : List Int) t235 t238 _ ?side1 ?side2 ?side3 ?side4 A1.out).mono ?_); (case side1 => exact Kd.C_nil _ _); (case side2 => exact Nat.le_refl _); (case side3 => exact Kd.C_nil _ _); (case side4 => exact Nat.le_refl _); rintro e w11 ⟨v236, rfl, ho0, hb⟩; refine ⟨_, rfl, ?_⟩; have n0_ := Aside0.mk (Kd.R_lower ho0 (below_size (by repeat (first | (with_reducible first | exact HB.out | apply below_alloc | apply pw_below_drewN | apply below_drew1) | exact HB.out)))); have n1_ := Aside0.mk (below_step (by repeat (first | (with_reducible first | exact HB.out | apply below_alloc | apply pw_below_drewN | apply below_drew1) | exact HB.out)) hb); clear HB; have HO237 := n0_; have HB := n1_; clear n0_ n1_; (try clear hb); (try clear hb2); (try clear hk); (try clear hi); (try clear ho0); obtain ⟨Ao12, co12, eo12⟩ := Kd.R_slice HO237.out; subst eo12))
      go_ret
      exact ⟨by first | rfl | (simp [errW_none, errW_some] <;> rfl) | (simp [*, errW_none, errW_some] <;> rfl), by repeat (first | (with_reducible first | exact HB.out | apply below_alloc | apply pw_below_drewN | apply below_drew1) | exact HB.out)⟩
  · rw [if_neg c2] at H
    have c2b0 : (t238 == 0) = false := beq_eq_false_iff_ne.mpr c2
    have c2b1 : (t238 != 0) = true := bne_iff_ne.mpr c2
    obtain rfl := Option.some.inj H
    go_enter Try.func23, Try.ntmps23
    go_wp2_with (first | ((with_reducible refine gate_callee (f := 25) rfl ?_); refine goesL_ (some 5) rfl rfl Try.func25 (by kernel_rfl) rfl #[.int .u32 16843009, .int .u32 33686018, .agg #[.int .i64 5, .int .i64 21, .int .u32 1, .int .u32 0, .int .i64 2, .int .i64 0, .int .i64 0, .slice none 0 0, .slice none 0 0]] rfl (by (try simp only [List.map_toArray, List.map_cons, List.map_nil]); first | done | rfl | (simp only [List.length_drop, List.length_take]; rfl)) ?_; (refine (tcp_Build.calls 16843009 33686018 5 21 1 0 2 0 0 _ _ ([] : List Int) _ _ ([] : List Int) t235 t238 _ ?side1 ?side2 ?side3 ?side4 A1.out).mono ?_); (case side1 => exact Kd.C_nil _ _); (case side2 => exact Nat.le_refl _); (case side3 => exact Kd.C_nil _ _); (case side4 => exact Nat.le_refl _); rintro e w13 ⟨v236, rfl, ho0, hb⟩; refine ⟨_, rfl, ?_⟩; have n0_ := Aside0.mk (Kd.R_lower ho0 (below_size (by repeat (first | (with_reducible first | exact HB.out | apply below_alloc | apply pw_below_drewN | apply below_drew1) | exact HB.out)))); have n1_ := Aside0.mk (below_step (by repeat (first | (with_reducible first | exact HB.out | apply below_alloc | apply pw_below_drewN | apply below_drew1) | exact HB.out)) hb); clear HB; have HO237 := n0_; have HB := n1_; clear n0_ n1_; (try clear hb); (try clear hb2); (try clear hk); (try clear hi); (try clear ho0)))
    go_ret
    exact ⟨by first | rfl | (simp [errW_none, errW_some] <;> rfl) | (simp [*, errW_none, errW_some] <;> rfl), by repeat (first | (with_reducible first | exact HB.out | apply below_alloc | apply pw_below_drewN | apply below_drew1) | exact HB.out)⟩

/-! ### bailiwicklaw4_small: function 24 -/
def bailiwicklaw4_small.f (a0_0 : Int) (a0_1 : Int) (a0_2 : Int) (a0_3 : Int) (a0_4 : Int) (a0_5 : Int) (a0_6 : Int) (a0_7 : Int) (a0_8 : Int) (l0_9 : List Int) (l0_10 : List Int) : Option (Bool) := if (l0_10.length : Int) ≤ 5000 then (some (decide ((l0_9.length : Int) ≤ 5000))) else (some false)
set_option maxHeartbeats 8000000 in
set_option maxRecDepth 100000 in
theorem bailiwicklaw4_small.calls (a0_0 : Int) (a0_1 : Int) (a0_2 : Int) (a0_3 : Int) (a0_4 : Int) (a0_5 : Int) (a0_6 : Int) (a0_7 : Int) (a0_8 : Int) (A0_9 : Option Addr) (c0_9 : Nat) (l0_9 : List Int) (A0_10 : Option Addr) (c0_10 : Nat) (l0_10 : List Int) (r : Bool) (w : World) (hr0_9 : Kd.C (Kd.int .u8) w A0_9 l0_9.length l0_9) (hc0_9 : l0_9.length ≤ c0_9) (hr0_10 : Kd.C (Kd.int .u8) w A0_10 l0_10.length l0_10) (hc0_10 : l0_10.length ≤ c0_10) (h : bailiwicklaw4_small.f a0_0 a0_1 a0_2 a0_3 a0_4 a0_5 a0_6 a0_7 a0_8 l0_9 l0_10 = some r) :
    Calls Try.prog 24 #[.agg #[.int .u32 a0_0, .int .u32 a0_1, .int .i64 a0_2, .int .i64 a0_3, .int .u32 a0_4, .int .u32 a0_5, .int .i64 a0_6, .int .i64 a0_7, .int .i64 a0_8, .slice A0_9 l0_9.length c0_9, .slice A0_10 l0_10.length c0_10]] w fun e w' => e = .returned (.bool r) ∧ Below w.heap.size w w' := by
  have hu48 := Try.underlying48
  have HR0_9 := Aside0.mk hr0_9
  have HC0_9 := Aside0.mk hc0_9
  clear hr0_9 hc0_9
  have HR0_10 := Aside0.mk hr0_10
  have HC0_10 := Aside0.mk hc0_10
  clear hr0_10 hc0_10
  have HB := Aside0.mk (Below.refl w.heap.size w)
  have H : (if (l0_10.length : Int) ≤ 5000 then (some (decide ((l0_9.length : Int) ≤ 5000))) else (some false)) = some r := h
  clear h
  by_cases c2 : (l0_10.length : Int) ≤ 5000
  · rw [if_pos c2] at H
    have c2b0 : decide ((l0_10.length : Int) ≤ 5000) = true := decide_eq_true c2
    have c2b1 : decide (l0_10.length ≤ 5000) = true := decide_eq_true (by omega)
    clear c2
    obtain rfl := Option.some.inj H
    go_enter Try.func24, Try.ntmps24
    go_wp2_with (first | ((with_reducible refine gate_dst (N := 1) rfl ?_); (try (refine gate_guard (by rfl) ?_; dsimp only)); refine box_event ?hg (N := 1) ?hd (cs := #[.int .u32 a0_0, .int .u32 a0_1, .int .i64 a0_2, .int .i64 a0_3, .int .u32 a0_4, .int .u32 a0_5, .int .i64 a0_6, .int .i64 a0_7, .int .i64 a0_8, .slice A0_9 l0_9.length c0_9, .slice A0_10 l0_10.length c0_10]) (t := 48) ?hr ?_; (case hd => rfl); (case hg => rfl); (case hr => first | (go_simp; done) | (go_simp; rfl)); intro gb241 hg w3 hbox hb; have n0_ := Aside0.mk (below_step (by repeat (first | (with_reducible first | exact HB.out | apply below_alloc | apply pw_below_drewN | apply below_drew1) | exact HB.out)) hb); have n1_ := Aside0.mk (hbox); have n2_ := Aside0.mk ((by rw [hg]; exact (below_size (by repeat (first | (with_reducible first | exact HB.out | apply below_alloc | apply pw_below_drewN | apply below_drew1) | exact HB.out))) : w.heap.size ≤ gb241)); have n3_ := Aside0.mk ((by rw [hg]; exact (below_size (by repeat (first | (with_reducible first | exact HB.out | apply below_alloc | apply pw_below_drewN | apply below_drew1) | exact HB.out))) : w.heap.size ≤ gb241)); clear HB; have HB := n0_; have BK241 := n1_; have GW241 := n2_; have GE241 := n3_; clear n0_ n1_ n2_ n3_; clear hb hbox hg; have hcz4_0 : w3.cell? ⟨gb241, 0, none⟩ = some (.int .u32 a0_0) := (blk_cell BK241.out 0).trans rfl; have hcz4_1 : w3.cell? ⟨gb241, 1, none⟩ = some (.int .u32 a0_1) := (blk_cell BK241.out 1).trans rfl; have hcz4_2 : w3.cell? ⟨gb241, 2, none⟩ = some (.int .i64 a0_2) := (blk_cell BK241.out 2).trans rfl; have hcz4_3 : w3.cell? ⟨gb241, 3, none⟩ = some (.int .i64 a0_3) := (blk_cell BK241.out 3).trans rfl; have hcz4_4 : w3.cell? ⟨gb241, 4, none⟩ = some (.int .u32 a0_4) := (blk_cell BK241.out 4).trans rfl; have hcz4_5 : w3.cell? ⟨gb241, 5, none⟩ = some (.int .u32 a0_5) := (blk_cell BK241.out 5).trans rfl; have hcz4_6 : w3.cell? ⟨gb241, 6, none⟩ = some (.int .i64 a0_6) := (blk_cell BK241.out 6).trans rfl; have hcz4_7 : w3.cell? ⟨gb241, 7, none⟩ = some (.int .i64 a0_7) := (blk_cell BK241.out 7).trans rfl; have hcz4_8 : w3.cell? ⟨gb241, 8, none⟩ = some (.int .i64 a0_8) := (blk_cell BK241.out 8).trans rfl; have hcz4_9 : w3.cell? ⟨gb241, 9, none⟩ = some (.slice A0_9 l0_9.length c0_9) := (blk_cell BK241.out 9).trans rfl; have hcz4_10 : w3.cell? ⟨gb241, 10, none⟩ = some (.slice A0_10 l0_10.length c0_10) := (blk_cell BK241.out 10).trans rfl; have hfz4_0 := blk_frozen BK241.out 0; have hfz4_1 := blk_frozen BK241.out 1; have hfz4_2 := blk_frozen BK241.out 2; have hfz4_3 := blk_frozen BK241.out 3; have hfz4_4 := blk_frozen BK241.out 4; have hfz4_5 := blk_frozen BK241.out 5; have hfz4_6 := blk_frozen BK241.out 6; have hfz4_7 := blk_frozen BK241.out 7; have hfz4_8 := blk_frozen BK241.out 8; have hfz4_9 := blk_frozen BK241.out 9; have hfz4_10 := blk_frozen BK241.out 10))
    go_ret
    exact ⟨by first | rfl | (simp [errW_none, errW_some] <;> rfl) | (simp [*, errW_none, errW_some] <;> rfl), by repeat (first | (with_reducible first | exact HB.out | apply below_alloc | apply pw_below_drewN | apply below_drew1 | refine below_set ?_ GE241.out) | exact HB.out)⟩
  · rw [if_neg c2] at H
    have c2b0 : decide ((l0_10.length : Int) ≤ 5000) = false := decide_eq_false c2
    have c2b1 : decide (l0_10.length ≤ 5000) = false := decide_eq_false (by omega)
    clear c2
    obtain rfl := Option.some.inj H
    go_enter Try.func24, Try.ntmps24
    go_wp2_with (first | ((with_reducible refine gate_dst (N := 1) rfl ?_); (try (refine gate_guard (by rfl) ?_; dsimp only)); refine box_event ?hg (N := 1) ?hd (cs := #[.int .u32 a0_0, .int .u32 a0_1, .int .i64 a0_2, .int .i64 a0_3, .int .u32 a0_4, .int .u32 a0_5, .int .i64 a0_6, .int .i64 a0_7, .int .i64 a0_8, .slice A0_9 l0_9.length c0_9, .slice A0_10 l0_10.length c0_10]) (t := 48) ?hr ?_; (case hd => rfl); (case hg => rfl); (case hr => first | (go_simp; done) | (go_simp; rfl)); intro gb241 hg w5 hbox hb; have n0_ := Aside0.mk (below_step (by repeat (first | (with_reducible first | exact HB.out | apply below_alloc | apply pw_below_drewN | apply below_drew1) | exact HB.out)) hb); have n1_ := Aside0.mk (hbox); have n2_ := Aside0.mk ((by rw [hg]; exact (below_size (by repeat (first | (with_reducible first | exact HB.out | apply below_alloc | apply pw_below_drewN | apply below_drew1) | exact HB.out))) : w.heap.size ≤ gb241)); have n3_ := Aside0.mk ((by rw [hg]; exact (below_size (by repeat (first | (with_reducible first | exact HB.out | apply below_alloc | apply pw_below_drewN | apply below_drew1) | exact HB.out))) : w.heap.size ≤ gb241)); clear HB; have HB := n0_; have BK241 := n1_; have GW241 := n2_; have GE241 := n3_; clear n0_ n1_ n2_ n3_; clear hb hbox hg; have hcz6_0 : w5.cell? ⟨gb241, 0, none⟩ = some (.int .u32 a0_0) := (blk_cell BK241.out 0).trans rfl; have hcz6_1 : w5.cell? ⟨gb241, 1, none⟩ = some (.int .u32 a0_1) := (blk_cell BK241.out 1).trans rfl; have hcz6_2 : w5.cell? ⟨gb241, 2, none⟩ = some (.int .i64 a0_2) := (blk_cell BK241.out 2).trans rfl; have hcz6_3 : w5.cell? ⟨gb241, 3, none⟩ = some (.int .i64 a0_3) := (blk_cell BK241.out 3).trans rfl; have hcz6_4 : w5.cell? ⟨gb241, 4, none⟩ = some (.int .u32 a0_4) := (blk_cell BK241.out 4).trans rfl; have hcz6_5 : w5.cell? ⟨gb241, 5, none⟩ = some (.int .u32 a0_5) := (blk_cell BK241.out 5).trans rfl; have hcz6_6 : w5.cell? ⟨gb241, 6, none⟩ = some (.int .i64 a0_6) := (blk_cell BK241.out 6).trans rfl; have hcz6_7 : w5.cell? ⟨gb241, 7, none⟩ = some (.int .i64 a0_7) := (blk_cell BK241.out 7).trans rfl; have hcz6_8 : w5.cell? ⟨gb241, 8, none⟩ = some (.int .i64 a0_8) := (blk_cell BK241.out 8).trans rfl; have hcz6_9 : w5.cell? ⟨gb241, 9, none⟩ = some (.slice A0_9 l0_9.length c0_9) := (blk_cell BK241.out 9).trans rfl; have hcz6_10 : w5.cell? ⟨gb241, 10, none⟩ = some (.slice A0_10 l0_10.length c0_10) := (blk_cell BK241.out 10).trans rfl; have hfz6_0 := blk_frozen BK241.out 0; have hfz6_1 := blk_frozen BK241.out 1; have hfz6_2 := blk_frozen BK241.out 2; have hfz6_3 := blk_frozen BK241.out 3; have hfz6_4 := blk_frozen BK241.out 4; have hfz6_5 := blk_frozen BK241.out 5; have hfz6_6 := blk_frozen BK241.out 6; have hfz6_7 := blk_frozen BK241.out 7; have hfz6_8 := blk_frozen BK241.out 8; have hfz6_9 := blk_frozen BK241.out 9; have hfz6_10 := blk_frozen BK241.out 10))
    go_ret
    exact ⟨by first | rfl | (simp [errW_none, errW_some] <;> rfl) | (simp [*, errW_none, errW_some] <;> rfl), by repeat (first | (with_reducible first | exact HB.out | apply below_alloc | apply pw_below_drewN | apply below_drew1 | refine below_set ?_ GE241.out) | exact HB.out)⟩

end Go.Proofs.Ythnhpbplglmmmaa.P
