-- Laid by a program (wip/tools/myprint.py) out of the translation. Not trusted: Lean checks it.
import Derived.Test.YtdppnkgblklmmaaP0
import Derived.Test.YtdppnkgblklmmaaPoctet
import Derived.Test.YtdppnkgblklmmaaPbailiwicklaw1
import Derived.Test.YtdppnkgblklmmaaPbailiwickref1
namespace Go.Proofs.Ytdppnkgblklmmaa.P
open Go.RowKit Go.Proofs.YtdppnkgblklmmaaW.PrintWords Go.Proofs.YtdppnkgblklmmaaW.PrintLast Go.Proofs.YtdppnkgblklmmaaW.PrintMore
attribute [local go_sem] max2_int min2_int max_two min_two max_three min_three max_four min_four   -- for this text's walks alone
set_option linter.unusedVariables false
set_option linter.unusedSimpArgs false

/-! ### bailiwicklaw1_OctetSwaps: function 4 -/
mutual
def bailiwicklaw1_OctetSwaps.j0 : Nat → List Int → Int → Int → Bool → Option (Bool)
  | 0, _, _, _, _ => none
  | k + 1, x0, x1, x2, x27 => if x27 = true then (some true) else (if (wrap64 ((x0.length : Int) / 2)) = 0 then (none) else ((bailiwickref1_Copy.f k x0).bind fun t129 => (if 0 ≤ (wrap64 ((Int.tmod (wrap64 ((Int.tmod x2 (wrap64 ((x0.length : Int) / 2))) + (wrap64 ((x0.length : Int) / 2)))) (wrap64 ((x0.length : Int) / 2))) * 2)) then (if (wrap64 ((Int.tmod (wrap64 ((Int.tmod x2 (wrap64 ((x0.length : Int) / 2))) + (wrap64 ((x0.length : Int) / 2)))) (wrap64 ((x0.length : Int) / 2))) * 2)) < (t129.length : Int) then (if 0 ≤ (wrap64 ((wrap64 ((Int.tmod (wrap64 ((Int.tmod x2 (wrap64 ((x0.length : Int) / 2))) + (wrap64 ((x0.length : Int) / 2)))) (wrap64 ((x0.length : Int) / 2))) * 2)) + 1)) then (if (wrap64 ((wrap64 ((Int.tmod (wrap64 ((Int.tmod x2 (wrap64 ((x0.length : Int) / 2))) + (wrap64 ((x0.length : Int) / 2)))) (wrap64 ((x0.length : Int) / 2))) * 2)) + 1)) < (t129.length : Int) then (if 0 ≤ (wrap64 ((Int.tmod (wrap64 ((Int.tmod x1 (wrap64 ((x0.length : Int) / 2))) + (wrap64 ((x0.length : Int) / 2)))) (wrap64 ((x0.length : Int) / 2))) * 2)) then (if (wrap64 ((Int.tmod (wrap64 ((Int.tmod x1 (wrap64 ((x0.length : Int) / 2))) + (wrap64 ((x0.length : Int) / 2)))) (wrap64 ((x0.length : Int) / 2))) * 2)) < (t129.length : Int) then (if 0 ≤ (wrap64 ((wrap64 ((Int.tmod (wrap64 ((Int.tmod x1 (wrap64 ((x0.length : Int) / 2))) + (wrap64 ((x0.length : Int) / 2)))) (wrap64 ((x0.length : Int) / 2))) * 2)) + 1)) then (if (wrap64 ((wrap64 ((Int.tmod (wrap64 ((Int.tmod x1 (wrap64 ((x0.length : Int) / 2))) + (wrap64 ((x0.length : Int) / 2)))) (wrap64 ((x0.length : Int) / 2))) * 2)) + 1)) < (t129.length : Int) then ((bailiwickref1_Copy.f k x0).bind fun t140 => (bailiwicklaw1_OctetSwaps.l0 k x0 ((((t129.set ((wrap64 ((Int.tmod (wrap64 ((Int.tmod x1 (wrap64 ((x0.length : Int) / 2))) + (wrap64 ((x0.length : Int) / 2)))) (wrap64 ((x0.length : Int) / 2))) * 2)) : Int).toNat (rd t129 (wrap64 ((Int.tmod (wrap64 ((Int.tmod x2 (wrap64 ((x0.length : Int) / 2))) + (wrap64 ((x0.length : Int) / 2)))) (wrap64 ((x0.length : Int) / 2))) * 2)))).set ((wrap64 ((wrap64 ((Int.tmod (wrap64 ((Int.tmod x1 (wrap64 ((x0.length : Int) / 2))) + (wrap64 ((x0.length : Int) / 2)))) (wrap64 ((x0.length : Int) / 2))) * 2)) + 1)) : Int).toNat (rd t129 (wrap64 ((wrap64 ((Int.tmod (wrap64 ((Int.tmod x2 (wrap64 ((x0.length : Int) / 2))) + (wrap64 ((x0.length : Int) / 2)))) (wrap64 ((x0.length : Int) / 2))) * 2)) + 1)))).set ((wrap64 ((Int.tmod (wrap64 ((Int.tmod x2 (wrap64 ((x0.length : Int) / 2))) + (wrap64 ((x0.length : Int) / 2)))) (wrap64 ((x0.length : Int) / 2))) * 2)) : Int).toNat (rd t129 (wrap64 ((Int.tmod (wrap64 ((Int.tmod x1 (wrap64 ((x0.length : Int) / 2))) + (wrap64 ((x0.length : Int) / 2)))) (wrap64 ((x0.length : Int) / 2))) * 2)))).set ((wrap64 ((wrap64 ((Int.tmod (wrap64 ((Int.tmod x2 (wrap64 ((x0.length : Int) / 2))) + (wrap64 ((x0.length : Int) / 2)))) (wrap64 ((x0.length : Int) / 2))) * 2)) + 1)) : Int).toNat (rd t129 (wrap64 ((wrap64 ((Int.tmod (wrap64 ((Int.tmod x1 (wrap64 ((x0.length : Int) / 2))) + (wrap64 ((x0.length : Int) / 2)))) (wrap64 ((x0.length : Int) / 2))) * 2)) + 1)))) t140 0)) else (none)) else (none)) else (none)) else (none)) else (none)) else (none)) else (none)) else (none))))
def bailiwicklaw1_OctetSwaps.l0 : Nat → List Int → List Int → List Int → Int → Option (Bool)
  | 0, _, _, _, _ => none
  | k + 1, x0, x8, x9, x10 => if x10 < (x9.length : Int) then (if 0 ≤ (wrap64 (x10 + 1)) then (if (wrap64 (x10 + 1)) < (x9.length : Int) then (if 0 ≤ x10 then (bailiwicklaw1_OctetSwaps.l0 k x0 x8 ((x9.set (x10 : Int).toNat (rd x9 (wrap64 (x10 + 1)))).set ((wrap64 (x10 + 1)) : Int).toNat (rd x9 x10)) (wrap64 (x10 + 2))) else (none)) else (none)) else (none)) else ((octet_Sum.f (([x0] : List (List Int)))).bind fun t151 => ((octet_Sum.f (([x8] : List (List Int)))).bind fun t156 => (if t156 = t151 then ((octet_Sum.f (([x9] : List (List Int)))).bind fun t161 => (some (t161 == (Go.bits .or .i64 (t151 / 256) (wrap64 ((Go.bits .and .i64 t151 255) * 256)))))) else (some false))))
end
def bailiwicklaw1_OctetSwaps.f (k : Nat) (l0 : List Int) (a1 : Int) (a2 : Int) : Option (Bool) := (bailiwicklaw1_awake.f).bind fun t128 => (if t128 = true then (if (l0.length : Int) > 100000 then (bailiwicklaw1_OctetSwaps.j0 k l0 a1 a2 true) else (if ((l0.length : Int) % 2) = 0 then (bailiwicklaw1_OctetSwaps.j0 k l0 a1 a2 ((l0.length : Int) == 0)) else (bailiwicklaw1_OctetSwaps.j0 k l0 a1 a2 true))) else (some false))
theorem bailiwicklaw1_OctetSwaps.mono_l : ∀ k, (∀ y0 y1 y2 y3, LeO (bailiwicklaw1_OctetSwaps.j0 k y0 y1 y2 y3) (bailiwicklaw1_OctetSwaps.j0 (k + 1) y0 y1 y2 y3)) ∧ (∀ y0 y1 y2 y3, LeO (bailiwicklaw1_OctetSwaps.l0 k y0 y1 y2 y3) (bailiwicklaw1_OctetSwaps.l0 (k + 1) y0 y1 y2 y3))
  | 0 => ⟨fun _ _ _ _ r h => by simp [bailiwicklaw1_OctetSwaps.j0] at h, fun _ _ _ _ r h => by simp [bailiwicklaw1_OctetSwaps.l0] at h⟩
  | k + 1 => by
    obtain ⟨ih0, ih1⟩ := bailiwicklaw1_OctetSwaps.mono_l k
    refine ⟨?_, ?_⟩
    · intro y0 y1 y2 y3
      unfold bailiwicklaw1_OctetSwaps.j0
      repeat' first
      | (with_reducible exact ih0 _ _ _ _)
      | (with_reducible exact ih1 _ _ _ _)
      | (with_reducible exact bailiwickref1_Copy.mono _ _)
      | (with_reducible exact LeO.refl _)
      | (with_reducible exact LeO.none _)
      | (with_reducible refine LeO.ite ?_ ?_)
      | (with_reducible refine LeO.bind ?_ (fun _ => ?_))
      | exact ih0 _ _ _ _
      | exact ih1 _ _ _ _
      | exact bailiwickref1_Copy.mono _ _
      | exact LeO.none _
      | refine LeO.ite ?_ ?_
      | refine LeO.bind ?_ (fun _ => ?_)
    · intro y0 y1 y2 y3
      unfold bailiwicklaw1_OctetSwaps.l0
      repeat' first
      | (with_reducible exact ih0 _ _ _ _)
      | (with_reducible exact ih1 _ _ _ _)
      | (with_reducible exact bailiwickref1_Copy.mono _ _)
      | (with_reducible exact LeO.refl _)
      | (with_reducible exact LeO.none _)
      | (with_reducible refine LeO.ite ?_ ?_)
      | (with_reducible refine LeO.bind ?_ (fun _ => ?_))
      | exact ih0 _ _ _ _
      | exact ih1 _ _ _ _
      | exact bailiwickref1_Copy.mono _ _
      | exact LeO.none _
      | refine LeO.ite ?_ ?_
      | refine LeO.bind ?_ (fun _ => ?_)
theorem bailiwicklaw1_OctetSwaps.mono : ∀ a0 a1 a2 k, LeO (bailiwicklaw1_OctetSwaps.f k a0 a1 a2) (bailiwicklaw1_OctetSwaps.f (k + 1) a0 a1 a2) := by
  intro a0 a1 a2 k
  obtain ⟨ih0, ih1⟩ := bailiwicklaw1_OctetSwaps.mono_l k
  unfold bailiwicklaw1_OctetSwaps.f
  repeat' first
      | (with_reducible exact ih0 _ _ _ _)
      | (with_reducible exact ih1 _ _ _ _)
      | (with_reducible exact bailiwickref1_Copy.mono _ _)
      | (with_reducible exact LeO.refl _)
      | (with_reducible exact LeO.none _)
      | (with_reducible refine LeO.ite ?_ ?_)
      | (with_reducible refine LeO.bind ?_ (fun _ => ?_))
      | exact ih0 _ _ _ _
      | exact ih1 _ _ _ _
      | exact bailiwickref1_Copy.mono _ _
      | exact LeO.none _
      | refine LeO.ite ?_ ?_
      | refine LeO.bind ?_ (fun _ => ?_)
def bailiwicklaw1_OctetSwaps.T9 : Bool × List (List Nat × List Nat) := (true, [([], []), ([], []), ([], []), ([], []), ([3], [3]), ([], []), ([], []), ([], []), ([], []), ([8], [8]), ([], []), ([], []), ([10, 11], [10, 11]), ([12], [12]), ([], []), ([], []), ([15], [15]), ([14, 16], [14, 16]), ([17], [17]), ([], []), ([], []), ([19, 20], [19, 20]), ([21], [21]), ([], []), ([], []), ([24], [24]), ([23, 25], [23, 25]), ([26], [26]), ([0, 1, 0, 1, 10, 11, 12, 13, 18, 22, 27], [0, 1]), ([28, 13, 0, 1, 10, 11, 12, 13, 18, 22, 27], [13, 28]), ([2, 4, 0, 1, 2, 3, 4, 10, 11, 12, 13, 14, 15, 16, 17, 18, 22, 27, 28, 29], [2, 4]), ([30, 18, 29, 0, 1, 2, 3, 4, 10, 11, 12, 13, 14, 15, 16, 17, 18, 22, 27, 28, 29], [18, 30]), ([5, 6, 0, 1, 2, 3, 4, 5, 6, 10, 11, 12, 13, 14, 15, 16, 17, 18, 19, 20, 21, 22, 27, 28, 29, 30, 31], [5, 6]), ([32, 22, 31, 0, 1, 2, 3, 4, 5, 6, 10, 11, 12, 13, 14, 15, 16, 17, 18, 19, 20, 21, 22, 27, 28, 29, 30, 31], [22, 32]), ([7, 9, 0, 1, 2, 3, 4, 5, 6, 7, 8, 9, 10, 11, 12, 13, 14, 15, 16, 17, 18, 19, 20, 21, 22, 23, 24, 25, 26, 27, 28, 29, 30, 31, 32, 33], [7, 9]), ([34, 27, 33, 0, 1, 2, 3, 4, 5, 6, 7, 8, 9, 10, 11, 12, 13, 14, 15, 16, 17, 18, 19, 20, 21, 22, 23, 24, 25, 26, 27, 28, 29, 30, 31, 32, 33], [27, 34])])
def bailiwicklaw1_OctetSwaps.B9 : List Nat := [0, 0, 0, 0, 8, 0, 0, 0, 0, 256, 0, 0, 3072, 7168, 0, 0, 32768, 114688, 245760, 0, 0, 1572864, 3670016, 0, 0, 16777216, 58720256, 125829120, 268434435, 536869891, 1073740831, 2147482655, 4294966399, 8589933695, 17179869183, 34359738367]
theorem bailiwicklaw1_OctetSwaps.tab9 : rtab .any (opsOf Try.f4 9) = bailiwicklaw1_OctetSwaps.T9 := by kernel_rfl
theorem bailiwicklaw1_OctetSwaps.bits9 : waitsOk bailiwicklaw1_OctetSwaps.T9.2 bailiwicklaw1_OctetSwaps.B9 = true := by kernel_rfl
def bailiwicklaw1_OctetSwaps.T14 : Bool × List (List Nat × List Nat) := (true, [([], []), ([], []), ([], []), ([], []), ([3], [3]), ([], []), ([], []), ([6], [6]), ([5, 7], [5, 7]), ([8], [8]), ([], []), ([], []), ([10, 11], [10, 11]), ([12], [12]), ([0, 1, 0, 1, 5, 6, 7, 8, 9, 13], [0, 1]), ([14, 9, 0, 1, 5, 6, 7, 8, 9, 13], [9, 14]), ([2, 4, 0, 1, 2, 3, 4, 5, 6, 7, 8, 9, 10, 11, 12, 13, 14, 15], [2, 4]), ([16, 13, 15, 0, 1, 2, 3, 4, 5, 6, 7, 8, 9, 10, 11, 12, 13, 14, 15], [13, 16])])
def bailiwicklaw1_OctetSwaps.B14 : List Nat := [0, 0, 0, 0, 8, 0, 0, 64, 224, 480, 0, 0, 3072, 7168, 16355, 32739, 65535, 131071]
theorem bailiwicklaw1_OctetSwaps.tab14 : rtab .any (opsOf Try.f4 14) = bailiwicklaw1_OctetSwaps.T14 := by kernel_rfl
theorem bailiwicklaw1_OctetSwaps.bits14 : waitsOk bailiwicklaw1_OctetSwaps.T14.2 bailiwicklaw1_OctetSwaps.B14 = true := by kernel_rfl
set_option maxHeartbeats 8000000 in
set_option maxRecDepth 100000 in
theorem bailiwicklaw1_OctetSwaps.calls (k : Nat) (A0 : Option Addr) (c0 : Nat) (l0 : List Int) (a1 : Int) (a2 : Int) (r : Bool) (w : World) (hr0 : Kd.C (Kd.int .u8) w A0 l0.length l0) (hc0 : l0.length ≤ c0) (h : bailiwicklaw1_OctetSwaps.f k l0 a1 a2 = some r) :
    Calls Try.prog 4 #[.slice A0 l0.length c0, .int .i64 a1, .int .i64 a2] w fun e w' => e = .returned (.bool r) ∧ Below w.heap.size w w' := by
  have HR0 := Aside0.mk hr0
  have HC0 := Aside0.mk hc0
  clear hr0 hc0
  have HB := Aside0.mk (Below.refl w.heap.size w)
  have H : ((bailiwicklaw1_awake.f).bind fun t128 => (if t128 = true then (if (l0.length : Int) > 100000 then (bailiwicklaw1_OctetSwaps.j0 k l0 a1 a2 true) else (if ((l0.length : Int) % 2) = 0 then (bailiwicklaw1_OctetSwaps.j0 k l0 a1 a2 ((l0.length : Int) == 0)) else (bailiwicklaw1_OctetSwaps.j0 k l0 a1 a2 true))) else (some false))) = some r := h
  clear h
  replace H := Option.bind_eq_some_iff.mp H
  obtain ⟨t128, A40, H⟩ := H
  replace H : (if t128 = true then (if (l0.length : Int) > 100000 then (bailiwicklaw1_OctetSwaps.j0 k l0 a1 a2 true) else (if ((l0.length : Int) % 2) = 0 then (bailiwicklaw1_OctetSwaps.j0 k l0 a1 a2 ((l0.length : Int) == 0)) else (bailiwicklaw1_OctetSwaps.j0 k l0 a1 a2 true))) else (some false)) = some r := H
  have A4 := Aside0.mk A40
  clear A40
  by_cases c5 : t128 = true
  · subst c5
    have H1 : (if (l0.length : Int) > 100000 then (bailiwicklaw1_OctetSwaps.j0 k l0 a1 a2 true) else (if ((l0.length : Int) % 2) = 0 then (bailiwicklaw1_OctetSwaps.j0 k l0 a1 a2 ((l0.length : Int) == 0)) else (bailiwicklaw1_OctetSwaps.j0 k l0 a1 a2 true))) = some r := by rw [if_pos rfl] at H; exact H
    clear H
    have H := H1
    clear H1
    have HC6 := Aside0.mk H
    clear H
    go_enter Try.func4, Try.ntmps4
    go_upto_region 3 with (first | ((with_reducible refine gate_callee (f := 22) rfl ?_); refine goesL_ (some 12) rfl rfl Try.func22 (by kernel_rfl) rfl #[] rfl (by (try simp only [List.map_toArray, List.map_cons, List.map_nil]); first | done | rfl | (simp only [List.length_drop, List.length_take]; rfl)) ?_; (with_reducible refine (bailiwicklaw1_awake.calls  true _ A4.out).mono ?_); rintro e w7 ⟨rfl, hb⟩; refine ⟨_, rfl, ?_⟩; have n0_ := Aside0.mk (below_step (by repeat (first | (with_reducible first | exact HB.out | apply below_alloc | apply pw_below_drewN | apply below_drew1) | exact HB.out)) hb); clear HB; have HB := n0_; clear n0_; (try clear hb); (try clear hb2); (try clear hk); (try clear hi)))
    (try simp only [Act.put, List.setIfInBounds_toArray, List.set_cons_zero, List.set_cons_succ])
    go_cut [27] (fun v27 wc => ∃ (kq : Nat) (x27_5 : Bool), v27 = .bool x27_5 ∧ Aside0 (bailiwicklaw1_OctetSwaps.j0 kq l0 a1 a2 x27_5 = some r) ∧ Aside0 (kq ≤ k) ∧ Aside0 (Below w.heap.size w wc))
    case first =>
      have H := HC6.out
      clear HC6
      by_cases c8 : (l0.length : Int) > 100000
      · rw [if_pos c8] at H
        have c8b0 : decide (100000 < (l0.length : Int)) = true := decide_eq_true c8
        have c8b1 : decide (100000 < l0.length) = true := decide_eq_true (by omega)
        clear c8
        (first | rw [c8b0] | (simp only [i64_w, i32_w]; rw [c8b0]) | skip)
        have H' := Aside0.mk H
        clear H
        go_wp2
        go_meet
        case rel => exact ⟨_, (true), (by first | rfl | (simp; done) | (simp [*]; done)), H', ⟨by first | omega | exact Nat.le_refl _⟩, ⟨by repeat (first | (with_reducible first | exact HB.out | apply below_alloc | apply pw_below_drewN | apply below_drew1) | exact HB.out)⟩⟩
      · rw [if_neg c8] at H
        have c8b0 : decide (100000 < (l0.length : Int)) = false := decide_eq_false c8
        have c8b1 : decide (100000 < l0.length) = false := decide_eq_false (by omega)
        clear c8
        (first | rw [c8b0] | (simp only [i64_w, i32_w]; rw [c8b0]) | skip)
        by_cases c9 : ((l0.length : Int) % 2) = 0
        · rw [if_pos c9] at H
          have c9b0 : (((l0.length : Int) % 2) == 0) = true := beq_iff_eq.mpr c9
          have c9b1 : (((l0.length : Int) % 2) != 0) = false := bne_eq_false_iff_eq.mpr c9
          clear c9
          have H' := Aside0.mk H
          clear H
          go_wp2
          go_meet
          case rel => exact ⟨_, (((l0.length : Int) == 0)), (by first | rfl | (simp; done) | (simp [*]; done)), H', ⟨by first | omega | exact Nat.le_refl _⟩, ⟨by repeat (first | (with_reducible first | exact HB.out | apply below_alloc | apply pw_below_drewN | apply below_drew1) | exact HB.out)⟩⟩
        · rw [if_neg c9] at H
          have c9b0 : (((l0.length : Int) % 2) == 0) = false := beq_eq_false_iff_ne.mpr c9
          have c9b1 : (((l0.length : Int) % 2) != 0) = true := bne_iff_ne.mpr c9
          have H' := Aside0.mk H
          clear H
          go_wp2
          go_meet
          case rel => exact ⟨_, (true), (by first | rfl | (simp; done) | (simp [*]; done)), H', ⟨by first | omega | exact Nat.le_refl _⟩, ⟨by repeat (first | (with_reducible first | exact HB.out | apply below_alloc | apply pw_below_drewN | apply below_drew1) | exact HB.out)⟩⟩
    case rest =>
      clear HC6
      try clear c2
      try clear p2
      try clear c4
      try clear c5
      try clear c8
      try clear c8b0
      try clear c8b1
      try clear c9
      try clear c9b0
      try clear c9b1
      obtain ⟨kq, x27_5, rfl, HA, HJ5, HB⟩ := hcut
      cases kq with
      | zero => exact absurd HA.out (by simp [bailiwicklaw1_OctetSwaps.j0])
      | succ kj5 =>
        have H := HA.out
        clear HA
        simp only [bailiwicklaw1_OctetSwaps.j0] at H
        by_cases c10 : x27_5 = true
        · subst c10
          have H1 : (some true) = some r := by rw [if_pos rfl] at H; exact H
          clear H
          have H := H1
          clear H1
          obtain rfl := Option.some.inj H
          go_wp2
          go_ret
          exact ⟨by first | rfl | (simp [errW_none, errW_some] <;> rfl) | (simp [*, errW_none, errW_some] <;> rfl), by repeat (first | (with_reducible first | exact HB.out | apply below_alloc | apply pw_below_drewN | apply below_drew1) | exact HB.out)⟩
        · replace c10 := Bool.eq_false_iff.mpr c10
          subst c10
          have H1 : (if (wrap64 ((l0.length : Int) / 2)) = 0 then (none) else ((bailiwickref1_Copy.f kj5 l0).bind fun t129 => (if 0 ≤ (wrap64 ((Int.tmod (wrap64 ((Int.tmod a2 (wrap64 ((l0.length : Int) / 2))) + (wrap64 ((l0.length : Int) / 2)))) (wrap64 ((l0.length : Int) / 2))) * 2)) then (if (wrap64 ((Int.tmod (wrap64 ((Int.tmod a2 (wrap64 ((l0.length : Int) / 2))) + (wrap64 ((l0.length : Int) / 2)))) (wrap64 ((l0.length : Int) / 2))) * 2)) < (t129.length : Int) then (if 0 ≤ (wrap64 ((wrap64 ((Int.tmod (wrap64 ((Int.tmod a2 (wrap64 ((l0.length : Int) / 2))) + (wrap64 ((l0.length : Int) / 2)))) (wrap64 ((l0.length : Int) / 2))) * 2)) + 1)) then (if (wrap64 ((wrap64 ((Int.tmod (wrap64 ((Int.tmod a2 (wrap64 ((l0.length : Int) / 2))) + (wrap64 ((l0.length : Int) / 2)))) (wrap64 ((l0.length : Int) / 2))) * 2)) + 1)) < (t129.length : Int) then (if 0 ≤ (wrap64 ((Int.tmod (wrap64 ((Int.tmod a1 (wrap64 ((l0.length : Int) / 2))) + (wrap64 ((l0.length : Int) / 2)))) (wrap64 ((l0.length : Int) / 2))) * 2)) then (if (wrap64 ((Int.tmod (wrap64 ((Int.tmod a1 (wrap64 ((l0.length : Int) / 2))) + (wrap64 ((l0.length : Int) / 2)))) (wrap64 ((l0.length : Int) / 2))) * 2)) < (t129.length : Int) then (if 0 ≤ (wrap64 ((wrap64 ((Int.tmod (wrap64 ((Int.tmod a1 (wrap64 ((l0.length : Int) / 2))) + (wrap64 ((l0.length : Int) / 2)))) (wrap64 ((l0.length : Int) / 2))) * 2)) + 1)) then (if (wrap64 ((wrap64 ((Int.tmod (wrap64 ((Int.tmod a1 (wrap64 ((l0.length : Int) / 2))) + (wrap64 ((l0.length : Int) / 2)))) (wrap64 ((l0.length : Int) / 2))) * 2)) + 1)) < (t129.length : Int) then ((bailiwickref1_Copy.f kj5 l0).bind fun t140 => (bailiwicklaw1_OctetSwaps.l0 kj5 l0 ((((t129.set ((wrap64 ((Int.tmod (wrap64 ((Int.tmod a1 (wrap64 ((l0.length : Int) / 2))) + (wrap64 ((l0.length : Int) / 2)))) (wrap64 ((l0.length : Int) / 2))) * 2)) : Int).toNat (rd t129 (wrap64 ((Int.tmod (wrap64 ((Int.tmod a2 (wrap64 ((l0.length : Int) / 2))) + (wrap64 ((l0.length : Int) / 2)))) (wrap64 ((l0.length : Int) / 2))) * 2)))).set ((wrap64 ((wrap64 ((Int.tmod (wrap64 ((Int.tmod a1 (wrap64 ((l0.length : Int) / 2))) + (wrap64 ((l0.length : Int) / 2)))) (wrap64 ((l0.length : Int) / 2))) * 2)) + 1)) : Int).toNat (rd t129 (wrap64 ((wrap64 ((Int.tmod (wrap64 ((Int.tmod a2 (wrap64 ((l0.length : Int) / 2))) + (wrap64 ((l0.length : Int) / 2)))) (wrap64 ((l0.length : Int) / 2))) * 2)) + 1)))).set ((wrap64 ((Int.tmod (wrap64 ((Int.tmod a2 (wrap64 ((l0.length : Int) / 2))) + (wrap64 ((l0.length : Int) / 2)))) (wrap64 ((l0.length : Int) / 2))) * 2)) : Int).toNat (rd t129 (wrap64 ((Int.tmod (wrap64 ((Int.tmod a1 (wrap64 ((l0.length : Int) / 2))) + (wrap64 ((l0.length : Int) / 2)))) (wrap64 ((l0.length : Int) / 2))) * 2)))).set ((wrap64 ((wrap64 ((Int.tmod (wrap64 ((Int.tmod a2 (wrap64 ((l0.length : Int) / 2))) + (wrap64 ((l0.length : Int) / 2)))) (wrap64 ((l0.length : Int) / 2))) * 2)) + 1)) : Int).toNat (rd t129 (wrap64 ((wrap64 ((Int.tmod (wrap64 ((Int.tmod a1 (wrap64 ((l0.length : Int) / 2))) + (wrap64 ((l0.length : Int) / 2)))) (wrap64 ((l0.length : Int) / 2))) * 2)) + 1)))) t140 0)) else (none)) else (none)) else (none)) else (none)) else (none)) else (none)) else (none)) else (none)))) = some r := by rw [if_neg (show ¬ (false = true) by decide)] at H; exact H
          clear H
          have H := H1
          clear H1
          by_cases c11 : (wrap64 ((l0.length : Int) / 2)) = 0
          · rw [if_pos c11] at H
            exact absurd H (by simp)
          · rw [if_neg c11] at H
            have c11b0 : ((wrap64 ((l0.length : Int) / 2)) == 0) = false := beq_eq_false_iff_ne.mpr c11
            have c11b1 : ((wrap64 ((l0.length : Int) / 2)) != 0) = true := bne_iff_ne.mpr c11
            replace H := Option.bind_eq_some_iff.mp H
            obtain ⟨t129, A120, H⟩ := H
            replace H : (if 0 ≤ (wrap64 ((Int.tmod (wrap64 ((Int.tmod a2 (wrap64 ((l0.length : Int) / 2))) + (wrap64 ((l0.length : Int) / 2)))) (wrap64 ((l0.length : Int) / 2))) * 2)) then (if (wrap64 ((Int.tmod (wrap64 ((Int.tmod a2 (wrap64 ((l0.length : Int) / 2))) + (wrap64 ((l0.length : Int) / 2)))) (wrap64 ((l0.length : Int) / 2))) * 2)) < (t129.length : Int) then (if 0 ≤ (wrap64 ((wrap64 ((Int.tmod (wrap64 ((Int.tmod a2 (wrap64 ((l0.length : Int) / 2))) + (wrap64 ((l0.length : Int) / 2)))) (wrap64 ((l0.length : Int) / 2))) * 2)) + 1)) then (if (wrap64 ((wrap64 ((Int.tmod (wrap64 ((Int.tmod a2 (wrap64 ((l0.length : Int) / 2))) + (wrap64 ((l0.length : Int) / 2)))) (wrap64 ((l0.length : Int) / 2))) * 2)) + 1)) < (t129.length : Int) then (if 0 ≤ (wrap64 ((Int.tmod (wrap64 ((Int.tmod a1 (wrap64 ((l0.length : Int) / 2))) + (wrap64 ((l0.length : Int) / 2)))) (wrap64 ((l0.length : Int) / 2))) * 2)) then (if (wrap64 ((Int.tmod (wrap64 ((Int.tmod a1 (wrap64 ((l0.length : Int) / 2))) + (wrap64 ((l0.length : Int) / 2)))) (wrap64 ((l0.length : Int) / 2))) * 2)) < (t129.length : Int) then (if 0 ≤ (wrap64 ((wrap64 ((Int.tmod (wrap64 ((Int.tmod a1 (wrap64 ((l0.length : Int) / 2))) + (wrap64 ((l0.length : Int) / 2)))) (wrap64 ((l0.length : Int) / 2))) * 2)) + 1)) then (if (wrap64 ((wrap64 ((Int.tmod (wrap64 ((Int.tmod a1 (wrap64 ((l0.length : Int) / 2))) + (wrap64 ((l0.length : Int) / 2)))) (wrap64 ((l0.length : Int) / 2))) * 2)) + 1)) < (t129.length : Int) then ((bailiwickref1_Copy.f kj5 l0).bind fun t140 => (bailiwicklaw1_OctetSwaps.l0 kj5 l0 ((((t129.set ((wrap64 ((Int.tmod (wrap64 ((Int.tmod a1 (wrap64 ((l0.length : Int) / 2))) + (wrap64 ((l0.length : Int) / 2)))) (wrap64 ((l0.length : Int) / 2))) * 2)) : Int).toNat (rd t129 (wrap64 ((Int.tmod (wrap64 ((Int.tmod a2 (wrap64 ((l0.length : Int) / 2))) + (wrap64 ((l0.length : Int) / 2)))) (wrap64 ((l0.length : Int) / 2))) * 2)))).set ((wrap64 ((wrap64 ((Int.tmod (wrap64 ((Int.tmod a1 (wrap64 ((l0.length : Int) / 2))) + (wrap64 ((l0.length : Int) / 2)))) (wrap64 ((l0.length : Int) / 2))) * 2)) + 1)) : Int).toNat (rd t129 (wrap64 ((wrap64 ((Int.tmod (wrap64 ((Int.tmod a2 (wrap64 ((l0.length : Int) / 2))) + (wrap64 ((l0.length : Int) / 2)))) (wrap64 ((l0.length : Int) / 2))) * 2)) + 1)))).set ((wrap64 ((Int.tmod (wrap64 ((Int.tmod a2 (wrap64 ((l0.length : Int) / 2))) + (wrap64 ((l0.length : Int) / 2)))) (wrap64 ((l0.length : Int) / 2))) * 2)) : Int).toNat (rd t129 (wrap64 ((Int.tmod (wrap64 ((Int.tmod a1 (wrap64 ((l0.length : Int) / 2))) + (wrap64 ((l0.length : Int) / 2)))) (wrap64 ((l0.length : Int) / 2))) * 2)))).set ((wrap64 ((wrap64 ((Int.tmod (wrap64 ((Int.tmod a2 (wrap64 ((l0.length : Int) / 2))) + (wrap64 ((l0.length : Int) / 2)))) (wrap64 ((l0.length : Int) / 2))) * 2)) + 1)) : Int).toNat (rd t129 (wrap64 ((wrap64 ((Int.tmod (wrap64 ((Int.tmod a1 (wrap64 ((l0.length : Int) / 2))) + (wrap64 ((l0.length : Int) / 2)))) (wrap64 ((l0.length : Int) / 2))) * 2)) + 1)))) t140 0)) else (none)) else (none)) else (none)) else (none)) else (none)) else (none)) else (none)) else (none)) = some r := H
            have A12 := Aside0.mk A120
            clear A120
            obtain ⟨ji13, hji13⟩ : ∃ j_ : Int, (wrap64 ((Int.tmod (wrap64 ((Int.tmod a2 (wrap64 ((l0.length : Int) / 2))) + (wrap64 ((l0.length : Int) / 2)))) (wrap64 ((l0.length : Int) / 2))) * 2)) = j_ := ⟨_, rfl⟩
            replace H : (if 0 ≤ (ji13) then (if (ji13) < (t129.length : Int) then (if 0 ≤ (wrap64 ((ji13) + 1)) then (if (wrap64 ((ji13) + 1)) < (t129.length : Int) then (if 0 ≤ (wrap64 ((Int.tmod (wrap64 ((Int.tmod a1 (wrap64 ((l0.length : Int) / 2))) + (wrap64 ((l0.length : Int) / 2)))) (wrap64 ((l0.length : Int) / 2))) * 2)) then (if (wrap64 ((Int.tmod (wrap64 ((Int.tmod a1 (wrap64 ((l0.length : Int) / 2))) + (wrap64 ((l0.length : Int) / 2)))) (wrap64 ((l0.length : Int) / 2))) * 2)) < (t129.length : Int) then (if 0 ≤ (wrap64 ((wrap64 ((Int.tmod (wrap64 ((Int.tmod a1 (wrap64 ((l0.length : Int) / 2))) + (wrap64 ((l0.length : Int) / 2)))) (wrap64 ((l0.length : Int) / 2))) * 2)) + 1)) then (if (wrap64 ((wrap64 ((Int.tmod (wrap64 ((Int.tmod a1 (wrap64 ((l0.length : Int) / 2))) + (wrap64 ((l0.length : Int) / 2)))) (wrap64 ((l0.length : Int) / 2))) * 2)) + 1)) < (t129.length : Int) then ((bailiwickref1_Copy.f kj5 l0).bind fun t140 => (bailiwicklaw1_OctetSwaps.l0 kj5 l0 ((((t129.set ((wrap64 ((Int.tmod (wrap64 ((Int.tmod a1 (wrap64 ((l0.length : Int) / 2))) + (wrap64 ((l0.length : Int) / 2)))) (wrap64 ((l0.length : Int) / 2))) * 2)) : Int).toNat (rd t129 (ji13))).set ((wrap64 ((wrap64 ((Int.tmod (wrap64 ((Int.tmod a1 (wrap64 ((l0.length : Int) / 2))) + (wrap64 ((l0.length : Int) / 2)))) (wrap64 ((l0.length : Int) / 2))) * 2)) + 1)) : Int).toNat (rd t129 (wrap64 ((ji13) + 1)))).set ((ji13) : Int).toNat (rd t129 (wrap64 ((Int.tmod (wrap64 ((Int.tmod a1 (wrap64 ((l0.length : Int) / 2))) + (wrap64 ((l0.length : Int) / 2)))) (wrap64 ((l0.length : Int) / 2))) * 2)))).set ((wrap64 ((ji13) + 1)) : Int).toNat (rd t129 (wrap64 ((wrap64 ((Int.tmod (wrap64 ((Int.tmod a1 (wrap64 ((l0.length : Int) / 2))) + (wrap64 ((l0.length : Int) / 2)))) (wrap64 ((l0.length : Int) / 2))) * 2)) + 1)))) t140 0)) else (none)) else (none)) else (none)) else (none)) else (none)) else (none)) else (none)) else (none)) = some r := by first | (rw [hji13] at H; exact H) | (simp only [hji13] at H ⊢; exact H)
            (try rw [hji13] at A12)
            have hji13w : (IntKind.i64.wrap ((Int.tmod (wrap64 ((Int.tmod a2 (wrap64 ((l0.length : Int) / 2))) + (wrap64 ((l0.length : Int) / 2)))) (wrap64 ((l0.length : Int) / 2))) * 2)) = ji13 := (i64_w _).trans hji13
            by_cases c14 : 0 ≤ (ji13)
            · rw [if_pos c14] at H
              have c14b0 : decide (0 ≤ (ji13)) = true := decide_eq_true c14
              clear c14
              by_cases c15 : (ji13) < (t129.length : Int)
              · rw [if_pos c15] at H
                have c15b0 : decide ((ji13) < (t129.length : Int)) = true := decide_eq_true c15
                clear c15
                obtain ⟨ji16, hji16⟩ : ∃ j_ : Int, (wrap64 ((ji13) + 1)) = j_ := ⟨_, rfl⟩
                replace H : (if 0 ≤ (ji16) then (if (ji16) < (t129.length : Int) then (if 0 ≤ (wrap64 ((Int.tmod (wrap64 ((Int.tmod a1 (wrap64 ((l0.length : Int) / 2))) + (wrap64 ((l0.length : Int) / 2)))) (wrap64 ((l0.length : Int) / 2))) * 2)) then (if (wrap64 ((Int.tmod (wrap64 ((Int.tmod a1 (wrap64 ((l0.length : Int) / 2))) + (wrap64 ((l0.length : Int) / 2)))) (wrap64 ((l0.length : Int) / 2))) * 2)) < (t129.length : Int) then (if 0 ≤ (wrap64 ((wrap64 ((Int.tmod (wrap64 ((Int.tmod a1 (wrap64 ((l0.length : Int) / 2))) + (wrap64 ((l0.length : Int) / 2)))) (wrap64 ((l0.length : Int) / 2))) * 2)) + 1)) then (if (wrap64 ((wrap64 ((Int.tmod (wrap64 ((Int.tmod a1 (wrap64 ((l0.length : Int) / 2))) + (wrap64 ((l0.length : Int) / 2)))) (wrap64 ((l0.length : Int) / 2))) * 2)) + 1)) < (t129.length : Int) then ((bailiwickref1_Copy.f kj5 l0).bind fun t140 => (bailiwicklaw1_OctetSwaps.l0 kj5 l0 ((((t129.set ((wrap64 ((Int.tmod (wrap64 ((Int.tmod a1 (wrap64 ((l0.length : Int) / 2))) + (wrap64 ((l0.length : Int) / 2)))) (wrap64 ((l0.length : Int) / 2))) * 2)) : Int).toNat (rd t129 (ji13))).set ((wrap64 ((wrap64 ((Int.tmod (wrap64 ((Int.tmod a1 (wrap64 ((l0.length : Int) / 2))) + (wrap64 ((l0.length : Int) / 2)))) (wrap64 ((l0.length : Int) / 2))) * 2)) + 1)) : Int).toNat (rd t129 (ji16))).set ((ji13) : Int).toNat (rd t129 (wrap64 ((Int.tmod (wrap64 ((Int.tmod a1 (wrap64 ((l0.length : Int) / 2))) + (wrap64 ((l0.length : Int) / 2)))) (wrap64 ((l0.length : Int) / 2))) * 2)))).set ((ji16) : Int).toNat (rd t129 (wrap64 ((wrap64 ((Int.tmod (wrap64 ((Int.tmod a1 (wrap64 ((l0.length : Int) / 2))) + (wrap64 ((l0.length : Int) / 2)))) (wrap64 ((l0.length : Int) / 2))) * 2)) + 1)))) t140 0)) else (none)) else (none)) else (none)) else (none)) else (none)) else (none)) = some r := by first | (rw [hji16] at H; exact H) | (simp only [hji16] at H ⊢; exact H)
                (try rw [hji16] at A12)
                have hji16w : (IntKind.i64.wrap ((ji13) + 1)) = ji16 := (i64_w _).trans hji16
                by_cases c17 : 0 ≤ (ji16)
                · rw [if_pos c17] at H
                  have c17b0 : decide (0 ≤ (ji16)) = true := decide_eq_true c17
                  clear c17
                  by_cases c18 : (ji16) < (t129.length : Int)
                  · rw [if_pos c18] at H
                    have c18b0 : decide ((ji16) < (t129.length : Int)) = true := decide_eq_true c18
                    clear c18
                    obtain ⟨ji19, hji19⟩ : ∃ j_ : Int, (wrap64 ((Int.tmod (wrap64 ((Int.tmod a1 (wrap64 ((l0.length : Int) / 2))) + (wrap64 ((l0.length : Int) / 2)))) (wrap64 ((l0.length : Int) / 2))) * 2)) = j_ := ⟨_, rfl⟩
                    replace H : (if 0 ≤ (ji19) then (if (ji19) < (t129.length : Int) then (if 0 ≤ (wrap64 ((ji19) + 1)) then (if (wrap64 ((ji19) + 1)) < (t129.length : Int) then ((bailiwickref1_Copy.f kj5 l0).bind fun t140 => (bailiwicklaw1_OctetSwaps.l0 kj5 l0 ((((t129.set ((ji19) : Int).toNat (rd t129 (ji13))).set ((wrap64 ((ji19) + 1)) : Int).toNat (rd t129 (ji16))).set ((ji13) : Int).toNat (rd t129 (ji19))).set ((ji16) : Int).toNat (rd t129 (wrap64 ((ji19) + 1)))) t140 0)) else (none)) else (none)) else (none)) else (none)) = some r := by first | (rw [hji19] at H; exact H) | (simp only [hji19] at H ⊢; exact H)
                    (try rw [hji19] at A12)
                    have hji19w : (IntKind.i64.wrap ((Int.tmod (wrap64 ((Int.tmod a1 (wrap64 ((l0.length : Int) / 2))) + (wrap64 ((l0.length : Int) / 2)))) (wrap64 ((l0.length : Int) / 2))) * 2)) = ji19 := (i64_w _).trans hji19
                    by_cases c20 : 0 ≤ (ji19)
                    · rw [if_pos c20] at H
                      have c20b0 : decide (0 ≤ (ji19)) = true := decide_eq_true c20
                      clear c20
                      by_cases c21 : (ji19) < (t129.length : Int)
                      · rw [if_pos c21] at H
                        have c21b0 : decide ((ji19) < (t129.length : Int)) = true := decide_eq_true c21
                        clear c21
                        obtain ⟨ji22, hji22⟩ : ∃ j_ : Int, (wrap64 ((ji19) + 1)) = j_ := ⟨_, rfl⟩
                        replace H : (if 0 ≤ (ji22) then (if (ji22) < (t129.length : Int) then ((bailiwickref1_Copy.f kj5 l0).bind fun t140 => (bailiwicklaw1_OctetSwaps.l0 kj5 l0 ((((t129.set ((ji19) : Int).toNat (rd t129 (ji13))).set ((ji22) : Int).toNat (rd t129 (ji16))).set ((ji13) : Int).toNat (rd t129 (ji19))).set ((ji16) : Int).toNat (rd t129 (ji22))) t140 0)) else (none)) else (none)) = some r := by first | (rw [hji22] at H; exact H) | (simp only [hji22] at H ⊢; exact H)
                        (try rw [hji22] at A12)
                        have hji22w : (IntKind.i64.wrap ((ji19) + 1)) = ji22 := (i64_w _).trans hji22
                        by_cases c23 : 0 ≤ (ji22)
                        · rw [if_pos c23] at H
                          have c23b0 : decide (0 ≤ (ji22)) = true := decide_eq_true c23
                          clear c23
                          by_cases c24 : (ji22) < (t129.length : Int)
                          · rw [if_pos c24] at H
                            have c24b0 : decide ((ji22) < (t129.length : Int)) = true := decide_eq_true c24
                            clear c24
                            obtain ⟨y136, hy136⟩ : ∃ y_ : List Int, y_ = (t129.set ((ji19) : Int).toNat (rd t129 (ji13))) := ⟨_, rfl⟩
                            replace H : ((bailiwickref1_Copy.f kj5 l0).bind fun t140 => (bailiwicklaw1_OctetSwaps.l0 kj5 l0 (((y136.set ((ji22) : Int).toNat (rd t129 (ji16))).set ((ji13) : Int).toNat (rd t129 (ji19))).set ((ji16) : Int).toNat (rd t129 (ji22))) t140 0)) = some r := by first | (rw [hy136]; with_reducible exact H) | (have H2_ := (Option.bind_some _ _).symm.trans H; rw [hy136]; with_reducible exact H2_) | (have H2_ := (Option.bind_some _ _).symm.trans H; with_reducible exact H2_) | with_reducible exact H | (rw [hy136]; exact H) | exact H
                            have Ny136 := Aside0.mk hy136
                            clear hy136
                            obtain ⟨y137, hy137⟩ : ∃ y_ : List Int, y_ = (y136.set ((ji22) : Int).toNat (rd t129 (ji16))) := ⟨_, rfl⟩
                            replace H : ((bailiwickref1_Copy.f kj5 l0).bind fun t140 => (bailiwicklaw1_OctetSwaps.l0 kj5 l0 ((y137.set ((ji13) : Int).toNat (rd t129 (ji19))).set ((ji16) : Int).toNat (rd t129 (ji22))) t140 0)) = some r := by first | (rw [hy137]; with_reducible exact H) | (have H2_ := (Option.bind_some _ _).symm.trans H; rw [hy137]; with_reducible exact H2_) | (have H2_ := (Option.bind_some _ _).symm.trans H; with_reducible exact H2_) | with_reducible exact H | (rw [hy137]; exact H) | exact H
                            have Ny137 := Aside0.mk hy137
                            clear hy137
                            obtain ⟨y138, hy138⟩ : ∃ y_ : List Int, y_ = (y137.set ((ji13) : Int).toNat (rd t129 (ji19))) := ⟨_, rfl⟩
                            replace H : ((bailiwickref1_Copy.f kj5 l0).bind fun t140 => (bailiwicklaw1_OctetSwaps.l0 kj5 l0 (y138.set ((ji16) : Int).toNat (rd t129 (ji22))) t140 0)) = some r := by first | (rw [hy138]; with_reducible exact H) | (have H2_ := (Option.bind_some _ _).symm.trans H; rw [hy138]; with_reducible exact H2_) | (have H2_ := (Option.bind_some _ _).symm.trans H; with_reducible exact H2_) | with_reducible exact H | (rw [hy138]; exact H) | exact H
                            have Ny138 := Aside0.mk hy138
                            clear hy138
                            obtain ⟨y139, hy139⟩ : ∃ y_ : List Int, y_ = (y138.set ((ji16) : Int).toNat (rd t129 (ji22))) := ⟨_, rfl⟩
                            replace H : ((bailiwickref1_Copy.f kj5 l0).bind fun t140 => (bailiwicklaw1_OctetSwaps.l0 kj5 l0 y139 t140 0)) = some r := by first | (rw [hy139]; with_reducible exact H) | (have H2_ := (Option.bind_some _ _).symm.trans H; rw [hy139]; with_reducible exact H2_) | (have H2_ := (Option.bind_some _ _).symm.trans H; with_reducible exact H2_) | with_reducible exact H | (rw [hy139]; exact H) | exact H
                            have Ny139 := Aside0.mk hy139
                            clear hy139
                            replace H := Option.bind_eq_some_iff.mp H
                            obtain ⟨t140, A290, H⟩ := H
                            replace H : (bailiwicklaw1_OctetSwaps.l0 kj5 l0 y139 t140 0) = some r := H
                            have A29 := Aside0.mk A290
                            clear A290
                            have H' := Aside0.mk H
                            clear H
                            try go_wp2_with (first | ((with_reducible refine gate_callee (f := 25) rfl ?_); refine goesL_ (some 48) rfl rfl Try.func25 (by kernel_rfl) rfl #[.slice A0 l0.length c0] rfl (by (try simp only [List.map_toArray, List.map_cons, List.map_nil]); first | done | rfl | (simp only [List.length_drop, List.length_take]; rfl)) ?_; (with_reducible refine (bailiwickref1_Copy.calls kj5 _ _ l0 t129 _ ?side1 ?side2 A12.out).mono ?_); (case side1 => repeat (first | exact (Kd.C_below HR0.out HB.out) | (with_reducible refine Kd.C_alloc ?_ _) | (with_reducible refine Kd.C_drewN ?_ _) | (with_reducible refine Kd.C_drew ?_))); (case side2 => exact HC0.out); rintro e w30 ⟨v130, rfl, ho0, hb⟩; refine ⟨_, rfl, ?_⟩; have n0_ := Aside0.mk (Kd.R_lower ho0 (below_size (by repeat (first | (with_reducible first | exact HB.out | apply below_alloc | apply pw_below_drewN | apply below_drew1) | exact HB.out)))); have n1_ := Aside0.mk (below_step (by repeat (first | (with_reducible first | exact HB.out | apply below_alloc | apply pw_below_drewN | apply below_drew1) | exact HB.out)) hb); clear HB; have HO131 := n0_; have HB := n1_; clear n0_ n1_; (try clear hb); (try clear hb2); (try clear hk); (try clear hi); (try clear ho0)))
                            have n0_ := Aside0.mk (Kd.R_drew HO131.out)
                            have n1_ := Aside0.mk (below_drew1 HB.out)
                            clear HO131
                            clear HB
                            have HO131 := n0_
                            have HB := n1_
                            clear n0_ n1_
                            obtain ⟨Ao32, co32, eo32⟩ := Kd.R_slice HO131.out
                            (first | subst eo32 | (injection eo32 with f1_ f2_ f3_; have f4_ := f1_.symm; have f5_ := f3_.symm; clear f1_ f2_ f3_; subst f4_; subst f5_))
                            have p132 : 0 ≤ ((ji13) : Int) := of_decide_eq_true (by first | (with_reducible assumption) | assumption)
                            have q132 : (ji13) < (t129.length : Int) := of_decide_eq_true (by first | (with_reducible assumption) | assumption)
                            obtain ⟨ad132, e132, hx132_0⟩ := Kd.at_int (Kd.R_reads' HO131.out).2.2 (ji13) p132 q132
                            cases e132
                            replace p132 := eq_true p132
                            replace q132 := eq_true q132
                            have p133 : 0 ≤ ((ji16) : Int) := of_decide_eq_true (by first | (with_reducible assumption) | assumption)
                            have q133 : (ji16) < (t129.length : Int) := of_decide_eq_true (by first | (with_reducible assumption) | assumption)
                            obtain ⟨ad133, e133, hx133_0⟩ := Kd.at_int (Kd.R_reads' HO131.out).2.2 (ji16) p133 q133
                            obtain rfl : ad132 = ad133 := (by injection e133)
                            replace p133 := eq_true p133
                            replace q133 := eq_true q133
                            have p134 : 0 ≤ ((ji19) : Int) := of_decide_eq_true (by first | (with_reducible assumption) | assumption)
                            have q134 : (ji19) < (t129.length : Int) := of_decide_eq_true (by first | (with_reducible assumption) | assumption)
                            obtain ⟨ad134, e134, hx134_0⟩ := Kd.at_int (Kd.R_reads' HO131.out).2.2 (ji19) p134 q134
                            obtain rfl : ad132 = ad134 := (by injection e134)
                            replace p134 := eq_true p134
                            replace q134 := eq_true q134
                            have p135 : 0 ≤ ((ji22) : Int) := of_decide_eq_true (by first | (with_reducible assumption) | assumption)
                            have q135 : (ji22) < (t129.length : Int) := of_decide_eq_true (by first | (with_reducible assumption) | assumption)
                            obtain ⟨ad135, e135, hx135_0⟩ := Kd.at_int (Kd.R_reads' HO131.out).2.2 (ji22) p135 q135
                            obtain rfl : ad132 = ad135 := (by injection e135)
                            replace p135 := eq_true p135
                            replace q135 := eq_true q135
                            have p25 : 0 ≤ ((ji19) : Int) := of_decide_eq_true (by first | (with_reducible assumption) | assumption)
                            have q25 : ((ji19) : Int) < ((t129.length : Int) : Int) := of_decide_eq_true (by first | (with_reducible assumption) | assumption)
                            obtain ⟨go25, co25, eo25, gb25, gl25, cl25, HG25⟩ := Kd.R_form HO131.out (by omega)
                            (first | cases eo25 | (injection eo25 with ea_ en_ ec_; (first | subst ea_ | (injection ea_ with ea_; subst ea_)); subst ec_; clear en_))
                            have GB25 := Aside0.mk gb25
                            have GG25 := Aside0.mk HG25
                            clear gb25 gl25 HG25
                            (first | simp only [add_plain] at hx132_0 | skip)
                            (first | simp only [add_plain] at hx133_0 | skip)
                            (first | simp only [add_plain] at hx134_0 | skip)
                            (first | simp only [add_plain] at hx135_0 | skip)
                            obtain ⟨hx25_0, hf25_0⟩ := Kd.R_celln 0 HO131.out ((ji19) : Int) p25 q25
                            replace p25 := eq_true p25
                            replace q25 := eq_true q25
                            have HP33 := Kd.R_putn HO131.out ((ji19) : Int) (rd t129 (ji13))
                            rw [← Ny136.out] at HP33
                            have HQ33 := Aside0.mk HP33
                            clear HP33
                            have p26 : 0 ≤ ((ji22) : Int) := of_decide_eq_true (by first | (with_reducible assumption) | assumption)
                            have q26 : ((ji22) : Int) < ((t129.length : Int) : Int) := of_decide_eq_true (by first | (with_reducible assumption) | assumption)
                            obtain ⟨hx26_0, hf26_0⟩ := Kd.R_celln 0 HQ33.out ((ji22) : Int) p26 q26
                            replace p26 := eq_true p26
                            replace q26 := eq_true q26
                            have HP34 := Kd.R_putn HQ33.out ((ji22) : Int) (rd t129 (ji16))
                            rw [← Ny137.out] at HP34
                            have HQ34 := Aside0.mk HP34
                            clear HP34
                            have p27 : 0 ≤ ((ji13) : Int) := of_decide_eq_true (by first | (with_reducible assumption) | assumption)
                            have q27 : ((ji13) : Int) < ((t129.length : Int) : Int) := of_decide_eq_true (by first | (with_reducible assumption) | assumption)
                            obtain ⟨hx27_0, hf27_0⟩ := Kd.R_celln 0 HQ34.out ((ji13) : Int) p27 q27
                            replace p27 := eq_true p27
                            replace q27 := eq_true q27
                            have HP35 := Kd.R_putn HQ34.out ((ji13) : Int) (rd t129 (ji19))
                            rw [← Ny138.out] at HP35
                            have HQ35 := Aside0.mk HP35
                            clear HP35
                            have p28 : 0 ≤ ((ji16) : Int) := of_decide_eq_true (by first | (with_reducible assumption) | assumption)
                            have q28 : ((ji16) : Int) < ((t129.length : Int) : Int) := of_decide_eq_true (by first | (with_reducible assumption) | assumption)
                            obtain ⟨hx28_0, hf28_0⟩ := Kd.R_celln 0 HQ35.out ((ji16) : Int) p28 q28
                            replace p28 := eq_true p28
                            replace q28 := eq_true q28
                            have HP36 := Kd.R_putn HQ35.out ((ji16) : Int) (rd t129 (ji22))
                            rw [← Ny139.out] at HP36
                            have HQ36 := Aside0.mk HP36
                            clear HP36
                            refine start_ (n := 36) (S := fun w' => w'.cell? ⟨go25, ((ji13)).toNat, none⟩ = some (.int .u8 (rd t129 (ji13))) ∧ w'.cell? ⟨go25, ((ji16)).toNat, none⟩ = some (.int .u8 (rd t129 (ji16))) ∧ w'.cell? ⟨go25, ((ji19)).toNat, none⟩ = some (.int .u8 (rd t129 (ji19))) ∧ w'.cell? ⟨go25, ((ji22)).toNat, none⟩ = some (.int .u8 (rd t129 (ji22)))) (ds := [29, 31, 33, 35]) #[false, false, false, false, false, false, false, false, false, false, false, false, false, false, false, false, false, false, false, false, false, false, false, false, false, false, false, false, false, false, false, false, false, false, false, false] (by kernel_rfl) rfl rfl ⟨hx132_0, hx133_0, hx134_0, hx135_0⟩ (fun hHeld => ?_); refine with_tabW bailiwicklaw1_OctetSwaps.tab9 bailiwicklaw1_OctetSwaps.bits9 (fun HT_ HW_ => ?_)
                            generalize w30.drew = w31 at HO131 HB GG25 HQ33 HQ34 HQ35 HQ36 hf25_0 hf26_0 hf27_0 hf28_0 hx132_0 hx133_0 hx134_0 hx135_0 hx25_0 hx26_0 hx27_0 hx28_0 hHeld ⊢
                            refine pure_ (i := 0) (N := some 49) (v := ?_) (a' := ?_) #[true, false, false, false, false, false, false, false, false, false, false, false, false, false, false, false, false, false, false, false, false, false, false, false, false, false, false, false, false, false, false, false, false, false, false, false] rfl rfl (any_of HT_.out (by kernel_rfl)) (fun _ _ _ h => h) (Or.inl ⟨by rfl, ?_⟩) ?_ ?_
                            rotate_left
                            · intro w'
                              go_simp
                              with_reducible rfl
                            rotate_left
                            · simp only [Act.put, List.setIfInBounds_toArray, List.set_cons_zero, List.set_cons_succ, i64_w, i32_w]
                              rfl
                            refine pure_ (i := 1) (N := some 50) (v := ?_) (a' := ?_) #[true, true, false, false, false, false, false, false, false, false, false, false, false, false, false, false, false, false, false, false, false, false, false, false, false, false, false, false, false, false, false, false, false, false, false, false] rfl rfl (any_of HT_.out (by kernel_rfl)) (fun _ _ _ h => h) (Or.inl ⟨by rfl, ?_⟩) ?_ ?_
                            rotate_left
                            · intro w'
                              go_simp
                              with_reducible rfl
                            rotate_left
                            · simp only [Act.put, List.setIfInBounds_toArray, List.set_cons_zero, List.set_cons_succ, i64_w, i32_w]
                              rfl
                            refine pure_ (i := 2) (N := some 51) (v := ?_) (a' := ?_) #[true, true, true, false, false, false, false, false, false, false, false, false, false, false, false, false, false, false, false, false, false, false, false, false, false, false, false, false, false, false, false, false, false, false, false, false] rfl rfl (any_of HT_.out (by kernel_rfl)) (fun _ _ _ h => h) (Or.inl ⟨by rfl, ?_⟩) ?_ ?_
                            rotate_left
                            · intro w'
                              go_simp
                              with_reducible rfl
                            rotate_left
                            · simp only [Act.put, List.setIfInBounds_toArray, List.set_cons_zero, List.set_cons_succ, i64_w, i32_w]
                              rfl
                            refine pure_ (i := 3) (N := some 52) (v := ?_) (a' := ?_) #[true, true, true, true, false, false, false, false, false, false, false, false, false, false, false, false, false, false, false, false, false, false, false, false, false, false, false, false, false, false, false, false, false, false, false, false] rfl rfl (any_of HT_.out (by kernel_rfl)) (fun _ _ _ h => h) (Or.inl ⟨by rfl, ?_⟩) ?_ ?_
                            rotate_left
                            · intro w'
                              go_simp
                              with_reducible rfl
                            rotate_left
                            · simp only [Act.put, List.setIfInBounds_toArray, List.set_cons_zero, List.set_cons_succ, i64_w, i32_w]
                              rfl
                            refine pure_ (i := 4) (N := some 53) (v := ?_) (a' := ?_) #[true, true, true, true, true, false, false, false, false, false, false, false, false, false, false, false, false, false, false, false, false, false, false, false, false, false, false, false, false, false, false, false, false, false, false, false] rfl rfl (any_of HT_.out (by kernel_rfl)) (fun _ _ _ h => h) (Or.inl ⟨by rfl, ?_⟩) ?_ ?_
                            rotate_left
                            · intro w'
                              go_simp
                              with_reducible rfl
                            rotate_left
                            · simp only [Act.put, List.setIfInBounds_toArray, List.set_cons_zero, List.set_cons_succ, i64_w, i32_w]
                              rfl
                            refine pure_ (i := 5) (N := some 54) (v := ?_) (a' := ?_) #[true, true, true, true, true, true, false, false, false, false, false, false, false, false, false, false, false, false, false, false, false, false, false, false, false, false, false, false, false, false, false, false, false, false, false, false] rfl rfl (any_of HT_.out (by kernel_rfl)) (fun _ _ _ h => h) (Or.inl ⟨by rfl, ?_⟩) ?_ ?_
                            rotate_left
                            · intro w'
                              go_simp
                              with_reducible rfl
                            rotate_left
                            · simp only [Act.put, List.setIfInBounds_toArray, List.set_cons_zero, List.set_cons_succ, i64_w, i32_w]
                              rfl
                            refine pure_ (i := 6) (N := some 55) (v := ?_) (a' := ?_) #[true, true, true, true, true, true, true, false, false, false, false, false, false, false, false, false, false, false, false, false, false, false, false, false, false, false, false, false, false, false, false, false, false, false, false, false] rfl rfl (any_of HT_.out (by kernel_rfl)) (fun _ _ _ h => h) (Or.inl ⟨by rfl, ?_⟩) ?_ ?_
                            rotate_left
                            · intro w'
                              go_simp
                              with_reducible rfl
                            rotate_left
                            · simp only [Act.put, List.setIfInBounds_toArray, List.set_cons_zero, List.set_cons_succ, i64_w, i32_w]
                              rfl
                            refine pure_ (i := 7) (N := some 56) (v := ?_) (a' := ?_) #[true, true, true, true, true, true, true, true, false, false, false, false, false, false, false, false, false, false, false, false, false, false, false, false, false, false, false, false, false, false, false, false, false, false, false, false] rfl rfl (any_of HT_.out (by kernel_rfl)) (fun _ _ _ h => h) (Or.inl ⟨by rfl, ?_⟩) ?_ ?_
                            rotate_left
                            · intro w'
                              go_simp
                              with_reducible rfl
                            rotate_left
                            · simp only [Act.put, List.setIfInBounds_toArray, List.set_cons_zero, List.set_cons_succ, i64_w, i32_w]
                              rfl
                            refine pure_ (i := 8) (N := some 57) (v := ?_) (a' := ?_) #[true, true, true, true, true, true, true, true, true, false, false, false, false, false, false, false, false, false, false, false, false, false, false, false, false, false, false, false, false, false, false, false, false, false, false, false] rfl rfl (any_of HT_.out (by kernel_rfl)) (fun _ _ _ h => h) (Or.inl ⟨by rfl, ?_⟩) ?_ ?_
                            rotate_left
                            · intro w'
                              go_simp
                              with_reducible rfl
                            rotate_left
                            · simp only [Act.put, List.setIfInBounds_toArray, List.set_cons_zero, List.set_cons_succ, i64_w, i32_w]
                              rfl
                            refine pure_ (i := 9) (N := some 58) (v := ?_) (a' := ?_) #[true, true, true, true, true, true, true, true, true, true, false, false, false, false, false, false, false, false, false, false, false, false, false, false, false, false, false, false, false, false, false, false, false, false, false, false] rfl rfl (any_of HT_.out (by kernel_rfl)) (fun _ _ _ h => h) (Or.inl ⟨by rfl, ?_⟩) ?_ ?_
                            rotate_left
                            · intro w'
                              go_simp
                              with_reducible rfl
                            rotate_left
                            · simp only [Act.put, List.setIfInBounds_toArray, List.set_cons_zero, List.set_cons_succ, i64_w, i32_w]
                              rfl
                            refine pure_ (i := 10) (N := some 59) (v := ?_) (a' := ?_) #[true, true, true, true, true, true, true, true, true, true, true, false, false, false, false, false, false, false, false, false, false, false, false, false, false, false, false, false, false, false, false, false, false, false, false, false] rfl rfl (any_of HT_.out (by kernel_rfl)) (fun _ _ _ h => h) (Or.inl ⟨by rfl, ?_⟩) ?_ ?_
                            rotate_left
                            · intro w'
                              go_simp
                              with_reducible rfl
                            rotate_left
                            · simp only [Act.put, List.setIfInBounds_toArray, List.set_cons_zero, List.set_cons_succ, i64_w, i32_w]
                              rfl
                            refine pure_ (i := 11) (N := some 60) (v := ?_) (a' := ?_) #[true, true, true, true, true, true, true, true, true, true, true, true, false, false, false, false, false, false, false, false, false, false, false, false, false, false, false, false, false, false, false, false, false, false, false, false] rfl rfl (any_of HT_.out (by kernel_rfl)) (fun _ _ _ h => h) (Or.inl ⟨by rfl, ?_⟩) ?_ ?_
                            rotate_left
                            · intro w'
                              go_simp
                              with_reducible rfl
                            rotate_left
                            · simp only [Act.put, List.setIfInBounds_toArray, List.set_cons_zero, List.set_cons_succ, i64_w, i32_w]
                              rfl
                            refine pure_ (i := 12) (N := some 61) (v := ?_) (a' := ?_) #[true, true, true, true, true, true, true, true, true, true, true, true, true, false, false, false, false, false, false, false, false, false, false, false, false, false, false, false, false, false, false, false, false, false, false, false] rfl rfl (any_of HT_.out (by kernel_rfl)) (fun _ _ _ h => h) (Or.inl ⟨by rfl, ?_⟩) ?_ ?_
                            rotate_left
                            · intro w'
                              go_simp
                              with_reducible rfl
                            rotate_left
                            · simp only [Act.put, List.setIfInBounds_toArray, List.set_cons_zero, List.set_cons_succ, i64_w, i32_w]
                              rfl
                            refine pure_ (i := 14) (N := some 63) (v := ?_) (a' := ?_) #[true, true, true, true, true, true, true, true, true, true, true, true, true, false, true, false, false, false, false, false, false, false, false, false, false, false, false, false, false, false, false, false, false, false, false, false] rfl rfl (any_of HT_.out (by kernel_rfl)) (fun _ _ _ h => h) (Or.inl ⟨by rfl, ?_⟩) ?_ ?_
                            rotate_left
                            · intro w'
                              go_simp
                              with_reducible rfl
                            rotate_left
                            · simp only [Act.put, List.setIfInBounds_toArray, List.set_cons_zero, List.set_cons_succ, i64_w, i32_w]
                              rfl
                            refine pure_ (i := 15) (N := some 64) (v := ?_) (a' := ?_) #[true, true, true, true, true, true, true, true, true, true, true, true, true, false, true, true, false, false, false, false, false, false, false, false, false, false, false, false, false, false, false, false, false, false, false, false] rfl rfl (any_of HT_.out (by kernel_rfl)) (fun _ _ _ h => h) (Or.inl ⟨by rfl, ?_⟩) ?_ ?_
                            rotate_left
                            · intro w'
                              go_simp
                              with_reducible rfl
                            rotate_left
                            · simp only [Act.put, List.setIfInBounds_toArray, List.set_cons_zero, List.set_cons_succ, i64_w, i32_w]
                              rfl
                            refine pure_ (i := 16) (N := some 65) (v := ?_) (a' := ?_) #[true, true, true, true, true, true, true, true, true, true, true, true, true, false, true, true, true, false, false, false, false, false, false, false, false, false, false, false, false, false, false, false, false, false, false, false] rfl rfl (any_of HT_.out (by kernel_rfl)) (fun _ _ _ h => h) (Or.inl ⟨by rfl, ?_⟩) ?_ ?_
                            rotate_left
                            · intro w'
                              go_simp
                              with_reducible rfl
                            rotate_left
                            · simp only [Act.put, List.setIfInBounds_toArray, List.set_cons_zero, List.set_cons_succ, i64_w, i32_w]
                              rfl
                            refine pure_ (i := 17) (N := some 66) (v := ?_) (a' := ?_) #[true, true, true, true, true, true, true, true, true, true, true, true, true, false, true, true, true, true, false, false, false, false, false, false, false, false, false, false, false, false, false, false, false, false, false, false] rfl rfl (any_of HT_.out (by kernel_rfl)) (fun _ _ _ h => h) (Or.inl ⟨by rfl, ?_⟩) ?_ ?_
                            rotate_left
                            · intro w'
                              go_simp
                              with_reducible rfl
                            rotate_left
                            · simp only [Act.put, List.setIfInBounds_toArray, List.set_cons_zero, List.set_cons_succ, i64_w, i32_w]
                              rfl
                            refine pure_ (i := 19) (N := some 68) (v := ?_) (a' := ?_) #[true, true, true, true, true, true, true, true, true, true, true, true, true, false, true, true, true, true, false, true, false, false, false, false, false, false, false, false, false, false, false, false, false, false, false, false] rfl rfl (any_of HT_.out (by kernel_rfl)) (fun _ _ _ h => h) (Or.inl ⟨by rfl, ?_⟩) ?_ ?_
                            rotate_left
                            · intro w'
                              go_simp
                              with_reducible rfl
                            rotate_left
                            · simp only [Act.put, List.setIfInBounds_toArray, List.set_cons_zero, List.set_cons_succ, i64_w, i32_w]
                              rfl
                            refine pure_ (i := 20) (N := some 69) (v := ?_) (a' := ?_) #[true, true, true, true, true, true, true, true, true, true, true, true, true, false, true, true, true, true, false, true, true, false, false, false, false, false, false, false, false, false, false, false, false, false, false, false] rfl rfl (any_of HT_.out (by kernel_rfl)) (fun _ _ _ h => h) (Or.inl ⟨by rfl, ?_⟩) ?_ ?_
                            rotate_left
                            · intro w'
                              go_simp
                              with_reducible rfl
                            rotate_left
                            · simp only [Act.put, List.setIfInBounds_toArray, List.set_cons_zero, List.set_cons_succ, i64_w, i32_w]
                              rfl
                            refine pure_ (i := 21) (N := some 70) (v := ?_) (a' := ?_) #[true, true, true, true, true, true, true, true, true, true, true, true, true, false, true, true, true, true, false, true, true, true, false, false, false, false, false, false, false, false, false, false, false, false, false, false] rfl rfl (any_of HT_.out (by kernel_rfl)) (fun _ _ _ h => h) (Or.inl ⟨by rfl, ?_⟩) ?_ ?_
                            rotate_left
                            · intro w'
                              go_simp
                              with_reducible rfl
                            rotate_left
                            · simp only [Act.put, List.setIfInBounds_toArray, List.set_cons_zero, List.set_cons_succ, i64_w, i32_w]
                              rfl
                            refine pure_ (i := 23) (N := some 72) (v := ?_) (a' := ?_) #[true, true, true, true, true, true, true, true, true, true, true, true, true, false, true, true, true, true, false, true, true, true, false, true, false, false, false, false, false, false, false, false, false, false, false, false] rfl rfl (any_of HT_.out (by kernel_rfl)) (fun _ _ _ h => h) (Or.inl ⟨by rfl, ?_⟩) ?_ ?_
                            rotate_left
                            · intro w'
                              go_simp
                              with_reducible rfl
                            rotate_left
                            · simp only [Act.put, List.setIfInBounds_toArray, List.set_cons_zero, List.set_cons_succ, i64_w, i32_w]
                              rfl
                            refine pure_ (i := 24) (N := some 73) (v := ?_) (a' := ?_) #[true, true, true, true, true, true, true, true, true, true, true, true, true, false, true, true, true, true, false, true, true, true, false, true, true, false, false, false, false, false, false, false, false, false, false, false] rfl rfl (any_of HT_.out (by kernel_rfl)) (fun _ _ _ h => h) (Or.inl ⟨by rfl, ?_⟩) ?_ ?_
                            rotate_left
                            · intro w'
                              go_simp
                              with_reducible rfl
                            rotate_left
                            · simp only [Act.put, List.setIfInBounds_toArray, List.set_cons_zero, List.set_cons_succ, i64_w, i32_w]
                              rfl
                            refine pure_ (i := 25) (N := some 74) (v := ?_) (a' := ?_) #[true, true, true, true, true, true, true, true, true, true, true, true, true, false, true, true, true, true, false, true, true, true, false, true, true, true, false, false, false, false, false, false, false, false, false, false] rfl rfl (any_of HT_.out (by kernel_rfl)) (fun _ _ _ h => h) (Or.inl ⟨by rfl, ?_⟩) ?_ ?_
                            rotate_left
                            · intro w'
                              go_simp
                              with_reducible rfl
                            rotate_left
                            · simp only [Act.put, List.setIfInBounds_toArray, List.set_cons_zero, List.set_cons_succ, i64_w, i32_w]
                              rfl
                            refine pure_ (i := 26) (N := some 75) (v := ?_) (a' := ?_) #[true, true, true, true, true, true, true, true, true, true, true, true, true, false, true, true, true, true, false, true, true, true, false, true, true, true, true, false, false, false, false, false, false, false, false, false] rfl rfl (any_of HT_.out (by kernel_rfl)) (fun _ _ _ h => h) (Or.inl ⟨by rfl, ?_⟩) ?_ ?_
                            rotate_left
                            · intro w'
                              go_simp
                              with_reducible rfl
                            rotate_left
                            · simp only [Act.put, List.setIfInBounds_toArray, List.set_cons_zero, List.set_cons_succ, i64_w, i32_w]
                              rfl
                            refine take_ (i := 13) (N := some 62) (v := ?_) (a' := ?_) #[true, true, true, true, true, true, true, true, true, true, true, true, true, true, true, true, true, true, false, true, true, true, false, true, true, true, true, false, false, false, false, false, false, false, false, false] rfl rfl (take_ofW HT_.out HW_.out (by kernel_rfl)) (fun _ _ _ h => h) (Or.inl ⟨by rfl, ?_⟩) hHeld ?_ ?_
                            rotate_left
                            · rintro w' ⟨s0, s1, s2, s3⟩
                              go_simp
                              with_reducible rfl
                            rotate_left
                            · simp only [Act.put, List.setIfInBounds_toArray, List.set_cons_zero, List.set_cons_succ, i64_w, i32_w]
                              rfl
                            refine take_ (i := 18) (N := some 67) (v := ?_) (a' := ?_) #[true, true, true, true, true, true, true, true, true, true, true, true, true, true, true, true, true, true, true, true, true, true, false, true, true, true, true, false, false, false, false, false, false, false, false, false] rfl rfl (take_ofW HT_.out HW_.out (by kernel_rfl)) (fun _ _ _ h => h) (Or.inl ⟨by rfl, ?_⟩) hHeld ?_ ?_
                            rotate_left
                            · rintro w' ⟨s0, s1, s2, s3⟩
                              go_simp
                              with_reducible rfl
                            rotate_left
                            · simp only [Act.put, List.setIfInBounds_toArray, List.set_cons_zero, List.set_cons_succ, i64_w, i32_w]
                              rfl
                            refine take_ (i := 22) (N := some 71) (v := ?_) (a' := ?_) #[true, true, true, true, true, true, true, true, true, true, true, true, true, true, true, true, true, true, true, true, true, true, true, true, true, true, true, false, false, false, false, false, false, false, false, false] rfl rfl (take_ofW HT_.out HW_.out (by kernel_rfl)) (fun _ _ _ h => h) (Or.inl ⟨by rfl, ?_⟩) hHeld ?_ ?_
                            rotate_left
                            · rintro w' ⟨s0, s1, s2, s3⟩
                              go_simp
                              with_reducible rfl
                            rotate_left
                            · simp only [Act.put, List.setIfInBounds_toArray, List.set_cons_zero, List.set_cons_succ, i64_w, i32_w]
                              rfl
                            refine take_ (i := 27) (N := some 76) (v := ?_) (a' := ?_) #[true, true, true, true, true, true, true, true, true, true, true, true, true, true, true, true, true, true, true, true, true, true, true, true, true, true, true, true, false, false, false, false, false, false, false, false] rfl rfl (take_ofW HT_.out HW_.out (by kernel_rfl)) (fun _ _ _ h => h) (Or.inl ⟨by rfl, ?_⟩) hHeld ?_ ?_
                            rotate_left
                            · rintro w' ⟨s0, s1, s2, s3⟩
                              go_simp
                              with_reducible rfl
                            rotate_left
                            · simp only [Act.put, List.setIfInBounds_toArray, List.set_cons_zero, List.set_cons_succ, i64_w, i32_w]
                              rfl
                            refine pure_ (i := 28) (N := some 77) (v := ?_) (a' := ?_) #[true, true, true, true, true, true, true, true, true, true, true, true, true, true, true, true, true, true, true, true, true, true, true, true, true, true, true, true, true, false, false, false, false, false, false, false] rfl rfl (any_of HT_.out (by kernel_rfl)) (fun _ _ _ h => h) (Or.inl ⟨by rfl, ?_⟩) ?_ ?_
                            rotate_left
                            · intro w'
                              go_simp
                              with_reducible rfl
                            rotate_left
                            · simp only [Act.put, List.setIfInBounds_toArray, List.set_cons_zero, List.set_cons_succ, i64_w, i32_w]
                              rfl
                            refine last_ (i := 29) (N := none) #[true, true, true, true, true, true, true, true, true, true, true, true, true, true, true, true, true, true, true, true, true, true, true, true, true, true, true, true, true, true, false, false, false, false, false, false] rfl rfl (one_of HT_.out (by kernel_rfl)) (by decide) (fun K hK => ?_)
                            refine skip_ (w1 := ?_) (by rfl) rfl ?_ ?_
                            rotate_left
                            · go_simp
                              rfl
                            refine hK.out _ _ ?_
                            clear hK K
                            refine pure_ (i := 30) (N := some 78) (v := ?_) (a' := ?_) #[true, true, true, true, true, true, true, true, true, true, true, true, true, true, true, true, true, true, true, true, true, true, true, true, true, true, true, true, true, true, true, false, false, false, false, false] rfl rfl (any_of HT_.out (by kernel_rfl)) (fun _ _ _ h => h) (Or.inl ⟨by rfl, ?_⟩) ?_ ?_
                            rotate_left
                            · intro w'
                              go_simp
                              with_reducible rfl
                            rotate_left
                            · simp only [Act.put, List.setIfInBounds_toArray, List.set_cons_zero, List.set_cons_succ, i64_w, i32_w]
                              rfl
                            refine last_ (i := 31) (N := none) #[true, true, true, true, true, true, true, true, true, true, true, true, true, true, true, true, true, true, true, true, true, true, true, true, true, true, true, true, true, true, true, true, false, false, false, false] rfl rfl (one_of HT_.out (by kernel_rfl)) (by decide) (fun K hK => ?_)
                            refine skip_ (w1 := ?_) (by rfl) rfl ?_ ?_
                            rotate_left
                            · go_simp
                              rfl
                            refine hK.out _ _ ?_
                            clear hK K
                            refine pure_ (i := 32) (N := some 79) (v := ?_) (a' := ?_) #[true, true, true, true, true, true, true, true, true, true, true, true, true, true, true, true, true, true, true, true, true, true, true, true, true, true, true, true, true, true, true, true, true, false, false, false] rfl rfl (any_of HT_.out (by kernel_rfl)) (fun _ _ _ h => h) (Or.inl ⟨by rfl, ?_⟩) ?_ ?_
                            rotate_left
                            · intro w'
                              go_simp
                              with_reducible rfl
                            rotate_left
                            · simp only [Act.put, List.setIfInBounds_toArray, List.set_cons_zero, List.set_cons_succ, i64_w, i32_w]
                              rfl
                            refine last_ (i := 33) (N := none) #[true, true, true, true, true, true, true, true, true, true, true, true, true, true, true, true, true, true, true, true, true, true, true, true, true, true, true, true, true, true, true, true, true, true, false, false] rfl rfl (one_of HT_.out (by kernel_rfl)) (by decide) (fun K hK => ?_)
                            refine skip_ (w1 := ?_) (by rfl) rfl ?_ ?_
                            rotate_left
                            · go_simp
                              rfl
                            refine hK.out _ _ ?_
                            clear hK K
                            refine pure_ (i := 34) (N := some 80) (v := ?_) (a' := ?_) #[true, true, true, true, true, true, true, true, true, true, true, true, true, true, true, true, true, true, true, true, true, true, true, true, true, true, true, true, true, true, true, true, true, true, true, false] rfl rfl (any_of HT_.out (by kernel_rfl)) (fun _ _ _ h => h) (Or.inl ⟨by rfl, ?_⟩) ?_ ?_
                            rotate_left
                            · intro w'
                              go_simp
                              with_reducible rfl
                            rotate_left
                            · simp only [Act.put, List.setIfInBounds_toArray, List.set_cons_zero, List.set_cons_succ, i64_w, i32_w]
                              rfl
                            refine last_ (i := 35) (N := none) #[true, true, true, true, true, true, true, true, true, true, true, true, true, true, true, true, true, true, true, true, true, true, true, true, true, true, true, true, true, true, true, true, true, true, true, true] rfl rfl (one_of HT_.out (by kernel_rfl)) (by decide) (fun K hK => ?_)
                            refine skip_ (w1 := ?_) (by rfl) rfl ?_ ?_
                            rotate_left
                            · go_simp
                              rfl
                            refine hK.out _ _ ?_
                            clear hK K
                            refine done_ (done_of HT_.out (by kernel_rfl)) ?_
                            try go_wp2_with (first | ((with_reducible refine gate_callee (f := 25) rfl ?_); refine goesL_ (some 82) rfl rfl Try.func25 (by kernel_rfl) rfl #[.slice A0 l0.length c0] rfl (by (try simp only [List.map_toArray, List.map_cons, List.map_nil]); first | done | rfl | (simp only [List.length_drop, List.length_take]; rfl)) ?_; (with_reducible refine (bailiwickref1_Copy.calls kj5 _ _ l0 t140 _ ?side1 ?side2 A29.out).mono ?_); (case side1 => exact Kd.C_below HR0.out (by repeat (first | (with_reducible first | exact HB.out | apply below_alloc | apply pw_below_drewN | apply below_drew1 | refine below_set ?_ GB25.out | refine below_set ?_ GB25.out | refine below_set ?_ GB25.out | refine below_set ?_ GB25.out) | exact HB.out))); (case side2 => exact HC0.out); rintro e w37 ⟨v141, rfl, ho0, hb⟩; refine ⟨_, rfl, ?_⟩; have n0_ := Aside0.mk (Kd.R_elder' (by (with_reducible repeat (first | apply Kd.R_alloc | apply Kd.R_drewN | apply Kd.R_drew)); exact HQ36.out) (Kd.R_base ho0) hb); have n1_ := Aside0.mk (Kd.R_lower (Kd.R_new' ho0 (Kd.R_lt (by (with_reducible repeat (first | apply Kd.R_alloc | apply Kd.R_drewN | apply Kd.R_drew)); exact HQ36.out))) (below_size (by repeat (first | (with_reducible first | exact HB.out | apply below_alloc | apply pw_below_drewN | apply below_drew1 | refine below_set ?_ GB25.out | refine below_set ?_ GB25.out | refine below_set ?_ GB25.out | refine below_set ?_ GB25.out) | exact HB.out)))); have n2_ := Aside0.mk (below_step (by repeat (first | (with_reducible first | exact HB.out | apply below_alloc | apply pw_below_drewN | apply below_drew1 | refine below_set ?_ GB25.out | refine below_set ?_ GB25.out | refine below_set ?_ GB25.out | refine below_set ?_ GB25.out) | exact HB.out)) hb); clear HO131; clear HB; have HO131 := n0_; have HO142 := n1_; have HB := n2_; clear n0_ n1_ n2_; (try clear hb); (try clear hb2); (try clear hk); (try clear hi); (try clear ho0)))
                            go_loopg [10] kj5 (fun kq v10 w' => ∃ (x9_2 : List Int) (x10_2 : Int), v10 = .int .i64 x10_2 ∧ Aside0 (bailiwicklaw1_OctetSwaps.l0 kq l0 y139 x9_2 x10_2 = some r) ∧ Aside0 (kq ≤ kj5) ∧ Aside0 (Kd.R (Kd.int .u8) 5 w' w.heap.size (fun k_ => some k_ ≠ (v141 : Value).ownBlock) (.slice (some ⟨go25, 0, none⟩) t129.length co32) y139) ∧ Aside0 (Kd.R (Kd.int .u8) 5 w' w.heap.size (fun k_ => some k_ ≠ ((.slice (some ⟨go25, 0, none⟩) t129.length co32) : Value).ownBlock) v141 x9_2) ∧ Aside0 (Below w.heap.size w w'))
                            case atStart => exact ⟨(t140), (0), (by first | rfl | (simp; done) | (simp [*]; done)), H', ⟨Nat.le_refl _⟩, ⟨by (with_reducible repeat (first | apply Kd.R_alloc | apply Kd.R_drewN | apply Kd.R_drew)); exact Kd.R_mono HO131.out (fun _ hk => hk.2)⟩, ⟨by (with_reducible repeat (first | apply Kd.R_alloc | apply Kd.R_drewN | apply Kd.R_drew)); exact Kd.R_mono HO142.out (fun _ hk => hk.2)⟩, ⟨by repeat (first | (with_reducible first | exact HB.out | apply below_alloc | apply pw_below_drewN | apply below_drew1) | exact HB.out)⟩⟩
                            case round =>
                              clear H'
                              try clear c1
                              try clear p1
                              try clear q1
                              try clear hx1
                              try clear c2
                              try clear p2
                              try clear q2
                              try clear hx2
                              try clear c4
                              try clear c5
                              try clear p6
                              try clear c8
                              try clear c8b0
                              try clear c8b1
                              try clear c9
                              try clear c9b0
                              try clear c9b1
                              try clear c10
                              try clear c11
                              try clear c11b0
                              try clear c11b1
                              try clear p13
                              try clear q13
                              try clear hx13
                              try clear c14
                              try clear c14b0
                              try clear c15
                              try clear c15b0
                              try clear c17
                              try clear c17b0
                              try clear c18
                              try clear c18b0
                              try clear c20
                              try clear c20b0
                              try clear c21
                              try clear c21b0
                              try clear c22
                              try clear c23
                              try clear c23b0
                              try clear c24
                              try clear c24b0
                              try clear c25
                              try clear p25
                              try clear q25
                              try clear hx25
                              try clear hf25
                              try clear p26
                              try clear q26
                              try clear hx26
                              try clear hf26
                              try clear p27
                              try clear q27
                              try clear hx27
                              try clear hf27
                              try clear p28
                              try clear q28
                              try clear hx28
                              try clear hf28
                              try clear hx132_0
                              try clear hx133_0
                              try clear hx134_0
                              try clear hx135_0
                              try clear hx25_0
                              try clear hx26_0
                              try clear hx27_0
                              try clear hx28_0
                              try clear p132
                              try clear p133
                              try clear p134
                              try clear p135
                              try clear p2
                              try clear p25
                              try clear p26
                              try clear p27
                              try clear p28
                              try clear q132
                              try clear q133
                              try clear q134
                              try clear q135
                              try clear q25
                              try clear q26
                              try clear q27
                              try clear q28
                              obtain ⟨x9_2, x10_2, rfl, HA, HK2, HO_8, HO_9, HB⟩ := hrel
                              have hl8_2 := (Kd.R_reads' HO_8.out).1
                              rw [hl8_2] at HO_8
                              (try simp only [hl8_2])
                              (try simp only [hl8_2] at HO_9)
                              cases gk with
                              | zero => exact absurd HA.out (by simp [bailiwicklaw1_OctetSwaps.l0])
                              | succ k2 =>
                                have H := HA.out
                                clear HA
                                simp only [bailiwicklaw1_OctetSwaps.l0] at H
                                by_cases c38 : x10_2 < (x9_2.length : Int)
                                · rw [if_pos c38] at H
                                  have c38b0 : decide (x10_2 < (x9_2.length : Int)) = true := decide_eq_true c38
                                  clear c38
                                  obtain ⟨ji39, hji39⟩ : ∃ j_ : Int, (wrap64 (x10_2 + 1)) = j_ := ⟨_, rfl⟩
                                  replace H : (if 0 ≤ (ji39) then (if (ji39) < (x9_2.length : Int) then (if 0 ≤ x10_2 then (bailiwicklaw1_OctetSwaps.l0 k2 l0 y139 ((x9_2.set (x10_2 : Int).toNat (rd x9_2 (ji39))).set ((ji39) : Int).toNat (rd x9_2 x10_2)) (wrap64 (x10_2 + 2))) else (none)) else (none)) else (none)) = some r := by first | (rw [hji39] at H; exact H) | (simp only [hji39] at H ⊢; exact H)
                                  have hji39w : (IntKind.i64.wrap (x10_2 + 1)) = ji39 := (i64_w _).trans hji39
                                  by_cases c40 : 0 ≤ (ji39)
                                  · rw [if_pos c40] at H
                                    have c40b0 : decide (0 ≤ (ji39)) = true := decide_eq_true c40
                                    clear c40
                                    by_cases c41 : (ji39) < (x9_2.length : Int)
                                    · rw [if_pos c41] at H
                                      have c41b0 : decide ((ji39) < (x9_2.length : Int)) = true := decide_eq_true c41
                                      clear c41
                                      by_cases c42 : 0 ≤ x10_2
                                      · rw [if_pos c42] at H
                                        have c42b0 : decide (0 ≤ x10_2) = true := decide_eq_true c42
                                        clear c42
                                        obtain ⟨y145, hy145⟩ : ∃ y_ : List Int, y_ = (x9_2.set (x10_2 : Int).toNat (rd x9_2 (ji39))) := ⟨_, rfl⟩
                                        replace H : (bailiwicklaw1_OctetSwaps.l0 k2 l0 y139 (y145.set ((ji39) : Int).toNat (rd x9_2 x10_2)) (wrap64 (x10_2 + 2))) = some r := by first | (rw [hy145]; with_reducible exact H) | (have H2_ := (Option.bind_some _ _).symm.trans H; rw [hy145]; with_reducible exact H2_) | (have H2_ := (Option.bind_some _ _).symm.trans H; with_reducible exact H2_) | with_reducible exact H | (rw [hy145]; exact H) | exact H
                                        have Ny145 := Aside0.mk hy145
                                        clear hy145
                                        obtain ⟨y146, hy146⟩ : ∃ y_ : List Int, y_ = (y145.set ((ji39) : Int).toNat (rd x9_2 x10_2)) := ⟨_, rfl⟩
                                        replace H : (bailiwicklaw1_OctetSwaps.l0 k2 l0 y139 y146 (wrap64 (x10_2 + 2))) = some r := by first | (rw [hy146]; with_reducible exact H) | (have H2_ := (Option.bind_some _ _).symm.trans H; rw [hy146]; with_reducible exact H2_) | (have H2_ := (Option.bind_some _ _).symm.trans H; with_reducible exact H2_) | with_reducible exact H | (rw [hy146]; exact H) | exact H
                                        have Ny146 := Aside0.mk hy146
                                        clear hy146
                                        have H' := Aside0.mk H
                                        clear H
                                        obtain ⟨Ao45, co45, eo45⟩ := Kd.R_slice HO_9.out
                                        subst eo45
                                        try go_wp2
                                        have n0_ := Aside0.mk (Kd.R_drew HO_8.out)
                                        have n1_ := Aside0.mk (Kd.R_drew HO_9.out)
                                        have n2_ := Aside0.mk (below_drew1 HB.out)
                                        clear HO_8
                                        clear HO_9
                                        clear HB
                                        have HO_8 := n0_
                                        have HO_9 := n1_
                                        have HB := n2_
                                        clear n0_ n1_ n2_
                                        have p143 : 0 ≤ ((ji39) : Int) := of_decide_eq_true (by first | (with_reducible assumption) | assumption)
                                        have q143 : (ji39) < (x9_2.length : Int) := of_decide_eq_true (by first | (with_reducible assumption) | assumption)
                                        obtain ⟨ad143, e143, hx143_0⟩ := Kd.at_int (Kd.R_reads' HO_9.out).2.2 (ji39) p143 q143
                                        cases e143
                                        replace p143 := eq_true p143
                                        replace q143 := eq_true q143
                                        have p144 : 0 ≤ (x10_2 : Int) := of_decide_eq_true (by first | (with_reducible assumption) | assumption)
                                        have q144 : x10_2 < (x9_2.length : Int) := of_decide_eq_true (by first | (with_reducible assumption) | assumption)
                                        obtain ⟨ad144, e144, hx144_0⟩ := Kd.at_int (Kd.R_reads' HO_9.out).2.2 x10_2 p144 q144
                                        obtain rfl : ad143 = ad144 := (by injection e144)
                                        replace p144 := eq_true p144
                                        replace q144 := eq_true q144
                                        have p43 : 0 ≤ (x10_2 : Int) := of_decide_eq_true (by first | (with_reducible assumption) | assumption)
                                        have q43 : (x10_2 : Int) < ((x9_2.length : Int) : Int) := of_decide_eq_true (by first | (with_reducible assumption) | assumption)
                                        obtain ⟨go43, co43, eo43, gb43, gl43, cl43, HG43⟩ := Kd.R_form HO_9.out (by omega)
                                        (first | cases eo43 | (injection eo43 with ea_ en_ ec_; (first | subst ea_ | (injection ea_ with ea_; subst ea_)); subst ec_; clear en_))
                                        have GB43 := Aside0.mk gb43
                                        have GG43 := Aside0.mk HG43
                                        clear gb43 gl43 HG43
                                        (first | simp only [add_plain] at hx143_0 | skip)
                                        (first | simp only [add_plain] at hx144_0 | skip)
                                        obtain ⟨hx43_0, hf43_0⟩ := Kd.R_celln 0 HO_9.out (x10_2 : Int) p43 q43
                                        replace p43 := eq_true p43
                                        replace q43 := eq_true q43
                                        have HP47 := Kd.R_putn HO_9.out (x10_2 : Int) (rd x9_2 (ji39))
                                        rw [← Ny145.out] at HP47
                                        have HQ47 := Aside0.mk HP47
                                        clear HP47
                                        have p44 : 0 ≤ ((ji39) : Int) := of_decide_eq_true (by first | (with_reducible assumption) | assumption)
                                        have q44 : ((ji39) : Int) < ((x9_2.length : Int) : Int) := of_decide_eq_true (by first | (with_reducible assumption) | assumption)
                                        obtain ⟨hx44_0, hf44_0⟩ := Kd.R_celln 0 HQ47.out ((ji39) : Int) p44 q44
                                        replace p44 := eq_true p44
                                        replace q44 := eq_true q44
                                        have HP48 := Kd.R_putn HQ47.out ((ji39) : Int) (rd x9_2 x10_2)
                                        rw [← Ny146.out] at HP48
                                        have HQ48 := Aside0.mk HP48
                                        clear HP48
                                        refine start_ (n := 18) (S := fun w' => w'.cell? ⟨go43, ((ji39)).toNat, none⟩ = some (.int .u8 (rd x9_2 (ji39))) ∧ w'.cell? ⟨go43, (x10_2).toNat, none⟩ = some (.int .u8 (rd x9_2 x10_2))) (ds := [15, 17]) #[false, false, false, false, false, false, false, false, false, false, false, false, false, false, false, false, false, false] (by kernel_rfl) rfl rfl ⟨hx143_0, hx144_0⟩ (fun hHeld => ?_); refine with_tabW bailiwicklaw1_OctetSwaps.tab14 bailiwicklaw1_OctetSwaps.bits14 (fun HT_ HW_ => ?_)
                                        generalize wr.drew = w46 at HO_8 HO_9 HB GG43 HQ47 HQ48 hf43_0 hf44_0 hx143_0 hx144_0 hx43_0 hx44_0 hHeld ⊢
                                        refine pure_ (i := 0) (N := some 89) (v := ?_) (a' := ?_) #[true, false, false, false, false, false, false, false, false, false, false, false, false, false, false, false, false, false] rfl rfl (any_of HT_.out (by kernel_rfl)) (fun _ _ _ h => h) (Or.inl ⟨by rfl, ?_⟩) ?_ ?_
                                        rotate_left
                                        · intro w'
                                          go_simp
                                          with_reducible rfl
                                        rotate_left
                                        · simp only [Act.put, List.setIfInBounds_toArray, List.set_cons_zero, List.set_cons_succ, i64_w, i32_w]
                                          rfl
                                        refine pure_ (i := 1) (N := some 90) (v := ?_) (a' := ?_) #[true, true, false, false, false, false, false, false, false, false, false, false, false, false, false, false, false, false] rfl rfl (any_of HT_.out (by kernel_rfl)) (fun _ _ _ h => h) (Or.inl ⟨by rfl, ?_⟩) ?_ ?_
                                        rotate_left
                                        · intro w'
                                          go_simp
                                          with_reducible rfl
                                        rotate_left
                                        · simp only [Act.put, List.setIfInBounds_toArray, List.set_cons_zero, List.set_cons_succ, i64_w, i32_w]
                                          rfl
                                        refine pure_ (i := 2) (N := some 91) (v := ?_) (a' := ?_) #[true, true, true, false, false, false, false, false, false, false, false, false, false, false, false, false, false, false] rfl rfl (any_of HT_.out (by kernel_rfl)) (fun _ _ _ h => h) (Or.inl ⟨by rfl, ?_⟩) ?_ ?_
                                        rotate_left
                                        · intro w'
                                          go_simp
                                          with_reducible rfl
                                        rotate_left
                                        · simp only [Act.put, List.setIfInBounds_toArray, List.set_cons_zero, List.set_cons_succ, i64_w, i32_w]
                                          rfl
                                        refine pure_ (i := 3) (N := some 92) (v := ?_) (a' := ?_) #[true, true, true, true, false, false, false, false, false, false, false, false, false, false, false, false, false, false] rfl rfl (any_of HT_.out (by kernel_rfl)) (fun _ _ _ h => h) (Or.inl ⟨by rfl, ?_⟩) ?_ ?_
                                        rotate_left
                                        · intro w'
                                          go_simp
                                          with_reducible rfl
                                        rotate_left
                                        · simp only [Act.put, List.setIfInBounds_toArray, List.set_cons_zero, List.set_cons_succ, i64_w, i32_w]
                                          rfl
                                        refine pure_ (i := 4) (N := some 93) (v := ?_) (a' := ?_) #[true, true, true, true, true, false, false, false, false, false, false, false, false, false, false, false, false, false] rfl rfl (any_of HT_.out (by kernel_rfl)) (fun _ _ _ h => h) (Or.inl ⟨by rfl, ?_⟩) ?_ ?_
                                        rotate_left
                                        · intro w'
                                          go_simp
                                          with_reducible rfl
                                        rotate_left
                                        · simp only [Act.put, List.setIfInBounds_toArray, List.set_cons_zero, List.set_cons_succ, i64_w, i32_w]
                                          rfl
                                        refine pure_ (i := 5) (N := some 94) (v := ?_) (a' := ?_) #[true, true, true, true, true, true, false, false, false, false, false, false, false, false, false, false, false, false] rfl rfl (any_of HT_.out (by kernel_rfl)) (fun _ _ _ h => h) (Or.inl ⟨by rfl, ?_⟩) ?_ ?_
                                        rotate_left
                                        · intro w'
                                          go_simp
                                          with_reducible rfl
                                        rotate_left
                                        · simp only [Act.put, List.setIfInBounds_toArray, List.set_cons_zero, List.set_cons_succ, i64_w, i32_w]
                                          rfl
                                        refine pure_ (i := 6) (N := some 95) (v := ?_) (a' := ?_) #[true, true, true, true, true, true, true, false, false, false, false, false, false, false, false, false, false, false] rfl rfl (any_of HT_.out (by kernel_rfl)) (fun _ _ _ h => h) (Or.inl ⟨by rfl, ?_⟩) ?_ ?_
                                        rotate_left
                                        · intro w'
                                          go_simp
                                          with_reducible rfl
                                        rotate_left
                                        · simp only [Act.put, List.setIfInBounds_toArray, List.set_cons_zero, List.set_cons_succ, i64_w, i32_w]
                                          rfl
                                        refine pure_ (i := 7) (N := some 96) (v := ?_) (a' := ?_) #[true, true, true, true, true, true, true, true, false, false, false, false, false, false, false, false, false, false] rfl rfl (any_of HT_.out (by kernel_rfl)) (fun _ _ _ h => h) (Or.inl ⟨by rfl, ?_⟩) ?_ ?_
                                        rotate_left
                                        · intro w'
                                          go_simp
                                          with_reducible rfl
                                        rotate_left
                                        · simp only [Act.put, List.setIfInBounds_toArray, List.set_cons_zero, List.set_cons_succ, i64_w, i32_w]
                                          rfl
                                        refine pure_ (i := 8) (N := some 97) (v := ?_) (a' := ?_) #[true, true, true, true, true, true, true, true, true, false, false, false, false, false, false, false, false, false] rfl rfl (any_of HT_.out (by kernel_rfl)) (fun _ _ _ h => h) (Or.inl ⟨by rfl, ?_⟩) ?_ ?_
                                        rotate_left
                                        · intro w'
                                          go_simp
                                          with_reducible rfl
                                        rotate_left
                                        · simp only [Act.put, List.setIfInBounds_toArray, List.set_cons_zero, List.set_cons_succ, i64_w, i32_w]
                                          rfl
                                        refine pure_ (i := 10) (N := some 99) (v := ?_) (a' := ?_) #[true, true, true, true, true, true, true, true, true, false, true, false, false, false, false, false, false, false] rfl rfl (any_of HT_.out (by kernel_rfl)) (fun _ _ _ h => h) (Or.inl ⟨by rfl, ?_⟩) ?_ ?_
                                        rotate_left
                                        · intro w'
                                          go_simp
                                          with_reducible rfl
                                        rotate_left
                                        · simp only [Act.put, List.setIfInBounds_toArray, List.set_cons_zero, List.set_cons_succ, i64_w, i32_w]
                                          rfl
                                        refine pure_ (i := 11) (N := some 100) (v := ?_) (a' := ?_) #[true, true, true, true, true, true, true, true, true, false, true, true, false, false, false, false, false, false] rfl rfl (any_of HT_.out (by kernel_rfl)) (fun _ _ _ h => h) (Or.inl ⟨by rfl, ?_⟩) ?_ ?_
                                        rotate_left
                                        · intro w'
                                          go_simp
                                          with_reducible rfl
                                        rotate_left
                                        · simp only [Act.put, List.setIfInBounds_toArray, List.set_cons_zero, List.set_cons_succ, i64_w, i32_w]
                                          rfl
                                        refine pure_ (i := 12) (N := some 101) (v := ?_) (a' := ?_) #[true, true, true, true, true, true, true, true, true, false, true, true, true, false, false, false, false, false] rfl rfl (any_of HT_.out (by kernel_rfl)) (fun _ _ _ h => h) (Or.inl ⟨by rfl, ?_⟩) ?_ ?_
                                        rotate_left
                                        · intro w'
                                          go_simp
                                          with_reducible rfl
                                        rotate_left
                                        · simp only [Act.put, List.setIfInBounds_toArray, List.set_cons_zero, List.set_cons_succ, i64_w, i32_w]
                                          rfl
                                        refine take_ (i := 9) (N := some 98) (v := ?_) (a' := ?_) #[true, true, true, true, true, true, true, true, true, true, true, true, true, false, false, false, false, false] rfl rfl (take_ofW HT_.out HW_.out (by kernel_rfl)) (fun _ _ _ h => h) (Or.inl ⟨by rfl, ?_⟩) hHeld ?_ ?_
                                        rotate_left
                                        · rintro w' ⟨s0, s1⟩
                                          go_simp
                                          with_reducible rfl
                                        rotate_left
                                        · simp only [Act.put, List.setIfInBounds_toArray, List.set_cons_zero, List.set_cons_succ, i64_w, i32_w]
                                          rfl
                                        refine take_ (i := 13) (N := some 102) (v := ?_) (a' := ?_) #[true, true, true, true, true, true, true, true, true, true, true, true, true, true, false, false, false, false] rfl rfl (take_ofW HT_.out HW_.out (by kernel_rfl)) (fun _ _ _ h => h) (Or.inl ⟨by rfl, ?_⟩) hHeld ?_ ?_
                                        rotate_left
                                        · rintro w' ⟨s0, s1⟩
                                          go_simp
                                          with_reducible rfl
                                        rotate_left
                                        · simp only [Act.put, List.setIfInBounds_toArray, List.set_cons_zero, List.set_cons_succ, i64_w, i32_w]
                                          rfl
                                        refine pure_ (i := 14) (N := some 103) (v := ?_) (a' := ?_) #[true, true, true, true, true, true, true, true, true, true, true, true, true, true, true, false, false, false] rfl rfl (any_of HT_.out (by kernel_rfl)) (fun _ _ _ h => h) (Or.inl ⟨by rfl, ?_⟩) ?_ ?_
                                        rotate_left
                                        · intro w'
                                          go_simp
                                          with_reducible rfl
                                        rotate_left
                                        · simp only [Act.put, List.setIfInBounds_toArray, List.set_cons_zero, List.set_cons_succ, i64_w, i32_w]
                                          rfl
                                        refine last_ (i := 15) (N := none) #[true, true, true, true, true, true, true, true, true, true, true, true, true, true, true, true, false, false] rfl rfl (one_of HT_.out (by kernel_rfl)) (by decide) (fun K hK => ?_)
                                        refine skip_ (w1 := ?_) (by rfl) rfl ?_ ?_
                                        rotate_left
                                        · go_simp
                                          rfl
                                        refine hK.out _ _ ?_
                                        clear hK K
                                        refine pure_ (i := 16) (N := some 104) (v := ?_) (a' := ?_) #[true, true, true, true, true, true, true, true, true, true, true, true, true, true, true, true, true, false] rfl rfl (any_of HT_.out (by kernel_rfl)) (fun _ _ _ h => h) (Or.inl ⟨by rfl, ?_⟩) ?_ ?_
                                        rotate_left
                                        · intro w'
                                          go_simp
                                          with_reducible rfl
                                        rotate_left
                                        · simp only [Act.put, List.setIfInBounds_toArray, List.set_cons_zero, List.set_cons_succ, i64_w, i32_w]
                                          rfl
                                        refine last_ (i := 17) (N := none) #[true, true, true, true, true, true, true, true, true, true, true, true, true, true, true, true, true, true] rfl rfl (one_of HT_.out (by kernel_rfl)) (by decide) (fun K hK => ?_)
                                        refine skip_ (w1 := ?_) (by rfl) rfl ?_ ?_
                                        rotate_left
                                        · go_simp
                                          rfl
                                        refine hK.out _ _ ?_
                                        clear hK K
                                        refine done_ (done_of HT_.out (by kernel_rfl)) ?_
                                        try go_wp2
                                        (try simp only [← hl8_2])
                                        go_roundg k2
                                        case measure => have := HJ5.out; have := HK2.out; omega
                                        case rel => exact ⟨(y146), (wrap64 (x10_2 + 2)), (by first | rfl | (simp; done) | (simp [*]; done)), H', ⟨by have := HJ5.out; have := HK2.out; omega⟩, ⟨by (try simp only [hl8_2]); (with_reducible repeat (first | apply Kd.R_alloc | apply Kd.R_drewN | apply Kd.R_drew)); exact Kd.R_mono (Kd.R_far (p := ⟨go43, ((ji39) : Int).toNat, none⟩) (Kd.R_far (p := ⟨go43, (x10_2 : Int).toNat, none⟩) (Kd.R_mono HO_8.out (fun k_ hk => (⟨hk, fun e_ => hk (by rw [e_]; rfl)⟩ : _ ∧ k_ ≠ go43))) (fun _ hk => hk.2) (.int .u8 (rd x9_2 (ji39)))) (fun _ hk => hk.2) (.int .u8 (rd x9_2 x10_2))) (fun _ hk => hk.1)⟩, ⟨by (try simp only [hl8_2]); (with_reducible repeat (first | apply Kd.R_alloc | apply Kd.R_drewN | apply Kd.R_drew)); exact HQ48.out⟩, ⟨by repeat (first | (with_reducible first | exact HB.out | apply below_alloc | apply pw_below_drewN | apply below_drew1 | refine below_set ?_ GB43.out | refine below_set ?_ GB43.out) | exact HB.out)⟩⟩
                                      · rw [if_neg c42] at H
                                        exact absurd H (by simp)
                                    · rw [if_neg c41] at H
                                      exact absurd H (by simp)
                                  · rw [if_neg c40] at H
                                    exact absurd H (by simp)
                                · rw [if_neg c38] at H
                                  have c38b0 : decide (x10_2 < (x9_2.length : Int)) = false := decide_eq_false c38
                                  clear c38
                                  obtain ⟨y147, hy147⟩ : ∃ y_ : List (List Int), y_ = (([l0] : List (List Int))) := ⟨_, rfl⟩
                                  replace H : ((octet_Sum.f y147).bind fun t151 => ((octet_Sum.f (([y139] : List (List Int)))).bind fun t156 => (if t156 = t151 then ((octet_Sum.f (([x9_2] : List (List Int)))).bind fun t161 => (some (t161 == (Go.bits .or .i64 (t151 / 256) (wrap64 ((Go.bits .and .i64 t151 255) * 256)))))) else (some false)))) = some r := by first | (rw [hy147]; with_reducible exact H) | (have H2_ := (Option.bind_some _ _).symm.trans H; rw [hy147]; with_reducible exact H2_) | (have H2_ := (Option.bind_some _ _).symm.trans H; with_reducible exact H2_) | with_reducible exact H | (rw [hy147]; exact H) | exact H
                                  have Ny147 := Aside0.mk hy147
                                  clear hy147
                                  replace H := Option.bind_eq_some_iff.mp H
                                  obtain ⟨t151, A490, H⟩ := H
                                  replace H : ((octet_Sum.f (([y139] : List (List Int)))).bind fun t156 => (if t156 = t151 then ((octet_Sum.f (([x9_2] : List (List Int)))).bind fun t161 => (some (t161 == (Go.bits .or .i64 (t151 / 256) (wrap64 ((Go.bits .and .i64 t151 255) * 256)))))) else (some false))) = some r := H
                                  have A49 := Aside0.mk A490
                                  clear A490
                                  obtain ⟨y152, hy152⟩ : ∃ y_ : List (List Int), y_ = (([y139] : List (List Int))) := ⟨_, rfl⟩
                                  replace H : ((octet_Sum.f y152).bind fun t156 => (if t156 = t151 then ((octet_Sum.f (([x9_2] : List (List Int)))).bind fun t161 => (some (t161 == (Go.bits .or .i64 (t151 / 256) (wrap64 ((Go.bits .and .i64 t151 255) * 256)))))) else (some false))) = some r := by first | (rw [hy152]; with_reducible exact H) | (have H2_ := (Option.bind_some _ _).symm.trans H; rw [hy152]; with_reducible exact H2_) | (have H2_ := (Option.bind_some _ _).symm.trans H; with_reducible exact H2_) | with_reducible exact H | (rw [hy152]; exact H) | exact H
                                  have Ny152 := Aside0.mk hy152
                                  clear hy152
                                  replace H := Option.bind_eq_some_iff.mp H
                                  obtain ⟨t156, A500, H⟩ := H
                                  replace H : (if t156 = t151 then ((octet_Sum.f (([x9_2] : List (List Int)))).bind fun t161 => (some (t161 == (Go.bits .or .i64 (t151 / 256) (wrap64 ((Go.bits .and .i64 t151 255) * 256)))))) else (some false)) = some r := H
                                  have A50 := Aside0.mk A500
                                  clear A500
                                  by_cases c51 : t156 = t151
                                  · rw [if_pos c51] at H
                                    have c51b0 : (t156 == t151) = true := beq_iff_eq.mpr c51
                                    have c51b1 : (t156 != t151) = false := bne_eq_false_iff_eq.mpr c51
                                    clear c51
                                    obtain ⟨y157, hy157⟩ : ∃ y_ : List (List Int), y_ = (([x9_2] : List (List Int))) := ⟨_, rfl⟩
                                    replace H : ((octet_Sum.f y157).bind fun t161 => (some (t161 == (Go.bits .or .i64 (t151 / 256) (wrap64 ((Go.bits .and .i64 t151 255) * 256)))))) = some r := by first | (rw [hy157]; with_reducible exact H) | (have H2_ := (Option.bind_some _ _).symm.trans H; rw [hy157]; with_reducible exact H2_) | (have H2_ := (Option.bind_some _ _).symm.trans H; with_reducible exact H2_) | with_reducible exact H | (rw [hy157]; exact H) | exact H
                                    have Ny157 := Aside0.mk hy157
                                    clear hy157
                                    replace H := Option.bind_eq_some_iff.mp H
                                    obtain ⟨t161, A520, H⟩ := H
                                    replace H : (some (t161 == (Go.bits .or .i64 (t151 / 256) (wrap64 ((Go.bits .and .i64 t151 255) * 256))))) = some r := H
                                    have A52 := Aside0.mk A520
                                    clear A520
                                    obtain rfl := Option.some.inj H
                                    obtain ⟨Ao53, co53, eo53⟩ := Kd.R_slice HO_9.out
                                    subst eo53
                                    go_wp2_with (first | ((with_reducible refine gate_dst (N := 106) rfl ?_); (try (refine gate_guard (by rfl) ?_; dsimp only)); refine Kd.N_lit (Kd.slice 5 (Kd.int .u8)) _ 22 ?hg (N' := 106) ?hd (xs := ([l0] : List (List Int))) (inner := [.slice A0 l0.length c0]) (ok := fun _ => True) (okp := fun _ => True) ?hr ?hp (fun _ _ => trivial) trivial (Below.refl _ _) (Nat.le_refl _) (by simp) ?_; (case hd => rfl); (case hg => rfl); (case hr => first | (go_simp; done) | (go_simp; rfl)); (case hp => exact (Reps.one (show Kd.FK (Kd.slice 5 (Kd.int .u8)) _ _ l0 [.slice A0 l0.length c0] from Kd.FK_slice_mk (by exact HC0.out) (Kd.F_mono (Kd.C_F (Kd.heap_int .u8) (by repeat (first | exact (Kd.C_below HR0.out HB.out) | (with_reducible refine Kd.C_alloc ?_ _) | (with_reducible refine Kd.C_drewN ?_ _) | (with_reducible refine Kd.C_drew ?_)))) (fun _ _ => trivial))) (Reps.none _ _))); intro vl150 w54 ho hb hg_ hnew_; clear hg_ hnew_; (first | rw [← Ny147.out] at ho | (simp only [Int.reduceToNat] at ho; rw [← Ny147.out] at ho)); obtain ⟨Al150, cl150, el150⟩ := Kd.N_slice ho; subst el150; have hr := (Kd.N_reads' ho).2.2; have hl := (Kd.N_reads' ho).2.1; clear ho; have n0_ := Aside0.mk (Kd.R_below (by (with_reducible repeat (first | apply Kd.R_alloc | apply Kd.R_drewN | apply Kd.R_drew)); exact HO_8.out) hb); have n1_ := Aside0.mk (Kd.R_below (by (with_reducible repeat (first | apply Kd.R_alloc | apply Kd.R_drewN | apply Kd.R_drew)); exact HO_9.out) hb); have n2_ := Aside0.mk (below_step (by repeat (first | (with_reducible first | exact HB.out | apply below_alloc | apply pw_below_drewN | apply below_drew1) | exact HB.out)) hb); have n3_ := Aside0.mk (hr); have n4_ := Aside0.mk (hl); clear HO_8; clear HO_9; clear HB; have HO_8 := n0_; have HO_9 := n1_; have HB := n2_; have HRl150 := n3_; have HCl150 := n4_; clear n0_ n1_ n2_ n3_ n4_; clear hb hr hl) | ((with_reducible refine gate_callee (f := 26) rfl ?_); refine goesL_ (some 107) rfl rfl Try.func26 (by kernel_rfl) rfl #[.slice Al150 y147.length cl150] rfl (by (try simp only [List.map_toArray, List.map_cons, List.map_nil]); first | done | rfl | (simp only [List.length_drop, List.length_take]; rfl)) ?_; (with_reducible refine (octet_Sum.calls _ _ y147 t151 _ ?side1 ?side2 A49.out).mono ?_); (case side1 => repeat (first | exact (by repeat (first | (with_reducible exact HRl150.out) | (with_reducible refine Kd.C_alloc ?_ _) | (with_reducible refine Kd.C_drewN ?_ _) | (with_reducible refine Kd.C_drew ?_) | exact HRl150.out)) | (with_reducible refine Kd.C_alloc ?_ _) | (with_reducible refine Kd.C_drewN ?_ _) | (with_reducible refine Kd.C_drew ?_))); (case side2 => exact HCl150.out); rintro e w55 ⟨rfl, hb⟩; refine ⟨_, rfl, ?_⟩; have n0_ := Aside0.mk (Kd.R_below (by (with_reducible repeat (first | apply Kd.R_alloc | apply Kd.R_drewN | apply Kd.R_drew)); exact HO_8.out) hb); have n1_ := Aside0.mk (Kd.R_below (by (with_reducible repeat (first | apply Kd.R_alloc | apply Kd.R_drewN | apply Kd.R_drew)); exact HO_9.out) hb); have n2_ := Aside0.mk (Kd.C_below (by repeat (first | (with_reducible exact HRl150.out) | (with_reducible refine Kd.C_alloc ?_ _) | (with_reducible refine Kd.C_drewN ?_ _) | (with_reducible refine Kd.C_drew ?_) | exact HRl150.out)) hb); have n3_ := Aside0.mk (below_step (by repeat (first | (with_reducible first | exact HB.out | apply below_alloc | apply pw_below_drewN | apply below_drew1) | exact HB.out)) hb); clear HO_8; clear HO_9; clear HRl150; clear HB; have HO_8 := n0_; have HO_9 := n1_; have HRl150 := n2_; have HB := n3_; clear n0_ n1_ n2_ n3_; (try clear hb); (try clear hb2); (try clear hk); (try clear hi)) | ((with_reducible refine gate_dst (N := 109) rfl ?_); (try (refine gate_guard (by rfl) ?_; dsimp only)); refine Kd.N_lit (Kd.slice 5 (Kd.int .u8)) _ 22 ?hg (N' := 109) ?hd (xs := ([y139] : List (List Int))) (inner := [.slice (some ⟨go25, 0, none⟩) y139.length co32]) (ok := fun _ => True) (okp := fun _ => True) ?hr ?hp (fun _ _ => trivial) trivial (Below.refl _ _) (Nat.le_refl _) (by simp) ?_; (case hd => rfl); (case hg => rfl); (case hr => first | (go_simp; done) | (go_simp; rfl)); (case hp => exact (Reps.one (show Kd.FK (Kd.slice 5 (Kd.int .u8)) _ _ y139 [.slice (some ⟨go25, 0, none⟩) y139.length co32] from Kd.FK_slice_mk (by exact (Kd.R_reads' HO_8.out).2.1) (Kd.F_mono (Kd.C_F (Kd.heap_int .u8) (by repeat (first | exact (Kd.R_reads' HO_8.out).2.2 | (with_reducible refine Kd.C_alloc ?_ _) | (with_reducible refine Kd.C_drewN ?_ _) | (with_reducible refine Kd.C_drew ?_)))) (fun _ _ => trivial))) (Reps.none _ _))); intro vl155 w56 ho hb hg_ hnew_; clear hg_ hnew_; (first | rw [← Ny152.out] at ho | (simp only [Int.reduceToNat] at ho; rw [← Ny152.out] at ho)); obtain ⟨Al155, cl155, el155⟩ := Kd.N_slice ho; subst el155; have hr := (Kd.N_reads' ho).2.2; have hl := (Kd.N_reads' ho).2.1; clear ho; have n0_ := Aside0.mk (Kd.R_below (by (with_reducible repeat (first | apply Kd.R_alloc | apply Kd.R_drewN | apply Kd.R_drew)); exact HO_8.out) hb); have n1_ := Aside0.mk (Kd.R_below (by (with_reducible repeat (first | apply Kd.R_alloc | apply Kd.R_drewN | apply Kd.R_drew)); exact HO_9.out) hb); have n2_ := Aside0.mk (Kd.C_below (by repeat (first | (with_reducible exact HRl150.out) | (with_reducible refine Kd.C_alloc ?_ _) | (with_reducible refine Kd.C_drewN ?_ _) | (with_reducible refine Kd.C_drew ?_) | exact HRl150.out)) hb); have n3_ := Aside0.mk (below_step (by repeat (first | (with_reducible first | exact HB.out | apply below_alloc | apply pw_below_drewN | apply below_drew1) | exact HB.out)) hb); have n4_ := Aside0.mk (hr); have n5_ := Aside0.mk (hl); clear HO_8; clear HO_9; clear HRl150; clear HB; have HO_8 := n0_; have HO_9 := n1_; have HRl150 := n2_; have HB := n3_; have HRl155 := n4_; have HCl155 := n5_; clear n0_ n1_ n2_ n3_ n4_ n5_; clear hb hr hl) | ((with_reducible refine gate_callee (f := 26) rfl ?_); refine goesL_ (some 110) rfl rfl Try.func26 (by kernel_rfl) rfl #[.slice Al155 y152.length cl155] rfl (by (try simp only [List.map_toArray, List.map_cons, List.map_nil]); first | done | rfl | (simp only [List.length_drop, List.length_take]; rfl)) ?_; (with_reducible refine (octet_Sum.calls _ _ y152 t156 _ ?side1 ?side2 A50.out).mono ?_); (case side1 => repeat (first | exact (by repeat (first | (with_reducible exact HRl155.out) | (with_reducible refine Kd.C_alloc ?_ _) | (with_reducible refine Kd.C_drewN ?_ _) | (with_reducible refine Kd.C_drew ?_) | exact HRl155.out)) | (with_reducible refine Kd.C_alloc ?_ _) | (with_reducible refine Kd.C_drewN ?_ _) | (with_reducible refine Kd.C_drew ?_))); (case side2 => exact HCl155.out); rintro e w57 ⟨rfl, hb⟩; refine ⟨_, rfl, ?_⟩; have n0_ := Aside0.mk (Kd.R_below (by (with_reducible repeat (first | apply Kd.R_alloc | apply Kd.R_drewN | apply Kd.R_drew)); exact HO_8.out) hb); have n1_ := Aside0.mk (Kd.R_below (by (with_reducible repeat (first | apply Kd.R_alloc | apply Kd.R_drewN | apply Kd.R_drew)); exact HO_9.out) hb); have n2_ := Aside0.mk (Kd.C_below (by repeat (first | (with_reducible exact HRl150.out) | (with_reducible refine Kd.C_alloc ?_ _) | (with_reducible refine Kd.C_drewN ?_ _) | (with_reducible refine Kd.C_drew ?_) | exact HRl150.out)) hb); have n3_ := Aside0.mk (Kd.C_below (by repeat (first | (with_reducible exact HRl155.out) | (with_reducible refine Kd.C_alloc ?_ _) | (with_reducible refine Kd.C_drewN ?_ _) | (with_reducible refine Kd.C_drew ?_) | exact HRl155.out)) hb); have n4_ := Aside0.mk (below_step (by repeat (first | (with_reducible first | exact HB.out | apply below_alloc | apply pw_below_drewN | apply below_drew1) | exact HB.out)) hb); clear HO_8; clear HO_9; clear HRl150; clear HRl155; clear HB; have HO_8 := n0_; have HO_9 := n1_; have HRl150 := n2_; have HRl155 := n3_; have HB := n4_; clear n0_ n1_ n2_ n3_ n4_; (try clear hb); (try clear hb2); (try clear hk); (try clear hi)) | ((with_reducible refine gate_dst (N := 115) rfl ?_); (try (refine gate_guard (by rfl) ?_; dsimp only)); refine Kd.N_lit (Kd.slice 5 (Kd.int .u8)) _ 22 ?hg (N' := 115) ?hd (xs := ([x9_2] : List (List Int))) (inner := [.slice Ao53 x9_2.length co53]) (ok := fun _ => True) (okp := fun _ => True) ?hr ?hp (fun _ _ => trivial) trivial (Below.refl _ _) (Nat.le_refl _) (by simp) ?_; (case hd => rfl); (case hg => rfl); (case hr => first | (go_simp; done) | (go_simp; rfl)); (case hp => exact (Reps.one (show Kd.FK (Kd.slice 5 (Kd.int .u8)) _ _ x9_2 [.slice Ao53 x9_2.length co53] from Kd.FK_slice_mk (by exact (Kd.R_reads' HO_9.out).2.1) (Kd.F_mono (Kd.C_F (Kd.heap_int .u8) (by repeat (first | exact (Kd.R_reads' HO_9.out).2.2 | (with_reducible refine Kd.C_alloc ?_ _) | (with_reducible refine Kd.C_drewN ?_ _) | (with_reducible refine Kd.C_drew ?_)))) (fun _ _ => trivial))) (Reps.none _ _))); intro vl160 w58 ho hb hg_ hnew_; clear hg_ hnew_; (first | rw [← Ny157.out] at ho | (simp only [Int.reduceToNat] at ho; rw [← Ny157.out] at ho)); obtain ⟨Al160, cl160, el160⟩ := Kd.N_slice ho; subst el160; have hr := (Kd.N_reads' ho).2.2; have hl := (Kd.N_reads' ho).2.1; clear ho; have n0_ := Aside0.mk (Kd.R_below (by (with_reducible repeat (first | apply Kd.R_alloc | apply Kd.R_drewN | apply Kd.R_drew)); exact HO_8.out) hb); have n1_ := Aside0.mk (Kd.R_below (by (with_reducible repeat (first | apply Kd.R_alloc | apply Kd.R_drewN | apply Kd.R_drew)); exact HO_9.out) hb); have n2_ := Aside0.mk (Kd.C_below (by repeat (first | (with_reducible exact HRl150.out) | (with_reducible refine Kd.C_alloc ?_ _) | (with_reducible refine Kd.C_drewN ?_ _) | (with_reducible refine Kd.C_drew ?_) | exact HRl150.out)) hb); have n3_ := Aside0.mk (Kd.C_below (by repeat (first | (with_reducible exact HRl155.out) | (with_reducible refine Kd.C_alloc ?_ _) | (with_reducible refine Kd.C_drewN ?_ _) | (with_reducible refine Kd.C_drew ?_) | exact HRl155.out)) hb); have n4_ := Aside0.mk (below_step (by repeat (first | (with_reducible first | exact HB.out | apply below_alloc | apply pw_below_drewN | apply below_drew1) | exact HB.out)) hb); have n5_ := Aside0.mk (hr); have n6_ := Aside0.mk (hl); clear HO_8; clear HO_9; clear HRl150; clear HRl155; clear HB; have HO_8 := n0_; have HO_9 := n1_; have HRl150 := n2_; have HRl155 := n3_; have HB := n4_; have HRl160 := n5_; have HCl160 := n6_; clear n0_ n1_ n2_ n3_ n4_ n5_ n6_; clear hb hr hl) | (go_at_call 26; (with_reducible refine (octet_Sum.calls _ _ y157 t161 _ ?side1 ?side2 A52.out).mono ?_); (case side1 => repeat (first | exact (by repeat (first | (with_reducible exact HRl160.out) | (with_reducible refine Kd.C_alloc ?_ _) | (with_reducible refine Kd.C_drewN ?_ _) | (with_reducible refine Kd.C_drew ?_) | exact HRl160.out)) | (with_reducible refine Kd.C_alloc ?_ _) | (with_reducible refine Kd.C_drewN ?_ _) | (with_reducible refine Kd.C_drew ?_))); (case side2 => exact HCl160.out); rintro e w59 ⟨rfl, hb⟩; have n0_ := Aside0.mk (Kd.R_below (by (with_reducible repeat (first | apply Kd.R_alloc | apply Kd.R_drewN | apply Kd.R_drew)); exact HO_8.out) hb); have n1_ := Aside0.mk (Kd.R_below (by (with_reducible repeat (first | apply Kd.R_alloc | apply Kd.R_drewN | apply Kd.R_drew)); exact HO_9.out) hb); have n2_ := Aside0.mk (Kd.C_below (by repeat (first | (with_reducible exact HRl150.out) | (with_reducible refine Kd.C_alloc ?_ _) | (with_reducible refine Kd.C_drewN ?_ _) | (with_reducible refine Kd.C_drew ?_) | exact HRl150.out)) hb); have n3_ := Aside0.mk (Kd.C_below (by repeat (first | (with_reducible exact HRl155.out) | (with_reducible refine Kd.C_alloc ?_ _) | (with_reducible refine Kd.C_drewN ?_ _) | (with_reducible refine Kd.C_drew ?_) | exact HRl155.out)) hb); have n4_ := Aside0.mk (Kd.C_below (by repeat (first | (with_reducible exact HRl160.out) | (with_reducible refine Kd.C_alloc ?_ _) | (with_reducible refine Kd.C_drewN ?_ _) | (with_reducible refine Kd.C_drew ?_) | exact HRl160.out)) hb); have n5_ := Aside0.mk (below_step (by repeat (first | (with_reducible first | exact HB.out | apply below_alloc | apply pw_below_drewN | apply below_drew1) | exact HB.out)) hb); clear HO_8; clear HO_9; clear HRl150; clear HRl155; clear HRl160; clear HB; have HO_8 := n0_; have HO_9 := n1_; have HRl150 := n2_; have HRl155 := n3_; have HRl160 := n4_; have HB := n5_; clear n0_ n1_ n2_ n3_ n4_ n5_; (try clear hb); (try clear hb2); (try clear hk); (try clear hi)))
                                    go_ret
                                    exact ⟨by first | rfl | (simp [errW_none, errW_some] <;> rfl) | (simp only [← hji13, ← hji16, ← hji19, ← hji22]; first | rfl | (simp [errW_none, errW_some] <;> rfl)) | (simp [*, errW_none, errW_some] <;> rfl), by repeat (first | (with_reducible first | exact HB.out | apply below_alloc | apply pw_below_drewN | apply below_drew1) | exact HB.out)⟩
                                  · rw [if_neg c51] at H
                                    have c51b0 : (t156 == t151) = false := beq_eq_false_iff_ne.mpr c51
                                    have c51b1 : (t156 != t151) = true := bne_iff_ne.mpr c51
                                    obtain rfl := Option.some.inj H
                                    obtain ⟨Ao60, co60, eo60⟩ := Kd.R_slice HO_9.out
                                    subst eo60
                                    go_wp2_with (first | ((with_reducible refine gate_dst (N := 106) rfl ?_); (try (refine gate_guard (by rfl) ?_; dsimp only)); refine Kd.N_lit (Kd.slice 5 (Kd.int .u8)) _ 22 ?hg (N' := 106) ?hd (xs := ([l0] : List (List Int))) (inner := [.slice A0 l0.length c0]) (ok := fun _ => True) (okp := fun _ => True) ?hr ?hp (fun _ _ => trivial) trivial (Below.refl _ _) (Nat.le_refl _) (by simp) ?_; (case hd => rfl); (case hg => rfl); (case hr => first | (go_simp; done) | (go_simp; rfl)); (case hp => exact (Reps.one (show Kd.FK (Kd.slice 5 (Kd.int .u8)) _ _ l0 [.slice A0 l0.length c0] from Kd.FK_slice_mk (by exact HC0.out) (Kd.F_mono (Kd.C_F (Kd.heap_int .u8) (by repeat (first | exact (Kd.C_below HR0.out HB.out) | (with_reducible refine Kd.C_alloc ?_ _) | (with_reducible refine Kd.C_drewN ?_ _) | (with_reducible refine Kd.C_drew ?_)))) (fun _ _ => trivial))) (Reps.none _ _))); intro vl150 w61 ho hb hg_ hnew_; clear hg_ hnew_; (first | rw [← Ny147.out] at ho | (simp only [Int.reduceToNat] at ho; rw [← Ny147.out] at ho)); obtain ⟨Al150, cl150, el150⟩ := Kd.N_slice ho; subst el150; have hr := (Kd.N_reads' ho).2.2; have hl := (Kd.N_reads' ho).2.1; clear ho; have n0_ := Aside0.mk (Kd.R_below (by (with_reducible repeat (first | apply Kd.R_alloc | apply Kd.R_drewN | apply Kd.R_drew)); exact HO_8.out) hb); have n1_ := Aside0.mk (Kd.R_below (by (with_reducible repeat (first | apply Kd.R_alloc | apply Kd.R_drewN | apply Kd.R_drew)); exact HO_9.out) hb); have n2_ := Aside0.mk (below_step (by repeat (first | (with_reducible first | exact HB.out | apply below_alloc | apply pw_below_drewN | apply below_drew1) | exact HB.out)) hb); have n3_ := Aside0.mk (hr); have n4_ := Aside0.mk (hl); clear HO_8; clear HO_9; clear HB; have HO_8 := n0_; have HO_9 := n1_; have HB := n2_; have HRl150 := n3_; have HCl150 := n4_; clear n0_ n1_ n2_ n3_ n4_; clear hb hr hl) | ((with_reducible refine gate_callee (f := 26) rfl ?_); refine goesL_ (some 107) rfl rfl Try.func26 (by kernel_rfl) rfl #[.slice Al150 y147.length cl150] rfl (by (try simp only [List.map_toArray, List.map_cons, List.map_nil]); first | done | rfl | (simp only [List.length_drop, List.length_take]; rfl)) ?_; (with_reducible refine (octet_Sum.calls _ _ y147 t151 _ ?side1 ?side2 A49.out).mono ?_); (case side1 => repeat (first | exact (by repeat (first | (with_reducible exact HRl150.out) | (with_reducible refine Kd.C_alloc ?_ _) | (with_reducible refine Kd.C_drewN ?_ _) | (with_reducible refine Kd.C_drew ?_) | exact HRl150.out)) | (with_reducible refine Kd.C_alloc ?_ _) | (with_reducible refine Kd.C_drewN ?_ _) | (with_reducible refine Kd.C_drew ?_))); (case side2 => exact HCl150.out); rintro e w62 ⟨rfl, hb⟩; refine ⟨_, rfl, ?_⟩; have n0_ := Aside0.mk (Kd.R_below (by (with_reducible repeat (first | apply Kd.R_alloc | apply Kd.R_drewN | apply Kd.R_drew)); exact HO_8.out) hb); have n1_ := Aside0.mk (Kd.R_below (by (with_reducible repeat (first | apply Kd.R_alloc | apply Kd.R_drewN | apply Kd.R_drew)); exact HO_9.out) hb); have n2_ := Aside0.mk (Kd.C_below (by repeat (first | (with_reducible exact HRl150.out) | (with_reducible refine Kd.C_alloc ?_ _) | (with_reducible refine Kd.C_drewN ?_ _) | (with_reducible refine Kd.C_drew ?_) | exact HRl150.out)) hb); have n3_ := Aside0.mk (below_step (by repeat (first | (with_reducible first | exact HB.out | apply below_alloc | apply pw_below_drewN | apply below_drew1) | exact HB.out)) hb); clear HO_8; clear HO_9; clear HRl150; clear HB; have HO_8 := n0_; have HO_9 := n1_; have HRl150 := n2_; have HB := n3_; clear n0_ n1_ n2_ n3_; (try clear hb); (try clear hb2); (try clear hk); (try clear hi)) | ((with_reducible refine gate_dst (N := 109) rfl ?_); (try (refine gate_guard (by rfl) ?_; dsimp only)); refine Kd.N_lit (Kd.slice 5 (Kd.int .u8)) _ 22 ?hg (N' := 109) ?hd (xs := ([y139] : List (List Int))) (inner := [.slice (some ⟨go25, 0, none⟩) y139.length co32]) (ok := fun _ => True) (okp := fun _ => True) ?hr ?hp (fun _ _ => trivial) trivial (Below.refl _ _) (Nat.le_refl _) (by simp) ?_; (case hd => rfl); (case hg => rfl); (case hr => first | (go_simp; done) | (go_simp; rfl)); (case hp => exact (Reps.one (show Kd.FK (Kd.slice 5 (Kd.int .u8)) _ _ y139 [.slice (some ⟨go25, 0, none⟩) y139.length co32] from Kd.FK_slice_mk (by exact (Kd.R_reads' HO_8.out).2.1) (Kd.F_mono (Kd.C_F (Kd.heap_int .u8) (by repeat (first | exact (Kd.R_reads' HO_8.out).2.2 | (with_reducible refine Kd.C_alloc ?_ _) | (with_reducible refine Kd.C_drewN ?_ _) | (with_reducible refine Kd.C_drew ?_)))) (fun _ _ => trivial))) (Reps.none _ _))); intro vl155 w63 ho hb hg_ hnew_; clear hg_ hnew_; (first | rw [← Ny152.out] at ho | (simp only [Int.reduceToNat] at ho; rw [← Ny152.out] at ho)); obtain ⟨Al155, cl155, el155⟩ := Kd.N_slice ho; subst el155; have hr := (Kd.N_reads' ho).2.2; have hl := (Kd.N_reads' ho).2.1; clear ho; have n0_ := Aside0.mk (Kd.R_below (by (with_reducible repeat (first | apply Kd.R_alloc | apply Kd.R_drewN | apply Kd.R_drew)); exact HO_8.out) hb); have n1_ := Aside0.mk (Kd.R_below (by (with_reducible repeat (first | apply Kd.R_alloc | apply Kd.R_drewN | apply Kd.R_drew)); exact HO_9.out) hb); have n2_ := Aside0.mk (Kd.C_below (by repeat (first | (with_reducible exact HRl150.out) | (with_reducible refine Kd.C_alloc ?_ _) | (with_reducible refine Kd.C_drewN ?_ _) | (with_reducible refine Kd.C_drew ?_) | exact HRl150.out)) hb); have n3_ := Aside0.mk (below_step (by repeat (first | (with_reducible first | exact HB.out | apply below_alloc | apply pw_below_drewN | apply below_drew1) | exact HB.out)) hb); have n4_ := Aside0.mk (hr); have n5_ := Aside0.mk (hl); clear HO_8; clear HO_9; clear HRl150; clear HB; have HO_8 := n0_; have HO_9 := n1_; have HRl150 := n2_; have HB := n3_; have HRl155 := n4_; have HCl155 := n5_; clear n0_ n1_ n2_ n3_ n4_ n5_; clear hb hr hl) | ((with_reducible refine gate_callee (f := 26) rfl ?_); refine goesL_ (some 110) rfl rfl Try.func26 (by kernel_rfl) rfl #[.slice Al155 y152.length cl155] rfl (by (try simp only [List.map_toArray, List.map_cons, List.map_nil]); first | done | rfl | (simp only [List.length_drop, List.length_take]; rfl)) ?_; (with_reducible refine (octet_Sum.calls _ _ y152 t156 _ ?side1 ?side2 A50.out).mono ?_); (case side1 => repeat (first | exact (by repeat (first | (with_reducible exact HRl155.out) | (with_reducible refine Kd.C_alloc ?_ _) | (with_reducible refine Kd.C_drewN ?_ _) | (with_reducible refine Kd.C_drew ?_) | exact HRl155.out)) | (with_reducible refine Kd.C_alloc ?_ _) | (with_reducible refine Kd.C_drewN ?_ _) | (with_reducible refine Kd.C_drew ?_))); (case side2 => exact HCl155.out); rintro e w64 ⟨rfl, hb⟩; refine ⟨_, rfl, ?_⟩; have n0_ := Aside0.mk (Kd.R_below (by (with_reducible repeat (first | apply Kd.R_alloc | apply Kd.R_drewN | apply Kd.R_drew)); exact HO_8.out) hb); have n1_ := Aside0.mk (Kd.R_below (by (with_reducible repeat (first | apply Kd.R_alloc | apply Kd.R_drewN | apply Kd.R_drew)); exact HO_9.out) hb); have n2_ := Aside0.mk (Kd.C_below (by repeat (first | (with_reducible exact HRl150.out) | (with_reducible refine Kd.C_alloc ?_ _) | (with_reducible refine Kd.C_drewN ?_ _) | (with_reducible refine Kd.C_drew ?_) | exact HRl150.out)) hb); have n3_ := Aside0.mk (Kd.C_below (by repeat (first | (with_reducible exact HRl155.out) | (with_reducible refine Kd.C_alloc ?_ _) | (with_reducible refine Kd.C_drewN ?_ _) | (with_reducible refine Kd.C_drew ?_) | exact HRl155.out)) hb); have n4_ := Aside0.mk (below_step (by repeat (first | (with_reducible first | exact HB.out | apply below_alloc | apply pw_below_drewN | apply below_drew1) | exact HB.out)) hb); clear HO_8; clear HO_9; clear HRl150; clear HRl155; clear HB; have HO_8 := n0_; have HO_9 := n1_; have HRl150 := n2_; have HRl155 := n3_; have HB := n4_; clear n0_ n1_ n2_ n3_ n4_; (try clear hb); (try clear hb2); (try clear hk); (try clear hi)))
                                    go_ret
                                    exact ⟨by first | rfl | (simp [errW_none, errW_some] <;> rfl) | (simp only [← hji13, ← hji16, ← hji19, ← hji22]; first | rfl | (simp [errW_none, errW_some] <;> rfl)) | (simp [*, errW_none, errW_some] <;> rfl), by repeat (first | (with_reducible first | exact HB.out | apply below_alloc | apply pw_below_drewN | apply below_drew1) | exact HB.out)⟩
                          · rw [if_neg c24] at H
                            exact absurd H (by simp)
                        · rw [if_neg c23] at H
                          exact absurd H (by simp)
                      · rw [if_neg c21] at H
                        exact absurd H (by simp)
                    · rw [if_neg c20] at H
                      exact absurd H (by simp)
                  · rw [if_neg c18] at H
                    exact absurd H (by simp)
                · rw [if_neg c17] at H
                  exact absurd H (by simp)
              · rw [if_neg c15] at H
                exact absurd H (by simp)
            · rw [if_neg c14] at H
              exact absurd H (by simp)
  · replace c5 := Bool.eq_false_iff.mpr c5
    subst c5
    have H1 : (some false) = some r := by rw [if_neg (show ¬ (false = true) by decide)] at H; exact H
    clear H
    have H := H1
    clear H1
    obtain rfl := Option.some.inj H
    go_enter Try.func4, Try.ntmps4
    go_wp2_with (first | ((with_reducible refine gate_callee (f := 22) rfl ?_); refine goesL_ (some 12) rfl rfl Try.func22 (by kernel_rfl) rfl #[] rfl (by (try simp only [List.map_toArray, List.map_cons, List.map_nil]); first | done | rfl | (simp only [List.length_drop, List.length_take]; rfl)) ?_; (with_reducible refine (bailiwicklaw1_awake.calls  false _ A4.out).mono ?_); rintro e w65 ⟨rfl, hb⟩; refine ⟨_, rfl, ?_⟩; have n0_ := Aside0.mk (below_step (by repeat (first | (with_reducible first | exact HB.out | apply below_alloc | apply pw_below_drewN | apply below_drew1) | exact HB.out)) hb); clear HB; have HB := n0_; clear n0_; (try clear hb); (try clear hb2); (try clear hk); (try clear hi)))
    go_ret
    exact ⟨by first | rfl | (simp [errW_none, errW_some] <;> rfl) | (simp [*, errW_none, errW_some] <;> rfl), by repeat (first | (with_reducible first | exact HB.out | apply below_alloc | apply pw_below_drewN | apply below_drew1) | exact HB.out)⟩
def bailiwicklaw1_OctetSwaps.Pure : Prop := ∀ (l0 : List Int) (a1 : Int) (a2 : Int), (l0.length ≤ maxLen ∧ l0.length * 1 ≤ 140737488351232 ∧ ∀ a_ ∈ l0, (Lit.int .u8 a_).wf = true) → (Lit.int .i64 a1).wf = true → (Lit.int .i64 a2).wf = true → ∃ k, bailiwicklaw1_OctetSwaps.f k l0 a1 a2 = some true

end Go.Proofs.Ytdppnkgblklmmaa.P
