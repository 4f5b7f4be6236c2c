-- Laid by a program (wip/tools/myprint.py) out of the translation. Not trusted: Lean checks it.
import Derived.Test.YtdppnkgblklmmaaP0
import Derived.Test.YtdppnkgblklmmaaPbailiwickref1fold
namespace Go.Proofs.Ytdppnkgblklmmaa.P
open Go.RowKit Go.Proofs.YtdppnkgblklmmaaW.PrintWords Go.Proofs.YtdppnkgblklmmaaW.PrintLast Go.Proofs.YtdppnkgblklmmaaW.PrintMore
attribute [local go_sem] max2_int min2_int max_two min_two max_three min_three max_four min_four   -- for this text's walks alone
set_option linter.unusedVariables false
set_option linter.unusedSimpArgs false

/-! ### bailiwickref1_Sum: function 27 -/
mutual
def bailiwickref1_Sum.l0 : Nat → List (List Int) → Int → Bool → Int → Option (Int)
  | 0, _, _, _, _ => none
  | k + 1, x0, x3, x4, x5 => if x5 < (x0.length : Int) then (bailiwickref1_Sum.l1 k x0 x3 x4 x5 0) else ((bailiwickref1_fold.f k x3).bind fun t162 => (some t162))
def bailiwickref1_Sum.l1 : Nat → List (List Int) → Int → Bool → Int → Int → Option (Int)
  | 0, _, _, _, _, _ => none
  | k + 1, x0, x3, x4, x5, x6 => if 0 ≤ x5 then (if x5 < (x0.length : Int) then (if x6 < ((rd_L1 x0 x5).length : Int) then (if x4 = true then (if 0 ≤ x6 then (bailiwickref1_Sum.l1 k x0 (IntKind.u64.wrap (x3 + (IntKind.u64.wrap ((IntKind.u64.wrap (rd (rd_L1 x0 x5) x6)) * 256)))) (!x4) x5 (wrap64 (x6 + 1))) else (none)) else (if 0 ≤ x6 then (bailiwickref1_Sum.l1 k x0 (IntKind.u64.wrap (x3 + (IntKind.u64.wrap (rd (rd_L1 x0 x5) x6)))) (!x4) x5 (wrap64 (x6 + 1))) else (none))) else (bailiwickref1_Sum.l0 k x0 x3 x4 (wrap64 (x5 + 1)))) else (none)) else (none)
end
def bailiwickref1_Sum.f (k : Nat) (l0 : List (List Int)) : Option (Int) := bailiwickref1_Sum.l0 k l0 0 true 0
theorem bailiwickref1_Sum.mono_l : ∀ k, (∀ y0 y1 y2 y3, LeO (bailiwickref1_Sum.l0 k y0 y1 y2 y3) (bailiwickref1_Sum.l0 (k + 1) y0 y1 y2 y3)) ∧ (∀ y0 y1 y2 y3 y4, LeO (bailiwickref1_Sum.l1 k y0 y1 y2 y3 y4) (bailiwickref1_Sum.l1 (k + 1) y0 y1 y2 y3 y4))
  | 0 => ⟨fun _ _ _ _ r h => by simp [bailiwickref1_Sum.l0] at h, fun _ _ _ _ _ r h => by simp [bailiwickref1_Sum.l1] at h⟩
  | k + 1 => by
    obtain ⟨ih0, ih1⟩ := bailiwickref1_Sum.mono_l k
    refine ⟨?_, ?_⟩
    · intro y0 y1 y2 y3
      unfold bailiwickref1_Sum.l0
      repeat' first
      | (with_reducible exact ih0 _ _ _ _)
      | (with_reducible exact ih1 _ _ _ _ _)
      | (with_reducible exact bailiwickref1_fold.mono _ _)
      | (with_reducible exact LeO.refl _)
      | (with_reducible exact LeO.none _)
      | (with_reducible refine LeO.ite ?_ ?_)
      | (with_reducible refine LeO.bind ?_ (fun _ => ?_))
      | exact ih0 _ _ _ _
      | exact ih1 _ _ _ _ _
      | exact bailiwickref1_fold.mono _ _
      | exact LeO.none _
      | refine LeO.ite ?_ ?_
      | refine LeO.bind ?_ (fun _ => ?_)
    · intro y0 y1 y2 y3 y4
      unfold bailiwickref1_Sum.l1
      repeat' first
      | (with_reducible exact ih0 _ _ _ _)
      | (with_reducible exact ih1 _ _ _ _ _)
      | (with_reducible exact bailiwickref1_fold.mono _ _)
      | (with_reducible exact LeO.refl _)
      | (with_reducible exact LeO.none _)
      | (with_reducible refine LeO.ite ?_ ?_)
      | (with_reducible refine LeO.bind ?_ (fun _ => ?_))
      | exact ih0 _ _ _ _
      | exact ih1 _ _ _ _ _
      | exact bailiwickref1_fold.mono _ _
      | exact LeO.none _
      | refine LeO.ite ?_ ?_
      | refine LeO.bind ?_ (fun _ => ?_)
theorem bailiwickref1_Sum.mono : ∀ a0 k, LeO (bailiwickref1_Sum.f k a0) (bailiwickref1_Sum.f (k + 1) a0) := by
  intro a0 k
  obtain ⟨ih0, ih1⟩ := bailiwickref1_Sum.mono_l k
  unfold bailiwickref1_Sum.f
  repeat' first
      | (with_reducible exact ih0 _ _ _ _)
      | (with_reducible exact ih1 _ _ _ _ _)
      | (with_reducible exact bailiwickref1_fold.mono _ _)
      | (with_reducible exact LeO.refl _)
      | (with_reducible exact LeO.none _)
      | (with_reducible refine LeO.ite ?_ ?_)
      | (with_reducible refine LeO.bind ?_ (fun _ => ?_))
      | exact ih0 _ _ _ _
      | exact ih1 _ _ _ _ _
      | exact bailiwickref1_fold.mono _ _
      | exact LeO.none _
      | refine LeO.ite ?_ ?_
      | refine LeO.bind ?_ (fun _ => ?_)
set_option maxHeartbeats 8000000 in
set_option maxRecDepth 100000 in
theorem bailiwickref1_Sum.calls (k : Nat) (A0 : Option Addr) (c0 : Nat) (l0 : List (List Int)) (r : Int) (w : World) (hr0 : Kd.C (Kd.slice 5 (Kd.int .u8)) w A0 l0.length l0) (hc0 : l0.length ≤ c0) (h : bailiwickref1_Sum.f k l0 = some r) :
    Calls Try.prog 27 #[.slice A0 l0.length c0] w fun e w' => e = .returned (.int .i64 r) ∧ Drawn0 w w' := by
  have HR0 := Aside0.mk hr0
  have HC0 := Aside0.mk hc0
  clear hr0 hc0
  have H : (bailiwickref1_Sum.l0 k l0 0 true 0) = some r := h
  clear h
  have H' := Aside0.mk H
  clear H
  go_enter Try.func27, Try.ntmps27
  go_wp2
  go_loopg [3, 4, 5] k (fun kq v3 v4 v5 w' => ∃ (x3_1 : Int) (x4_1 : Bool) (x5_1 : Int), v3 = .int .u64 x3_1 ∧ v4 = .bool x4_1 ∧ v5 = .int .i64 x5_1 ∧ Aside0 (bailiwickref1_Sum.l0 kq l0 x3_1 x4_1 x5_1 = some r) ∧ Aside0 (kq ≤ k) ∧ Drawn0 w w')
  case atStart => exact ⟨(0), (true), (0), (by first | rfl | (simp; done) | (simp [*]; done)), (by first | rfl | (simp; done) | (simp [*]; done)), (by first | rfl | (simp; done) | (simp [*]; done)), H', ⟨Nat.le_refl _⟩, by repeat (first | exact Drawn0.refl _ | apply Drawn0.step)⟩
  case round =>
    clear H'
    obtain ⟨x3_1, x4_1, x5_1, rfl, rfl, rfl, HA, HK1, ⟨m1, rfl⟩⟩ := hrel
    cases gk with
    | zero => exact absurd HA.out (by simp [bailiwickref1_Sum.l0])
    | succ k1 =>
      have H := HA.out
      clear HA
      simp only [bailiwickref1_Sum.l0] at H
      by_cases c2 : x5_1 < (l0.length : Int)
      · rw [if_pos c2] at H
        have c2b0 : decide (x5_1 < (l0.length : Int)) = true := decide_eq_true c2
        clear c2
        have H' := Aside0.mk H
        clear H
        go_wp2
        go_loopg [3, 4, 6] k1 (fun kq v3 v4 v6 w' => ∃ (x3_2 : Int) (x4_2 : Bool) (x6_2 : Int), v3 = .int .u64 x3_2 ∧ v4 = .bool x4_2 ∧ v6 = .int .i64 x6_2 ∧ Aside0 (bailiwickref1_Sum.l1 kq l0 x3_2 x4_2 x5_1 x6_2 = some r) ∧ Aside0 (kq ≤ k1) ∧ Drawn0 w w')
        case atStart => exact ⟨(x3_1), (x4_1), (0), (by first | rfl | (simp; done) | (simp [*]; done)), (by first | rfl | (simp; done) | (simp [*]; done)), (by first | rfl | (simp; done) | (simp [*]; done)), H', ⟨Nat.le_refl _⟩, by repeat (first | exact Drawn0.refl _ | apply Drawn0.step)⟩
        case round =>
          clear H'
          try clear c2
          try clear c2b0
          try clear p2
          obtain ⟨x3_2, x4_2, x6_2, rfl, rfl, rfl, HA, HK2, ⟨m2, rfl⟩⟩ := hrel
          cases gk with
          | zero => exact absurd HA.out (by simp [bailiwickref1_Sum.l1])
          | succ k2 =>
            have H := HA.out
            clear HA
            simp only [bailiwickref1_Sum.l1] at H
            by_cases c3 : 0 ≤ x5_1
            · rw [if_pos c3] at H
              have c3b0 : decide (0 ≤ x5_1) = true := decide_eq_true c3
              clear c3
              by_cases c4 : x5_1 < (l0.length : Int)
              · rw [if_pos c4] at H
                have c4b0 : decide (x5_1 < (l0.length : Int)) = true := decide_eq_true c4
                clear c4
                by_cases c5 : x6_2 < ((rd_L1 l0 x5_1).length : Int)
                · rw [if_pos c5] at H
                  have c5b0 : decide (x6_2 < ((rd_L1 l0 x5_1).length : Int)) = true := decide_eq_true c5
                  clear c5
                  by_cases c6 : x4_2 = true
                  · subst c6
                    have H1 : (if 0 ≤ x6_2 then (bailiwickref1_Sum.l1 k2 l0 (IntKind.u64.wrap (x3_2 + (IntKind.u64.wrap ((IntKind.u64.wrap (rd (rd_L1 l0 x5_1) x6_2)) * 256)))) (!true) x5_1 (wrap64 (x6_2 + 1))) else (none)) = some r := by rw [if_pos rfl] at H; exact H
                    clear H
                    have H := H1
                    clear H1
                    by_cases c7 : 0 ≤ x6_2
                    · rw [if_pos c7] at H
                      have c7b0 : decide (0 ≤ x6_2) = true := decide_eq_true c7
                      clear c7
                      have H' := Aside0.mk H
                      clear H
                      have p163 : 0 ≤ (x5_1 : Int) := of_decide_eq_true (by first | (with_reducible assumption) | assumption)
                      have q163 : x5_1 < (l0.length : Int) := of_decide_eq_true (by first | (with_reducible assumption) | assumption)
                      obtain ⟨ad163, A163_0, c163_0, e163, hx163_0, hl163_0, hi163_0⟩ := at_L1 HR0.out x5_1 p163 q163
                      cases e163
                      have HR163_0 := Aside0.mk hi163_0
                      have HC163_0 := Aside0.mk hl163_0
                      clear hi163_0 hl163_0
                      replace p163 := eq_true p163
                      replace q163 := eq_true q163
                      have p164 : 0 ≤ (x5_1 : Int) := of_decide_eq_true (by first | (with_reducible assumption) | assumption)
                      have q164 : x5_1 < (l0.length : Int) := of_decide_eq_true (by first | (with_reducible assumption) | assumption)
                      obtain ⟨ad164, A164_0, c164_0, e164, hx164_0, hl164_0, hi164_0⟩ := at_L1 HR0.out x5_1 p164 q164
                      obtain rfl : ad163 = ad164 := (by injection e164)
                      have HR164_0 := Aside0.mk hi164_0
                      have HC164_0 := Aside0.mk hl164_0
                      clear hi164_0 hl164_0
                      replace p164 := eq_true p164
                      replace q164 := eq_true q164
                      have ea_ := Option.some.inj (hx163_0.symm.trans hx164_0)
                      injection ea_ with ea_ en_ ec_
                      subst ea_
                      subst ec_
                      clear en_
                      have p165 : 0 ≤ (x6_2 : Int) := of_decide_eq_true (by first | (with_reducible assumption) | assumption)
                      have q165 : x6_2 < ((rd_L1 l0 x5_1).length : Int) := of_decide_eq_true (by first | (with_reducible assumption) | assumption)
                      obtain ⟨ad165, e165, hx165_0⟩ := Kd.at_int HR164_0.out x6_2 p165 q165
                      cases e165
                      replace p165 := eq_true p165
                      replace q165 := eq_true q165
                      go_wp2
                      go_roundg k2
                      case measure => have := HK1.out; have := HK2.out; omega
                      case rel => exact ⟨(IntKind.u64.wrap (x3_2 + (IntKind.u64.wrap ((IntKind.u64.wrap (rd (rd_L1 l0 x5_1) x6_2)) * 256)))), (!true), (wrap64 (x6_2 + 1)), (by first | rfl | (simp; done) | (simp [*]; done)), (by first | rfl | (simp; done) | (simp [*]; done)), (by first | rfl | (simp; done) | (simp [*]; done)), H', ⟨by have := HK1.out; have := HK2.out; omega⟩, by repeat (first | exact Drawn0.refl _ | apply Drawn0.step)⟩
                    · rw [if_neg c7] at H
                      exact absurd H (by simp)
                  · replace c6 := Bool.eq_false_iff.mpr c6
                    subst c6
                    have H1 : (if 0 ≤ x6_2 then (bailiwickref1_Sum.l1 k2 l0 (IntKind.u64.wrap (x3_2 + (IntKind.u64.wrap (rd (rd_L1 l0 x5_1) x6_2)))) (!false) x5_1 (wrap64 (x6_2 + 1))) else (none)) = some r := by rw [if_neg (show ¬ (false = true) by decide)] at H; exact H
                    clear H
                    have H := H1
                    clear H1
                    by_cases c8 : 0 ≤ x6_2
                    · rw [if_pos c8] at H
                      have c8b0 : decide (0 ≤ x6_2) = true := decide_eq_true c8
                      clear c8
                      have H' := Aside0.mk H
                      clear H
                      have p163 : 0 ≤ (x5_1 : Int) := of_decide_eq_true (by first | (with_reducible assumption) | assumption)
                      have q163 : x5_1 < (l0.length : Int) := of_decide_eq_true (by first | (with_reducible assumption) | assumption)
                      obtain ⟨ad163, A163_0, c163_0, e163, hx163_0, hl163_0, hi163_0⟩ := at_L1 HR0.out x5_1 p163 q163
                      cases e163
                      have HR163_0 := Aside0.mk hi163_0
                      have HC163_0 := Aside0.mk hl163_0
                      clear hi163_0 hl163_0
                      replace p163 := eq_true p163
                      replace q163 := eq_true q163
                      have p166 : 0 ≤ (x5_1 : Int) := of_decide_eq_true (by first | (with_reducible assumption) | assumption)
                      have q166 : x5_1 < (l0.length : Int) := of_decide_eq_true (by first | (with_reducible assumption) | assumption)
                      obtain ⟨ad166, A166_0, c166_0, e166, hx166_0, hl166_0, hi166_0⟩ := at_L1 HR0.out x5_1 p166 q166
                      obtain rfl : ad163 = ad166 := (by injection e166)
                      have HR166_0 := Aside0.mk hi166_0
                      have HC166_0 := Aside0.mk hl166_0
                      clear hi166_0 hl166_0
                      replace p166 := eq_true p166
                      replace q166 := eq_true q166
                      have ea_ := Option.some.inj (hx163_0.symm.trans hx166_0)
                      injection ea_ with ea_ en_ ec_
                      subst ea_
                      subst ec_
                      clear en_
                      have p167 : 0 ≤ (x6_2 : Int) := of_decide_eq_true (by first | (with_reducible assumption) | assumption)
                      have q167 : x6_2 < ((rd_L1 l0 x5_1).length : Int) := of_decide_eq_true (by first | (with_reducible assumption) | assumption)
                      obtain ⟨ad167, e167, hx167_0⟩ := Kd.at_int HR166_0.out x6_2 p167 q167
                      cases e167
                      replace p167 := eq_true p167
                      replace q167 := eq_true q167
                      go_wp2
                      go_roundg k2
                      case measure => have := HK1.out; have := HK2.out; omega
                      case rel => exact ⟨(IntKind.u64.wrap (x3_2 + (IntKind.u64.wrap (rd (rd_L1 l0 x5_1) x6_2)))), (!false), (wrap64 (x6_2 + 1)), (by first | rfl | (simp; done) | (simp [*]; done)), (by first | rfl | (simp; done) | (simp [*]; done)), (by first | rfl | (simp; done) | (simp [*]; done)), H', ⟨by have := HK1.out; have := HK2.out; omega⟩, by repeat (first | exact Drawn0.refl _ | apply Drawn0.step)⟩
                    · rw [if_neg c8] at H
                      exact absurd H (by simp)
                · rw [if_neg c5] at H
                  have c5b0 : decide (x6_2 < ((rd_L1 l0 x5_1).length : Int)) = false := decide_eq_false c5
                  clear c5
                  have H' := Aside0.mk H
                  clear H
                  have p163 : 0 ≤ (x5_1 : Int) := of_decide_eq_true (by first | (with_reducible assumption) | assumption)
                  have q163 : x5_1 < (l0.length : Int) := of_decide_eq_true (by first | (with_reducible assumption) | assumption)
                  obtain ⟨ad163, A163_0, c163_0, e163, hx163_0, hl163_0, hi163_0⟩ := at_L1 HR0.out x5_1 p163 q163
                  cases e163
                  have HR163_0 := Aside0.mk hi163_0
                  have HC163_0 := Aside0.mk hl163_0
                  clear hi163_0 hl163_0
                  replace p163 := eq_true p163
                  replace q163 := eq_true q163
                  go_wp2
                  go_roundg k2
                  case measure => have := HK1.out; have := HK2.out; omega
                  case rel => exact ⟨(x3_2), (x4_2), (wrap64 (x5_1 + 1)), (by first | rfl | (simp; done) | (simp [*]; done)), (by first | rfl | (simp; done) | (simp [*]; done)), (by first | rfl | (simp; done) | (simp [*]; done)), H', ⟨by have := HK1.out; have := HK2.out; omega⟩, by repeat (first | exact Drawn0.refl _ | apply Drawn0.step)⟩
              · rw [if_neg c4] at H
                exact absurd H (by simp)
            · rw [if_neg c3] at H
              exact absurd H (by simp)
      · rw [if_neg c2] at H
        have c2b0 : decide (x5_1 < (l0.length : Int)) = false := decide_eq_false c2
        clear c2
        replace H := Option.bind_eq_some_iff.mp H
        obtain ⟨t162, A90, H⟩ := H
        replace H : (some t162) = some r := H
        have A9 := Aside0.mk A90
        clear A90
        obtain rfl := Option.some.inj H
        go_wp2_with (first | ((with_reducible refine gate_callee (f := 58) rfl ?_); refine goesL_ (some 47) rfl rfl Try.func58 (by kernel_rfl) rfl #[.int .u64 x3_1] rfl (by (try simp only [List.map_toArray, List.map_cons, List.map_nil]); first | done | rfl | (simp only [List.length_drop, List.length_take]; rfl)) ?_; (with_reducible refine (bailiwickref1_fold.calls k1 x3_1 t162 _ A9.out).mono ?_); rintro e w' ⟨rfl, ⟨nd, rfl⟩⟩; refine ⟨_, rfl, ?_⟩))
        go_ret
        exact ⟨by first | rfl | (simp; done) | (simp [*]; done), by repeat (first | exact Drawn0.refl _ | apply Drawn0.step)⟩

end Go.Proofs.Ytdppnkgblklmmaa.P
