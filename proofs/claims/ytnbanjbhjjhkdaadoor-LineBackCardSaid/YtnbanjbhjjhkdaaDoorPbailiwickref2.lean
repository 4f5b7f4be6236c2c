-- Laid by a program (wip/tools/myprint.py) out of the translation. Not trusted: Lean checks it.
import Derived.Test.YtnbanjbhjjhkdaaDoorP0
namespace Go.Proofs.YtnbanjbhjjhkdaaDoor.P
open Go.RowKit Go.Proofs.YtnbanjbhjjhkdaaDoorW.PrintWords Go.Proofs.YtnbanjbhjjhkdaaDoorW.PrintLast
set_option linter.unusedVariables false
set_option linter.unusedSimpArgs false

/-! ### bailiwickref2_Dec: function 18 -/
def bailiwickref2_Dec.l0 : Nat → Int → ByteArray → Option (ByteArray)
  | 0, _, _ => none
  | k + 1, x0, x3 => (some (([(IntKind.u64.wrap (48 + (Int.tmod x0 10))) % 256] : List Int) : List Int)).bind fun y128 => (if (strOfNums y128).size + x3.size ≤ 9223372036854775807 then (if (IntKind.u64.wrap (Int.tdiv x0 10)) = 0 then (some ((strOfNums y128) ++ x3)) else (bailiwickref2_Dec.l0 k (IntKind.u64.wrap (Int.tdiv x0 10)) ((strOfNums y128) ++ x3))) else (none))
def bailiwickref2_Dec.f (k : Nat) (a0 : Int) : Option (ByteArray) := bailiwickref2_Dec.l0 k a0 (⟨#[]⟩ : ByteArray)
theorem bailiwickref2_Dec.mono_l : ∀ k, (∀ y0 y1, LeO (bailiwickref2_Dec.l0 k y0 y1) (bailiwickref2_Dec.l0 (k + 1) y0 y1))
  | 0 => fun _ _ r h => by simp [bailiwickref2_Dec.l0] at h
  | k + 1 => by
    have ih0 := bailiwickref2_Dec.mono_l k
    · intro y0 y1
      unfold bailiwickref2_Dec.l0
      repeat' first
      | (with_reducible exact ih0 _ _)
      | (with_reducible exact LeO.refl _)
      | (with_reducible exact LeO.none _)
      | (with_reducible refine LeO.ite ?_ ?_)
      | (with_reducible refine LeO.bind ?_ (fun _ => ?_))
      | exact ih0 _ _
      | exact LeO.none _
      | refine LeO.ite ?_ ?_
      | refine LeO.bind ?_ (fun _ => ?_)
theorem bailiwickref2_Dec.mono : ∀ a0 k, LeO (bailiwickref2_Dec.f k a0) (bailiwickref2_Dec.f (k + 1) a0) := by
  intro a0 k
  have ih0 := bailiwickref2_Dec.mono_l k
  unfold bailiwickref2_Dec.f
  repeat' first
      | (with_reducible exact ih0 _ _)
      | (with_reducible exact LeO.refl _)
      | (with_reducible exact LeO.none _)
      | (with_reducible refine LeO.ite ?_ ?_)
      | (with_reducible refine LeO.bind ?_ (fun _ => ?_))
      | exact ih0 _ _
      | exact LeO.none _
      | refine LeO.ite ?_ ?_
      | refine LeO.bind ?_ (fun _ => ?_)
set_option maxHeartbeats 8000000 in
set_option maxRecDepth 100000 in
theorem bailiwickref2_Dec.calls (k : Nat) (a0 : Int) (r : ByteArray) (w : World) (h : bailiwickref2_Dec.f k a0 = some r) :
    Calls Tryd.prog 18 #[.int .u64 a0] w fun e w' => e = .returned (.string r) ∧ Below w.heap.size w w' := by
  have HB := Aside0.mk (Below.refl w.heap.size w)
  have H : (bailiwickref2_Dec.l0 k a0 (⟨#[]⟩ : ByteArray)) = some r := h
  clear h
  have H' := Aside0.mk H
  clear H
  go_enter Tryd.func18, Tryd.ntmps18
  go_wp2
  go_loopg [0, 3] k (fun kq v0 v3 w' => ∃ (x0_1 : Int) (x3_1 : ByteArray), v0 = .int .u64 x0_1 ∧ v3 = .string x3_1 ∧ Aside0 (bailiwickref2_Dec.l0 kq x0_1 x3_1 = some r) ∧ Aside0 (kq ≤ k) ∧ Aside0 (Below w.heap.size w w'))
  case atStart => exact ⟨(a0), ((⟨#[]⟩ : ByteArray)), (by first | rfl | (simp; done) | (simp [*]; done)), (by first | rfl | (simp; done) | (simp [*]; done)), H', ⟨Nat.le_refl _⟩, ⟨by repeat (first | (with_reducible first | exact HB.out | apply below_alloc | apply pw_below_drewN | apply below_drew1) | exact HB.out)⟩⟩
  case round =>
    clear H'
    try clear c1
    obtain ⟨x0_1, x3_1, rfl, rfl, HA, HK1, HB⟩ := hrel
    cases gk with
    | zero => exact absurd HA.out (by simp [bailiwickref2_Dec.l0])
    | succ k1 =>
      have H := HA.out
      clear HA
      simp only [bailiwickref2_Dec.l0] at H
      obtain ⟨y128, hy128⟩ : ∃ y_ : List Int, y_ = (([(IntKind.u64.wrap (48 + (Int.tmod x0_1 10))) % 256] : List Int)) := ⟨_, rfl⟩
      replace H : (if (strOfNums y128).size + x3_1.size ≤ 9223372036854775807 then (if (IntKind.u64.wrap (Int.tdiv x0_1 10)) = 0 then (some ((strOfNums y128) ++ x3_1)) else (bailiwickref2_Dec.l0 k1 (IntKind.u64.wrap (Int.tdiv x0_1 10)) ((strOfNums y128) ++ x3_1))) else (none)) = some r := by first | (rw [hy128]; with_reducible exact H) | (have H2_ := (Option.bind_some _ _).symm.trans H; rw [hy128]; with_reducible exact H2_) | (have H2_ := (Option.bind_some _ _).symm.trans H; with_reducible exact H2_) | with_reducible exact H | (rw [hy128]; exact H) | exact H
      have Ny128 := Aside0.mk hy128
      clear hy128
      by_cases c2 : (strOfNums y128).size + x3_1.size ≤ 9223372036854775807
      · rw [if_pos c2] at H
        have c2b0 := eq_true c2
        have c2b1 : decide ((strOfNums y128).size + x3_1.size ≤ 9223372036854775807) = true := decide_eq_true c2
        try have c2b2 : (9223372036854775807 < (strOfNums y128).size + x3_1.size) = False := eq_false (Nat.not_lt.2 c2)
        by_cases c3 : (IntKind.u64.wrap (Int.tdiv x0_1 10)) = 0
        · rw [if_pos c3] at H
          have c3b0 : ((IntKind.u64.wrap (Int.tdiv x0_1 10)) == 0) = true := beq_iff_eq.mpr c3
          have c3b1 : ((IntKind.u64.wrap (Int.tdiv x0_1 10)) != 0) = false := bne_eq_false_iff_eq.mpr c3
          clear c3
          obtain rfl := Option.some.inj H
          go_wp2_with (first | ((with_reducible refine gate_dst (N := 8) rfl ?_); refine Kd.R_lit (Kd.int .u8) _ 5 ?hg (N := 8) ?hd (xs := ([(IntKind.u64.wrap (48 + (Int.tmod x0_1 10))) % 256] : List Int)) (inner := [.int .u8 ((IntKind.u64.wrap (48 + (Int.tmod x0_1 10))) % 256)]) (ok := fun _ => True) (okp := fun _ => True) ?hr ?hp (fun _ hk => hk) trivial (Below.refl _ _) (Nat.le_refl _) (by simp) ?_; (case hd => rfl); (case hg => rfl); (case hr => first | (go_simp; done) | (go_simp; rfl)); (case hp => exact (Reps.one (show Kd.M (Kd.int .u8) _ _ _ ((IntKind.u64.wrap (48 + (Int.tmod x0_1 10))) % 256) [.int .u8 ((IntKind.u64.wrap (48 + (Int.tmod x0_1 10))) % 256)] from rfl) (Reps.none _ _))); intro v129 w4 ho5 hb hg_ hnew_; clear hg_ hnew_; (first | rw [← Ny128.out] at ho5 | (simp only [Int.reduceToNat] at ho5; rw [← Ny128.out] at ho5)); have n0_ := Aside0.mk (Kd.R_lower ho5 (below_size (by repeat (first | (with_reducible first | exact HB.out | apply below_alloc | apply pw_below_drewN | apply below_drew1) | exact HB.out)))); have n1_ := Aside0.mk (below_step (by repeat (first | (with_reducible first | exact HB.out | apply below_alloc | apply pw_below_drewN | apply below_drew1) | exact HB.out)) hb); clear HB; have HO130 := n0_; have HB := n1_; clear n0_ n1_; clear hb ho5; have hcv6 := own_string (P := Tryd.prog) Tryd.underlying32 Tryd.underlying5 Tryd.underlying9 (Kd.own_of_R HO130.out)))
          go_ret
          exact ⟨by first | rfl | (simp [errW_none, errW_some] <;> rfl) | (simp [*, errW_none, errW_some] <;> rfl), by repeat (first | (with_reducible first | exact HB.out | apply below_alloc | apply pw_below_drewN | apply below_drew1) | exact HB.out)⟩
        · rw [if_neg c3] at H
          have c3b0 : ((IntKind.u64.wrap (Int.tdiv x0_1 10)) == 0) = false := beq_eq_false_iff_ne.mpr c3
          have c3b1 : ((IntKind.u64.wrap (Int.tdiv x0_1 10)) != 0) = true := bne_iff_ne.mpr c3
          have H' := Aside0.mk H
          clear H
          go_wp2_with (first | ((with_reducible refine gate_dst (N := 8) rfl ?_); refine Kd.R_lit (Kd.int .u8) _ 5 ?hg (N := 8) ?hd (xs := ([(IntKind.u64.wrap (48 + (Int.tmod x0_1 10))) % 256] : List Int)) (inner := [.int .u8 ((IntKind.u64.wrap (48 + (Int.tmod x0_1 10))) % 256)]) (ok := fun _ => True) (okp := fun _ => True) ?hr ?hp (fun _ hk => hk) trivial (Below.refl _ _) (Nat.le_refl _) (by simp) ?_; (case hd => rfl); (case hg => rfl); (case hr => first | (go_simp; done) | (go_simp; rfl)); (case hp => exact (Reps.one (show Kd.M (Kd.int .u8) _ _ _ ((IntKind.u64.wrap (48 + (Int.tmod x0_1 10))) % 256) [.int .u8 ((IntKind.u64.wrap (48 + (Int.tmod x0_1 10))) % 256)] from rfl) (Reps.none _ _))); intro v129 w7 ho8 hb hg_ hnew_; clear hg_ hnew_; (first | rw [← Ny128.out] at ho8 | (simp only [Int.reduceToNat] at ho8; rw [← Ny128.out] at ho8)); have n0_ := Aside0.mk (Kd.R_lower ho8 (below_size (by repeat (first | (with_reducible first | exact HB.out | apply below_alloc | apply pw_below_drewN | apply below_drew1) | exact HB.out)))); have n1_ := Aside0.mk (below_step (by repeat (first | (with_reducible first | exact HB.out | apply below_alloc | apply pw_below_drewN | apply below_drew1) | exact HB.out)) hb); clear HB; have HO130 := n0_; have HB := n1_; clear n0_ n1_; clear hb ho8; have hcv9 := own_string (P := Tryd.prog) Tryd.underlying32 Tryd.underlying5 Tryd.underlying9 (Kd.own_of_R HO130.out)))
          go_roundg k1
          case measure => have := HK1.out; omega
          case rel => exact ⟨(IntKind.u64.wrap (Int.tdiv x0_1 10)), ((strOfNums y128) ++ x3_1), (by first | rfl | (simp; done) | (simp [*]; done)), (by first | rfl | (simp; done) | (simp [*]; done)), H', ⟨by have := HK1.out; omega⟩, ⟨by repeat (first | (with_reducible first | exact HB.out | apply below_alloc | apply pw_below_drewN | apply below_drew1) | exact HB.out)⟩⟩
      · rw [if_neg c2] at H
        exact absurd H (by simp)

/-! ### bailiwickref2_Show: function 19 -/
def bailiwickref2_Show.f (k : Nat) (a0 : Int) : Option (ByteArray) := (bailiwickref2_Dec.f k (IntKind.u64.wrap (a0 / 16777216))).bind fun t131 => (if t131.size + 1 ≤ 9223372036854775807 then ((bailiwickref2_Dec.f k (IntKind.u64.wrap (Go.bits .and .u32 (a0 / 65536) 255))).bind fun t132 => (if (t131 ++ (⟨#[46]⟩ : ByteArray)).size + t132.size ≤ 9223372036854775807 then (if ((t131 ++ (⟨#[46]⟩ : ByteArray)) ++ t132).size + 1 ≤ 9223372036854775807 then ((bailiwickref2_Dec.f k (IntKind.u64.wrap (Go.bits .and .u32 (a0 / 256) 255))).bind fun t133 => (if (((t131 ++ (⟨#[46]⟩ : ByteArray)) ++ t132) ++ (⟨#[46]⟩ : ByteArray)).size + t133.size ≤ 9223372036854775807 then (if ((((t131 ++ (⟨#[46]⟩ : ByteArray)) ++ t132) ++ (⟨#[46]⟩ : ByteArray)) ++ t133).size + 1 ≤ 9223372036854775807 then ((bailiwickref2_Dec.f k (IntKind.u64.wrap (Go.bits .and .u32 a0 255))).bind fun t134 => (if (((((t131 ++ (⟨#[46]⟩ : ByteArray)) ++ t132) ++ (⟨#[46]⟩ : ByteArray)) ++ t133) ++ (⟨#[46]⟩ : ByteArray)).size + t134.size ≤ 9223372036854775807 then (some ((((((t131 ++ (⟨#[46]⟩ : ByteArray)) ++ t132) ++ (⟨#[46]⟩ : ByteArray)) ++ t133) ++ (⟨#[46]⟩ : ByteArray)) ++ t134)) else (none))) else (none)) else (none))) else (none)) else (none))) else (none))
theorem bailiwickref2_Show.mono : ∀ a0 k, LeO (bailiwickref2_Show.f k a0) (bailiwickref2_Show.f (k + 1) a0) := by
  intro a0 k
  unfold bailiwickref2_Show.f
  repeat' first
      | (with_reducible exact bailiwickref2_Dec.mono _ _)
      | (with_reducible exact LeO.refl _)
      | (with_reducible exact LeO.none _)
      | (with_reducible refine LeO.ite ?_ ?_)
      | (with_reducible refine LeO.bind ?_ (fun _ => ?_))
      | exact bailiwickref2_Dec.mono _ _
      | exact LeO.none _
      | refine LeO.ite ?_ ?_
      | refine LeO.bind ?_ (fun _ => ?_)
set_option maxHeartbeats 8000000 in
set_option maxRecDepth 100000 in
theorem bailiwickref2_Show.calls (k : Nat) (a0 : Int) (r : ByteArray) (w : World) (h : bailiwickref2_Show.f k a0 = some r) :
    Calls Tryd.prog 19 #[.int .u32 a0] w fun e w' => e = .returned (.string r) ∧ Below w.heap.size w w' := by
  have HB := Aside0.mk (Below.refl w.heap.size w)
  have H : ((bailiwickref2_Dec.f k (IntKind.u64.wrap (a0 / 16777216))).bind fun t131 => (if t131.size + 1 ≤ 9223372036854775807 then ((bailiwickref2_Dec.f k (IntKind.u64.wrap (Go.bits .and .u32 (a0 / 65536) 255))).bind fun t132 => (if (t131 ++ (⟨#[46]⟩ : ByteArray)).size + t132.size ≤ 9223372036854775807 then (if ((t131 ++ (⟨#[46]⟩ : ByteArray)) ++ t132).size + 1 ≤ 9223372036854775807 then ((bailiwickref2_Dec.f k (IntKind.u64.wrap (Go.bits .and .u32 (a0 / 256) 255))).bind fun t133 => (if (((t131 ++ (⟨#[46]⟩ : ByteArray)) ++ t132) ++ (⟨#[46]⟩ : ByteArray)).size + t133.size ≤ 9223372036854775807 then (if ((((t131 ++ (⟨#[46]⟩ : ByteArray)) ++ t132) ++ (⟨#[46]⟩ : ByteArray)) ++ t133).size + 1 ≤ 9223372036854775807 then ((bailiwickref2_Dec.f k (IntKind.u64.wrap (Go.bits .and .u32 a0 255))).bind fun t134 => (if (((((t131 ++ (⟨#[46]⟩ : ByteArray)) ++ t132) ++ (⟨#[46]⟩ : ByteArray)) ++ t133) ++ (⟨#[46]⟩ : ByteArray)).size + t134.size ≤ 9223372036854775807 then (some ((((((t131 ++ (⟨#[46]⟩ : ByteArray)) ++ t132) ++ (⟨#[46]⟩ : ByteArray)) ++ t133) ++ (⟨#[46]⟩ : ByteArray)) ++ t134)) else (none))) else (none)) else (none))) else (none)) else (none))) else (none))) = some r := h
  clear h
  replace H := Option.bind_eq_some_iff.mp H
  obtain ⟨t131, A20, H⟩ := H
  replace H : (if t131.size + 1 ≤ 9223372036854775807 then ((bailiwickref2_Dec.f k (IntKind.u64.wrap (Go.bits .and .u32 (a0 / 65536) 255))).bind fun t132 => (if (t131 ++ (⟨#[46]⟩ : ByteArray)).size + t132.size ≤ 9223372036854775807 then (if ((t131 ++ (⟨#[46]⟩ : ByteArray)) ++ t132).size + 1 ≤ 9223372036854775807 then ((bailiwickref2_Dec.f k (IntKind.u64.wrap (Go.bits .and .u32 (a0 / 256) 255))).bind fun t133 => (if (((t131 ++ (⟨#[46]⟩ : ByteArray)) ++ t132) ++ (⟨#[46]⟩ : ByteArray)).size + t133.size ≤ 9223372036854775807 then (if ((((t131 ++ (⟨#[46]⟩ : ByteArray)) ++ t132) ++ (⟨#[46]⟩ : ByteArray)) ++ t133).size + 1 ≤ 9223372036854775807 then ((bailiwickref2_Dec.f k (IntKind.u64.wrap (Go.bits .and .u32 a0 255))).bind fun t134 => (if (((((t131 ++ (⟨#[46]⟩ : ByteArray)) ++ t132) ++ (⟨#[46]⟩ : ByteArray)) ++ t133) ++ (⟨#[46]⟩ : ByteArray)).size + t134.size ≤ 9223372036854775807 then (some ((((((t131 ++ (⟨#[46]⟩ : ByteArray)) ++ t132) ++ (⟨#[46]⟩ : ByteArray)) ++ t133) ++ (⟨#[46]⟩ : ByteArray)) ++ t134)) else (none))) else (none)) else (none))) else (none)) else (none))) else (none)) = some r := H
  have A2 := Aside0.mk A20
  clear A20
  by_cases c3 : t131.size + 1 ≤ 9223372036854775807
  · rw [if_pos c3] at H
    have c3b0 := eq_true c3
    have c3b1 : decide (t131.size + 1 ≤ 9223372036854775807) = true := decide_eq_true c3
    try have c3b2 : (9223372036854775807 < t131.size + 1) = False := eq_false (Nat.not_lt.2 c3)
    replace H := Option.bind_eq_some_iff.mp H
    obtain ⟨t132, A40, H⟩ := H
    replace H : (if (t131 ++ (⟨#[46]⟩ : ByteArray)).size + t132.size ≤ 9223372036854775807 then (if ((t131 ++ (⟨#[46]⟩ : ByteArray)) ++ t132).size + 1 ≤ 9223372036854775807 then ((bailiwickref2_Dec.f k (IntKind.u64.wrap (Go.bits .and .u32 (a0 / 256) 255))).bind fun t133 => (if (((t131 ++ (⟨#[46]⟩ : ByteArray)) ++ t132) ++ (⟨#[46]⟩ : ByteArray)).size + t133.size ≤ 9223372036854775807 then (if ((((t131 ++ (⟨#[46]⟩ : ByteArray)) ++ t132) ++ (⟨#[46]⟩ : ByteArray)) ++ t133).size + 1 ≤ 9223372036854775807 then ((bailiwickref2_Dec.f k (IntKind.u64.wrap (Go.bits .and .u32 a0 255))).bind fun t134 => (if (((((t131 ++ (⟨#[46]⟩ : ByteArray)) ++ t132) ++ (⟨#[46]⟩ : ByteArray)) ++ t133) ++ (⟨#[46]⟩ : ByteArray)).size + t134.size ≤ 9223372036854775807 then (some ((((((t131 ++ (⟨#[46]⟩ : ByteArray)) ++ t132) ++ (⟨#[46]⟩ : ByteArray)) ++ t133) ++ (⟨#[46]⟩ : ByteArray)) ++ t134)) else (none))) else (none)) else (none))) else (none)) else (none)) = some r := H
    have A4 := Aside0.mk A40
    clear A40
    by_cases c5 : (t131 ++ (⟨#[46]⟩ : ByteArray)).size + t132.size ≤ 9223372036854775807
    · rw [if_pos c5] at H
      have c5b0 := eq_true c5
      have c5b1 : decide ((t131 ++ (⟨#[46]⟩ : ByteArray)).size + t132.size ≤ 9223372036854775807) = true := decide_eq_true c5
      try have c5b2 : (9223372036854775807 < (t131 ++ (⟨#[46]⟩ : ByteArray)).size + t132.size) = False := eq_false (Nat.not_lt.2 c5)
      try (have c5b3 := c5b2; simp only [ByteArray.size_append, show (⟨#[46]⟩ : ByteArray).size = 1 from rfl] at c5b3)
      by_cases c6 : ((t131 ++ (⟨#[46]⟩ : ByteArray)) ++ t132).size + 1 ≤ 9223372036854775807
      · rw [if_pos c6] at H
        have c6b0 := eq_true c6
        have c6b1 : decide (((t131 ++ (⟨#[46]⟩ : ByteArray)) ++ t132).size + 1 ≤ 9223372036854775807) = true := decide_eq_true c6
        try have c6b2 : (9223372036854775807 < ((t131 ++ (⟨#[46]⟩ : ByteArray)) ++ t132).size + 1) = False := eq_false (Nat.not_lt.2 c6)
        try (have c6b3 := c6b2; simp only [ByteArray.size_append, show (⟨#[46]⟩ : ByteArray).size = 1 from rfl] at c6b3)
        replace H := Option.bind_eq_some_iff.mp H
        obtain ⟨t133, A70, H⟩ := H
        replace H : (if (((t131 ++ (⟨#[46]⟩ : ByteArray)) ++ t132) ++ (⟨#[46]⟩ : ByteArray)).size + t133.size ≤ 9223372036854775807 then (if ((((t131 ++ (⟨#[46]⟩ : ByteArray)) ++ t132) ++ (⟨#[46]⟩ : ByteArray)) ++ t133).size + 1 ≤ 9223372036854775807 then ((bailiwickref2_Dec.f k (IntKind.u64.wrap (Go.bits .and .u32 a0 255))).bind fun t134 => (if (((((t131 ++ (⟨#[46]⟩ : ByteArray)) ++ t132) ++ (⟨#[46]⟩ : ByteArray)) ++ t133) ++ (⟨#[46]⟩ : ByteArray)).size + t134.size ≤ 9223372036854775807 then (some ((((((t131 ++ (⟨#[46]⟩ : ByteArray)) ++ t132) ++ (⟨#[46]⟩ : ByteArray)) ++ t133) ++ (⟨#[46]⟩ : ByteArray)) ++ t134)) else (none))) else (none)) else (none)) = some r := H
        have A7 := Aside0.mk A70
        clear A70
        by_cases c8 : (((t131 ++ (⟨#[46]⟩ : ByteArray)) ++ t132) ++ (⟨#[46]⟩ : ByteArray)).size + t133.size ≤ 9223372036854775807
        · rw [if_pos c8] at H
          have c8b0 := eq_true c8
          have c8b1 : decide ((((t131 ++ (⟨#[46]⟩ : ByteArray)) ++ t132) ++ (⟨#[46]⟩ : ByteArray)).size + t133.size ≤ 9223372036854775807) = true := decide_eq_true c8
          try have c8b2 : (9223372036854775807 < (((t131 ++ (⟨#[46]⟩ : ByteArray)) ++ t132) ++ (⟨#[46]⟩ : ByteArray)).size + t133.size) = False := eq_false (Nat.not_lt.2 c8)
          try (have c8b3 := c8b2; simp only [ByteArray.size_append, show (⟨#[46]⟩ : ByteArray).size = 1 from rfl] at c8b3)
          by_cases c9 : ((((t131 ++ (⟨#[46]⟩ : ByteArray)) ++ t132) ++ (⟨#[46]⟩ : ByteArray)) ++ t133).size + 1 ≤ 9223372036854775807
          · rw [if_pos c9] at H
            have c9b0 := eq_true c9
            have c9b1 : decide (((((t131 ++ (⟨#[46]⟩ : ByteArray)) ++ t132) ++ (⟨#[46]⟩ : ByteArray)) ++ t133).size + 1 ≤ 9223372036854775807) = true := decide_eq_true c9
            try have c9b2 : (9223372036854775807 < ((((t131 ++ (⟨#[46]⟩ : ByteArray)) ++ t132) ++ (⟨#[46]⟩ : ByteArray)) ++ t133).size + 1) = False := eq_false (Nat.not_lt.2 c9)
            try (have c9b3 := c9b2; simp only [ByteArray.size_append, show (⟨#[46]⟩ : ByteArray).size = 1 from rfl] at c9b3)
            replace H := Option.bind_eq_some_iff.mp H
            obtain ⟨t134, A100, H⟩ := H
            replace H : (if (((((t131 ++ (⟨#[46]⟩ : ByteArray)) ++ t132) ++ (⟨#[46]⟩ : ByteArray)) ++ t133) ++ (⟨#[46]⟩ : ByteArray)).size + t134.size ≤ 9223372036854775807 then (some ((((((t131 ++ (⟨#[46]⟩ : ByteArray)) ++ t132) ++ (⟨#[46]⟩ : ByteArray)) ++ t133) ++ (⟨#[46]⟩ : ByteArray)) ++ t134)) else (none)) = some r := H
            have A10 := Aside0.mk A100
            clear A100
            by_cases c11 : (((((t131 ++ (⟨#[46]⟩ : ByteArray)) ++ t132) ++ (⟨#[46]⟩ : ByteArray)) ++ t133) ++ (⟨#[46]⟩ : ByteArray)).size + t134.size ≤ 9223372036854775807
            · rw [if_pos c11] at H
              have c11b0 := eq_true c11
              have c11b1 : decide ((((((t131 ++ (⟨#[46]⟩ : ByteArray)) ++ t132) ++ (⟨#[46]⟩ : ByteArray)) ++ t133) ++ (⟨#[46]⟩ : ByteArray)).size + t134.size ≤ 9223372036854775807) = true := decide_eq_true c11
              try have c11b2 : (9223372036854775807 < (((((t131 ++ (⟨#[46]⟩ : ByteArray)) ++ t132) ++ (⟨#[46]⟩ : ByteArray)) ++ t133) ++ (⟨#[46]⟩ : ByteArray)).size + t134.size) = False := eq_false (Nat.not_lt.2 c11)
              try (have c11b3 := c11b2; simp only [ByteArray.size_append, show (⟨#[46]⟩ : ByteArray).size = 1 from rfl] at c11b3)
              obtain rfl := Option.some.inj H
              go_enter Tryd.func19, Tryd.ntmps19
              go_wp2_with (first | ((with_reducible refine gate_callee (f := 18) rfl ?_); refine goesL_ (some 6) rfl rfl Tryd.func18 (by kernel_rfl) rfl #[.int .u64 (IntKind.u64.wrap (a0 / 16777216))] rfl (by (try simp only [List.map_toArray, List.map_cons, List.map_nil]); first | done | rfl | (simp only [List.length_drop, List.length_take]; rfl)) ?_; (with_reducible refine (bailiwickref2_Dec.calls k (IntKind.u64.wrap (a0 / 16777216)) t131 _ A2.out).mono ?_); rintro e w12 ⟨rfl, hb⟩; refine ⟨_, rfl, ?_⟩; have n0_ := Aside0.mk (below_step (by repeat (first | (with_reducible first | exact HB.out | apply below_alloc | apply pw_below_drewN | apply below_drew1) | exact HB.out)) hb); clear HB; have HB := n0_; clear n0_; (try clear hb); (try clear hb2); (try clear hk); (try clear hi)) | ((with_reducible refine gate_callee (f := 18) rfl ?_); refine goesL_ (some 12) rfl rfl Tryd.func18 (by kernel_rfl) rfl #[.int .u64 (IntKind.u64.wrap (Go.bits .and .u32 (a0 / 65536) 255))] rfl (by (try simp only [List.map_toArray, List.map_cons, List.map_nil]); first | done | rfl | (simp only [List.length_drop, List.length_take]; rfl)) ?_; (with_reducible refine (bailiwickref2_Dec.calls k (IntKind.u64.wrap (Go.bits .and .u32 (a0 / 65536) 255)) t132 _ A4.out).mono ?_); rintro e w13 ⟨rfl, hb⟩; refine ⟨_, rfl, ?_⟩; have n0_ := Aside0.mk (below_step (by repeat (first | (with_reducible first | exact HB.out | apply below_alloc | apply pw_below_drewN | apply below_drew1) | exact HB.out)) hb); clear HB; have HB := n0_; clear n0_; (try clear hb); (try clear hb2); (try clear hk); (try clear hi)) | ((with_reducible refine gate_callee (f := 18) rfl ?_); refine goesL_ (some 19) rfl rfl Tryd.func18 (by kernel_rfl) rfl #[.int .u64 (IntKind.u64.wrap (Go.bits .and .u32 (a0 / 256) 255))] rfl (by (try simp only [List.map_toArray, List.map_cons, List.map_nil]); first | done | rfl | (simp only [List.length_drop, List.length_take]; rfl)) ?_; (with_reducible refine (bailiwickref2_Dec.calls k (IntKind.u64.wrap (Go.bits .and .u32 (a0 / 256) 255)) t133 _ A7.out).mono ?_); rintro e w14 ⟨rfl, hb⟩; refine ⟨_, rfl, ?_⟩; have n0_ := Aside0.mk (below_step (by repeat (first | (with_reducible first | exact HB.out | apply below_alloc | apply pw_below_drewN | apply below_drew1) | exact HB.out)) hb); clear HB; have HB := n0_; clear n0_; (try clear hb); (try clear hb2); (try clear hk); (try clear hi)) | ((with_reducible refine gate_callee (f := 18) rfl ?_); refine goesL_ (some 25) rfl rfl Tryd.func18 (by kernel_rfl) rfl #[.int .u64 (IntKind.u64.wrap (Go.bits .and .u32 a0 255))] rfl (by (try simp only [List.map_toArray, List.map_cons, List.map_nil]); first | done | rfl | (simp only [List.length_drop, List.length_take]; rfl)) ?_; (with_reducible refine (bailiwickref2_Dec.calls k (IntKind.u64.wrap (Go.bits .and .u32 a0 255)) t134 _ A10.out).mono ?_); rintro e w15 ⟨rfl, hb⟩; refine ⟨_, rfl, ?_⟩; have n0_ := Aside0.mk (below_step (by repeat (first | (with_reducible first | exact HB.out | apply below_alloc | apply pw_below_drewN | apply below_drew1) | exact HB.out)) hb); clear HB; have HB := n0_; clear n0_; (try clear hb); (try clear hb2); (try clear hk); (try clear hi)))
              go_ret
              exact ⟨by first | rfl | (simp [errW_none, errW_some] <;> rfl) | (simp [*, errW_none, errW_some] <;> rfl), by repeat (first | (with_reducible first | exact HB.out | apply below_alloc | apply pw_below_drewN | apply below_drew1) | exact HB.out)⟩
            · rw [if_neg c11] at H
              exact absurd H (by simp)
          · rw [if_neg c9] at H
            exact absurd H (by simp)
        · rw [if_neg c8] at H
          exact absurd H (by simp)
      · rw [if_neg c6] at H
        exact absurd H (by simp)
    · rw [if_neg c5] at H
      exact absurd H (by simp)
  · rw [if_neg c3] at H
    exact absurd H (by simp)

end Go.Proofs.YtnbanjbhjjhkdaaDoor.P
