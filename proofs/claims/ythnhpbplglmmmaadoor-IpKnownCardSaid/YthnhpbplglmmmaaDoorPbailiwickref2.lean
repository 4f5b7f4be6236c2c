-- Laid by a program (wip/tools/myprint.py) out of the translation. Not trusted: Lean checks it.
import Derived.Test.YthnhpbplglmmmaaDoorP0
import Derived.Test.YthnhpbplglmmmaaDoorPbailiwickref1
namespace Go.Proofs.YthnhpbplglmmmaaDoor.P
open Go.RowKit Go.Proofs.YthnhpbplglmmmaaDoorW.PrintWords Go.Proofs.YthnhpbplglmmmaaDoorW.PrintLast
set_option linter.unusedVariables false
set_option linter.unusedSimpArgs false

/-! ### bailiwickref2_Dec: function 20 -/
def bailiwickref2_Dec.l0 : Nat → Int → ByteArray → Option (ByteArray)
  | 0, _, _ => none
  | k + 1, x0, x3 => (some (([(IntKind.u64.wrap (48 + (Int.tmod x0 10))) % 256] : List Int) : List Int)).bind fun y159 => (if (strOfNums y159).size + x3.size ≤ 9223372036854775807 then (if (IntKind.u64.wrap (Int.tdiv x0 10)) = 0 then (some ((strOfNums y159) ++ x3)) else (bailiwickref2_Dec.l0 k (IntKind.u64.wrap (Int.tdiv x0 10)) ((strOfNums y159) ++ x3))) else (none))
def bailiwickref2_Dec.f (k : Nat) (a0 : Int) : Option (ByteArray) := bailiwickref2_Dec.l0 k a0 (⟨#[]⟩ : ByteArray)
theorem bailiwickref2_Dec.mono_l : ∀ k, (∀ y0 y1, LeO (bailiwickref2_Dec.l0 k y0 y1) (bailiwickref2_Dec.l0 (k + 1) y0 y1))
  | 0 => fun _ _ r h => by simp [bailiwickref2_Dec.l0] at h
  | k + 1 => by
    have ih0 := bailiwickref2_Dec.mono_l k
    · intro y0 y1
      unfold bailiwickref2_Dec.l0
      repeat' first
      | (with_reducible exact ih0 _ _)
      | (with_reducible exact LeO.refl _)
      | (with_reducible exact LeO.none _)
      | (with_reducible refine LeO.ite ?_ ?_)
      | (with_reducible refine LeO.bind ?_ (fun _ => ?_))
      | exact ih0 _ _
      | exact LeO.none _
      | refine LeO.ite ?_ ?_
      | refine LeO.bind ?_ (fun _ => ?_)
theorem bailiwickref2_Dec.mono : ∀ a0 k, LeO (bailiwickref2_Dec.f k a0) (bailiwickref2_Dec.f (k + 1) a0) := by
  intro a0 k
  have ih0 := bailiwickref2_Dec.mono_l k
  unfold bailiwickref2_Dec.f
  repeat' first
      | (with_reducible exact ih0 _ _)
      | (with_reducible exact LeO.refl _)
      | (with_reducible exact LeO.none _)
      | (with_reducible refine LeO.ite ?_ ?_)
      | (with_reducible refine LeO.bind ?_ (fun _ => ?_))
      | exact ih0 _ _
      | exact LeO.none _
      | refine LeO.ite ?_ ?_
      | refine LeO.bind ?_ (fun _ => ?_)
set_option maxHeartbeats 8000000 in
set_option maxRecDepth 100000 in
theorem bailiwickref2_Dec.calls (k : Nat) (a0 : Int) (r : ByteArray) (w : World) (h : bailiwickref2_Dec.f k a0 = some r) :
    Calls Tryd.prog 20 #[.int .u64 a0] w fun e w' => e = .returned (.string r) ∧ Below w.heap.size w w' := by
  have HB := Aside0.mk (Below.refl w.heap.size w)
  have H : (bailiwickref2_Dec.l0 k a0 (⟨#[]⟩ : ByteArray)) = some r := h
  clear h
  have H' := Aside0.mk H
  clear H
  go_enter Tryd.func20, Tryd.ntmps20
  go_wp2
  go_loopg [0, 3] k (fun kq v0 v3 w' => ∃ (x0_1 : Int) (x3_1 : ByteArray), v0 = .int .u64 x0_1 ∧ v3 = .string x3_1 ∧ Aside0 (bailiwickref2_Dec.l0 kq x0_1 x3_1 = some r) ∧ Aside0 (kq ≤ k) ∧ Aside0 (Below w.heap.size w w'))
  case atStart => exact ⟨(a0), ((⟨#[]⟩ : ByteArray)), (by first | rfl | (simp; done) | (simp [*]; done)), (by first | rfl | (simp; done) | (simp [*]; done)), H', ⟨Nat.le_refl _⟩, ⟨by repeat (first | (with_reducible first | exact HB.out | apply below_alloc | apply pw_below_drewN | apply below_drew1) | exact HB.out)⟩⟩
  case round =>
    clear H'
    obtain ⟨x0_1, x3_1, rfl, rfl, HA, HK1, HB⟩ := hrel
    cases gk with
    | zero => exact absurd HA.out (by simp [bailiwickref2_Dec.l0])
    | succ k1 =>
      have H := HA.out
      clear HA
      simp only [bailiwickref2_Dec.l0] at H
      obtain ⟨y159, hy159⟩ : ∃ y_ : List Int, y_ = (([(IntKind.u64.wrap (48 + (Int.tmod x0_1 10))) % 256] : List Int)) := ⟨_, rfl⟩
      replace H : (if (strOfNums y159).size + x3_1.size ≤ 9223372036854775807 then (if (IntKind.u64.wrap (Int.tdiv x0_1 10)) = 0 then (some ((strOfNums y159) ++ x3_1)) else (bailiwickref2_Dec.l0 k1 (IntKind.u64.wrap (Int.tdiv x0_1 10)) ((strOfNums y159) ++ x3_1))) else (none)) = some r := by first | (rw [hy159]; with_reducible exact H) | (have H2_ := (Option.bind_some _ _).symm.trans H; rw [hy159]; with_reducible exact H2_) | (have H2_ := (Option.bind_some _ _).symm.trans H; with_reducible exact H2_) | with_reducible exact H | (rw [hy159]; exact H) | exact H
      have Ny159 := Aside0.mk hy159
      clear hy159
      by_cases c2 : (strOfNums y159).size + x3_1.size ≤ 9223372036854775807
      · rw [if_pos c2] at H
        have c2b0 := eq_true c2
        have c2b1 : decide ((strOfNums y159).size + x3_1.size ≤ 9223372036854775807) = true := decide_eq_true c2
        try have c2b2 : (9223372036854775807 < (strOfNums y159).size + x3_1.size) = False := eq_false (Nat.not_lt.2 c2)
        by_cases c3 : (IntKind.u64.wrap (Int.tdiv x0_1 10)) = 0
        · rw [if_pos c3] at H
          have c3b0 : ((IntKind.u64.wrap (Int.tdiv x0_1 10)) == 0) = true := beq_iff_eq.mpr c3
          have c3b1 : ((IntKind.u64.wrap (Int.tdiv x0_1 10)) != 0) = false := bne_eq_false_iff_eq.mpr c3
          clear c3
          obtain rfl := Option.some.inj H
          go_wp2_with (first | ((with_reducible refine gate_dst (N := 8) rfl ?_); refine Kd.R_lit (Kd.int .u8) _ 5 ?hg (N := 8) ?hd (xs := ([(IntKind.u64.wrap (48 + (Int.tmod x0_1 10))) % 256] : List Int)) (inner := [.int .u8 ((IntKind.u64.wrap (48 + (Int.tmod x0_1 10))) % 256)]) (ok := fun _ => True) (okp := fun _ => True) ?hr ?hp (fun _ hk => hk) trivial (Below.refl _ _) (Nat.le_refl _) (by simp) ?_; (case hd => rfl); (case hg => rfl); (case hr => first | (go_simp; done) | (go_simp; rfl)); (case hp => exact (Reps.one (show Kd.M (Kd.int .u8) _ _ _ ((IntKind.u64.wrap (48 + (Int.tmod x0_1 10))) % 256) [.int .u8 ((IntKind.u64.wrap (48 + (Int.tmod x0_1 10))) % 256)] from rfl) (Reps.none _ _))); intro v160 w4 ho5 hb hg_ hnew_; clear hg_ hnew_; (first | rw [← Ny159.out] at ho5 | (simp only [Int.reduceToNat] at ho5; rw [← Ny159.out] at ho5)); have n0_ := Aside0.mk (Kd.R_lower ho5 (below_size (by repeat (first | (with_reducible first | exact HB.out | apply below_alloc | apply pw_below_drewN | apply below_drew1) | exact HB.out)))); have n1_ := Aside0.mk (below_step (by repeat (first | (with_reducible first | exact HB.out | apply below_alloc | apply pw_below_drewN | apply below_drew1) | exact HB.out)) hb); clear HB; have HO161 := n0_; have HB := n1_; clear n0_ n1_; clear hb ho5; have hcv6 := own_string (P := Tryd.prog) Tryd.underlying29 Tryd.underlying5 Tryd.underlying9 (Kd.own_of_R HO161.out)))
          go_ret
          exact ⟨by first | rfl | (simp [errW_none, errW_some] <;> rfl) | (simp [*, errW_none, errW_some] <;> rfl), by repeat (first | (with_reducible first | exact HB.out | apply below_alloc | apply pw_below_drewN | apply below_drew1) | exact HB.out)⟩
        · rw [if_neg c3] at H
          have c3b0 : ((IntKind.u64.wrap (Int.tdiv x0_1 10)) == 0) = false := beq_eq_false_iff_ne.mpr c3
          have c3b1 : ((IntKind.u64.wrap (Int.tdiv x0_1 10)) != 0) = true := bne_iff_ne.mpr c3
          have H' := Aside0.mk H
          clear H
          go_wp2_with (first | ((with_reducible refine gate_dst (N := 8) rfl ?_); refine Kd.R_lit (Kd.int .u8) _ 5 ?hg (N := 8) ?hd (xs := ([(IntKind.u64.wrap (48 + (Int.tmod x0_1 10))) % 256] : List Int)) (inner := [.int .u8 ((IntKind.u64.wrap (48 + (Int.tmod x0_1 10))) % 256)]) (ok := fun _ => True) (okp := fun _ => True) ?hr ?hp (fun _ hk => hk) trivial (Below.refl _ _) (Nat.le_refl _) (by simp) ?_; (case hd => rfl); (case hg => rfl); (case hr => first | (go_simp; done) | (go_simp; rfl)); (case hp => exact (Reps.one (show Kd.M (Kd.int .u8) _ _ _ ((IntKind.u64.wrap (48 + (Int.tmod x0_1 10))) % 256) [.int .u8 ((IntKind.u64.wrap (48 + (Int.tmod x0_1 10))) % 256)] from rfl) (Reps.none _ _))); intro v160 w7 ho8 hb hg_ hnew_; clear hg_ hnew_; (first | rw [← Ny159.out] at ho8 | (simp only [Int.reduceToNat] at ho8; rw [← Ny159.out] at ho8)); have n0_ := Aside0.mk (Kd.R_lower ho8 (below_size (by repeat (first | (with_reducible first | exact HB.out | apply below_alloc | apply pw_below_drewN | apply below_drew1) | exact HB.out)))); have n1_ := Aside0.mk (below_step (by repeat (first | (with_reducible first | exact HB.out | apply below_alloc | apply pw_below_drewN | apply below_drew1) | exact HB.out)) hb); clear HB; have HO161 := n0_; have HB := n1_; clear n0_ n1_; clear hb ho8; have hcv9 := own_string (P := Tryd.prog) Tryd.underlying29 Tryd.underlying5 Tryd.underlying9 (Kd.own_of_R HO161.out)))
          go_roundg k1
          case measure => have := HK1.out; omega
          case rel => exact ⟨(IntKind.u64.wrap (Int.tdiv x0_1 10)), ((strOfNums y159) ++ x3_1), (by first | rfl | (simp; done) | (simp [*]; done)), (by first | rfl | (simp; done) | (simp [*]; done)), H', ⟨by have := HK1.out; omega⟩, ⟨by repeat (first | (with_reducible first | exact HB.out | apply below_alloc | apply pw_below_drewN | apply below_drew1) | exact HB.out)⟩⟩
      · rw [if_neg c2] at H
        exact absurd H (by simp)

/-! ### bailiwickref2_Show: function 9 -/
def bailiwickref2_Show.f (k : Nat) (a0 : Int) : Option (ByteArray) := (bailiwickref2_Dec.f k (IntKind.u64.wrap (a0 / 16777216))).bind fun t162 => (if t162.size + 1 ≤ 9223372036854775807 then ((bailiwickref2_Dec.f k (IntKind.u64.wrap (Go.bits .and .u32 (a0 / 65536) 255))).bind fun t163 => (if (t162 ++ (⟨#[46]⟩ : ByteArray)).size + t163.size ≤ 9223372036854775807 then (if ((t162 ++ (⟨#[46]⟩ : ByteArray)) ++ t163).size + 1 ≤ 9223372036854775807 then ((bailiwickref2_Dec.f k (IntKind.u64.wrap (Go.bits .and .u32 (a0 / 256) 255))).bind fun t164 => (if (((t162 ++ (⟨#[46]⟩ : ByteArray)) ++ t163) ++ (⟨#[46]⟩ : ByteArray)).size + t164.size ≤ 9223372036854775807 then (if ((((t162 ++ (⟨#[46]⟩ : ByteArray)) ++ t163) ++ (⟨#[46]⟩ : ByteArray)) ++ t164).size + 1 ≤ 9223372036854775807 then ((bailiwickref2_Dec.f k (IntKind.u64.wrap (Go.bits .and .u32 a0 255))).bind fun t165 => (if (((((t162 ++ (⟨#[46]⟩ : ByteArray)) ++ t163) ++ (⟨#[46]⟩ : ByteArray)) ++ t164) ++ (⟨#[46]⟩ : ByteArray)).size + t165.size ≤ 9223372036854775807 then (some ((((((t162 ++ (⟨#[46]⟩ : ByteArray)) ++ t163) ++ (⟨#[46]⟩ : ByteArray)) ++ t164) ++ (⟨#[46]⟩ : ByteArray)) ++ t165)) else (none))) else (none)) else (none))) else (none)) else (none))) else (none))
theorem bailiwickref2_Show.mono : ∀ a0 k, LeO (bailiwickref2_Show.f k a0) (bailiwickref2_Show.f (k + 1) a0) := by
  intro a0 k
  unfold bailiwickref2_Show.f
  repeat' first
      | (with_reducible exact bailiwickref2_Dec.mono _ _)
      | (with_reducible exact LeO.refl _)
      | (with_reducible exact LeO.none _)
      | (with_reducible refine LeO.ite ?_ ?_)
      | (with_reducible refine LeO.bind ?_ (fun _ => ?_))
      | exact bailiwickref2_Dec.mono _ _
      | exact LeO.none _
      | refine LeO.ite ?_ ?_
      | refine LeO.bind ?_ (fun _ => ?_)
set_option maxHeartbeats 8000000 in
set_option maxRecDepth 100000 in
theorem bailiwickref2_Show.calls (k : Nat) (a0 : Int) (r : ByteArray) (w : World) (h : bailiwickref2_Show.f k a0 = some r) :
    Calls Tryd.prog 9 #[.int .u32 a0] w fun e w' => e = .returned (.string r) ∧ Below w.heap.size w w' := by
  have HB := Aside0.mk (Below.refl w.heap.size w)
  have H : ((bailiwickref2_Dec.f k (IntKind.u64.wrap (a0 / 16777216))).bind fun t162 => (if t162.size + 1 ≤ 9223372036854775807 then ((bailiwickref2_Dec.f k (IntKind.u64.wrap (Go.bits .and .u32 (a0 / 65536) 255))).bind fun t163 => (if (t162 ++ (⟨#[46]⟩ : ByteArray)).size + t163.size ≤ 9223372036854775807 then (if ((t162 ++ (⟨#[46]⟩ : ByteArray)) ++ t163).size + 1 ≤ 9223372036854775807 then ((bailiwickref2_Dec.f k (IntKind.u64.wrap (Go.bits .and .u32 (a0 / 256) 255))).bind fun t164 => (if (((t162 ++ (⟨#[46]⟩ : ByteArray)) ++ t163) ++ (⟨#[46]⟩ : ByteArray)).size + t164.size ≤ 9223372036854775807 then (if ((((t162 ++ (⟨#[46]⟩ : ByteArray)) ++ t163) ++ (⟨#[46]⟩ : ByteArray)) ++ t164).size + 1 ≤ 9223372036854775807 then ((bailiwickref2_Dec.f k (IntKind.u64.wrap (Go.bits .and .u32 a0 255))).bind fun t165 => (if (((((t162 ++ (⟨#[46]⟩ : ByteArray)) ++ t163) ++ (⟨#[46]⟩ : ByteArray)) ++ t164) ++ (⟨#[46]⟩ : ByteArray)).size + t165.size ≤ 9223372036854775807 then (some ((((((t162 ++ (⟨#[46]⟩ : ByteArray)) ++ t163) ++ (⟨#[46]⟩ : ByteArray)) ++ t164) ++ (⟨#[46]⟩ : ByteArray)) ++ t165)) else (none))) else (none)) else (none))) else (none)) else (none))) else (none))) = some r := h
  clear h
  replace H := Option.bind_eq_some_iff.mp H
  obtain ⟨t162, A20, H⟩ := H
  replace H : (if t162.size + 1 ≤ 9223372036854775807 then ((bailiwickref2_Dec.f k (IntKind.u64.wrap (Go.bits .and .u32 (a0 / 65536) 255))).bind fun t163 => (if (t162 ++ (⟨#[46]⟩ : ByteArray)).size + t163.size ≤ 9223372036854775807 then (if ((t162 ++ (⟨#[46]⟩ : ByteArray)) ++ t163).size + 1 ≤ 9223372036854775807 then ((bailiwickref2_Dec.f k (IntKind.u64.wrap (Go.bits .and .u32 (a0 / 256) 255))).bind fun t164 => (if (((t162 ++ (⟨#[46]⟩ : ByteArray)) ++ t163) ++ (⟨#[46]⟩ : ByteArray)).size + t164.size ≤ 9223372036854775807 then (if ((((t162 ++ (⟨#[46]⟩ : ByteArray)) ++ t163) ++ (⟨#[46]⟩ : ByteArray)) ++ t164).size + 1 ≤ 9223372036854775807 then ((bailiwickref2_Dec.f k (IntKind.u64.wrap (Go.bits .and .u32 a0 255))).bind fun t165 => (if (((((t162 ++ (⟨#[46]⟩ : ByteArray)) ++ t163) ++ (⟨#[46]⟩ : ByteArray)) ++ t164) ++ (⟨#[46]⟩ : ByteArray)).size + t165.size ≤ 9223372036854775807 then (some ((((((t162 ++ (⟨#[46]⟩ : ByteArray)) ++ t163) ++ (⟨#[46]⟩ : ByteArray)) ++ t164) ++ (⟨#[46]⟩ : ByteArray)) ++ t165)) else (none))) else (none)) else (none))) else (none)) else (none))) else (none)) = some r := H
  have A2 := Aside0.mk A20
  clear A20
  by_cases c3 : t162.size + 1 ≤ 9223372036854775807
  · rw [if_pos c3] at H
    have c3b0 := eq_true c3
    have c3b1 : decide (t162.size + 1 ≤ 9223372036854775807) = true := decide_eq_true c3
    try have c3b2 : (9223372036854775807 < t162.size + 1) = False := eq_false (Nat.not_lt.2 c3)
    replace H := Option.bind_eq_some_iff.mp H
    obtain ⟨t163, A40, H⟩ := H
    replace H : (if (t162 ++ (⟨#[46]⟩ : ByteArray)).size + t163.size ≤ 9223372036854775807 then (if ((t162 ++ (⟨#[46]⟩ : ByteArray)) ++ t163).size + 1 ≤ 9223372036854775807 then ((bailiwickref2_Dec.f k (IntKind.u64.wrap (Go.bits .and .u32 (a0 / 256) 255))).bind fun t164 => (if (((t162 ++ (⟨#[46]⟩ : ByteArray)) ++ t163) ++ (⟨#[46]⟩ : ByteArray)).size + t164.size ≤ 9223372036854775807 then (if ((((t162 ++ (⟨#[46]⟩ : ByteArray)) ++ t163) ++ (⟨#[46]⟩ : ByteArray)) ++ t164).size + 1 ≤ 9223372036854775807 then ((bailiwickref2_Dec.f k (IntKind.u64.wrap (Go.bits .and .u32 a0 255))).bind fun t165 => (if (((((t162 ++ (⟨#[46]⟩ : ByteArray)) ++ t163) ++ (⟨#[46]⟩ : ByteArray)) ++ t164) ++ (⟨#[46]⟩ : ByteArray)).size + t165.size ≤ 9223372036854775807 then (some ((((((t162 ++ (⟨#[46]⟩ : ByteArray)) ++ t163) ++ (⟨#[46]⟩ : ByteArray)) ++ t164) ++ (⟨#[46]⟩ : ByteArray)) ++ t165)) else (none))) else (none)) else (none))) else (none)) else (none)) = some r := H
    have A4 := Aside0.mk A40
    clear A40
    by_cases c5 : (t162 ++ (⟨#[46]⟩ : ByteArray)).size + t163.size ≤ 9223372036854775807
    · rw [if_pos c5] at H
      have c5b0 := eq_true c5
      have c5b1 : decide ((t162 ++ (⟨#[46]⟩ : ByteArray)).size + t163.size ≤ 9223372036854775807) = true := decide_eq_true c5
      try have c5b2 : (9223372036854775807 < (t162 ++ (⟨#[46]⟩ : ByteArray)).size + t163.size) = False := eq_false (Nat.not_lt.2 c5)
      try (have c5b3 := c5b2; simp only [ByteArray.size_append, show (⟨#[46]⟩ : ByteArray).size = 1 from rfl] at c5b3)
      by_cases c6 : ((t162 ++ (⟨#[46]⟩ : ByteArray)) ++ t163).size + 1 ≤ 9223372036854775807
      · rw [if_pos c6] at H
        have c6b0 := eq_true c6
        have c6b1 : decide (((t162 ++ (⟨#[46]⟩ : ByteArray)) ++ t163).size + 1 ≤ 9223372036854775807) = true := decide_eq_true c6
        try have c6b2 : (9223372036854775807 < ((t162 ++ (⟨#[46]⟩ : ByteArray)) ++ t163).size + 1) = False := eq_false (Nat.not_lt.2 c6)
        try (have c6b3 := c6b2; simp only [ByteArray.size_append, show (⟨#[46]⟩ : ByteArray).size = 1 from rfl] at c6b3)
        replace H := Option.bind_eq_some_iff.mp H
        obtain ⟨t164, A70, H⟩ := H
        replace H : (if (((t162 ++ (⟨#[46]⟩ : ByteArray)) ++ t163) ++ (⟨#[46]⟩ : ByteArray)).size + t164.size ≤ 9223372036854775807 then (if ((((t162 ++ (⟨#[46]⟩ : ByteArray)) ++ t163) ++ (⟨#[46]⟩ : ByteArray)) ++ t164).size + 1 ≤ 9223372036854775807 then ((bailiwickref2_Dec.f k (IntKind.u64.wrap (Go.bits .and .u32 a0 255))).bind fun t165 => (if (((((t162 ++ (⟨#[46]⟩ : ByteArray)) ++ t163) ++ (⟨#[46]⟩ : ByteArray)) ++ t164) ++ (⟨#[46]⟩ : ByteArray)).size + t165.size ≤ 9223372036854775807 then (some ((((((t162 ++ (⟨#[46]⟩ : ByteArray)) ++ t163) ++ (⟨#[46]⟩ : ByteArray)) ++ t164) ++ (⟨#[46]⟩ : ByteArray)) ++ t165)) else (none))) else (none)) else (none)) = some r := H
        have A7 := Aside0.mk A70
        clear A70
        by_cases c8 : (((t162 ++ (⟨#[46]⟩ : ByteArray)) ++ t163) ++ (⟨#[46]⟩ : ByteArray)).size + t164.size ≤ 9223372036854775807
        · rw [if_pos c8] at H
          have c8b0 := eq_true c8
          have c8b1 : decide ((((t162 ++ (⟨#[46]⟩ : ByteArray)) ++ t163) ++ (⟨#[46]⟩ : ByteArray)).size + t164.size ≤ 9223372036854775807) = true := decide_eq_true c8
          try have c8b2 : (9223372036854775807 < (((t162 ++ (⟨#[46]⟩ : ByteArray)) ++ t163) ++ (⟨#[46]⟩ : ByteArray)).size + t164.size) = False := eq_false (Nat.not_lt.2 c8)
          try (have c8b3 := c8b2; simp only [ByteArray.size_append, show (⟨#[46]⟩ : ByteArray).size = 1 from rfl] at c8b3)
          by_cases c9 : ((((t162 ++ (⟨#[46]⟩ : ByteArray)) ++ t163) ++ (⟨#[46]⟩ : ByteArray)) ++ t164).size + 1 ≤ 9223372036854775807
          · rw [if_pos c9] at H
            have c9b0 := eq_true c9
            have c9b1 : decide (((((t162 ++ (⟨#[46]⟩ : ByteArray)) ++ t163) ++ (⟨#[46]⟩ : ByteArray)) ++ t164).size + 1 ≤ 9223372036854775807) = true := decide_eq_true c9
            try have c9b2 : (9223372036854775807 < ((((t162 ++ (⟨#[46]⟩ : ByteArray)) ++ t163) ++ (⟨#[46]⟩ : ByteArray)) ++ t164).size + 1) = False := eq_false (Nat.not_lt.2 c9)
            try (have c9b3 := c9b2; simp only [ByteArray.size_append, show (⟨#[46]⟩ : ByteArray).size = 1 from rfl] at c9b3)
            replace H := Option.bind_eq_some_iff.mp H
            obtain ⟨t165, A100, H⟩ := H
            replace H : (if (((((t162 ++ (⟨#[46]⟩ : ByteArray)) ++ t163) ++ (⟨#[46]⟩ : ByteArray)) ++ t164) ++ (⟨#[46]⟩ : ByteArray)).size + t165.size ≤ 9223372036854775807 then (some ((((((t162 ++ (⟨#[46]⟩ : ByteArray)) ++ t163) ++ (⟨#[46]⟩ : ByteArray)) ++ t164) ++ (⟨#[46]⟩ : ByteArray)) ++ t165)) else (none)) = some r := H
            have A10 := Aside0.mk A100
            clear A100
            by_cases c11 : (((((t162 ++ (⟨#[46]⟩ : ByteArray)) ++ t163) ++ (⟨#[46]⟩ : ByteArray)) ++ t164) ++ (⟨#[46]⟩ : ByteArray)).size + t165.size ≤ 9223372036854775807
            · rw [if_pos c11] at H
              have c11b0 := eq_true c11
              have c11b1 : decide ((((((t162 ++ (⟨#[46]⟩ : ByteArray)) ++ t163) ++ (⟨#[46]⟩ : ByteArray)) ++ t164) ++ (⟨#[46]⟩ : ByteArray)).size + t165.size ≤ 9223372036854775807) = true := decide_eq_true c11
              try have c11b2 : (9223372036854775807 < (((((t162 ++ (⟨#[46]⟩ : ByteArray)) ++ t163) ++ (⟨#[46]⟩ : ByteArray)) ++ t164) ++ (⟨#[46]⟩ : ByteArray)).size + t165.size) = False := eq_false (Nat.not_lt.2 c11)
              try (have c11b3 := c11b2; simp only [ByteArray.size_append, show (⟨#[46]⟩ : ByteArray).size = 1 from rfl] at c11b3)
              obtain rfl := Option.some.inj H
              go_enter Tryd.func9, Tryd.ntmps9
              go_wp2_with (first | ((with_reducible refine gate_callee (f := 20) rfl ?_); refine goesL_ (some 6) rfl rfl Tryd.func20 (by kernel_rfl) rfl #[.int .u64 (IntKind.u64.wrap (a0 / 16777216))] rfl (by (try simp only [List.map_toArray, List.map_cons, List.map_nil]); first | done | rfl | (simp only [List.length_drop, List.length_take]; rfl)) ?_; (with_reducible refine (bailiwickref2_Dec.calls k (IntKind.u64.wrap (a0 / 16777216)) t162 _ A2.out).mono ?_); rintro e w12 ⟨rfl, hb⟩; refine ⟨_, rfl, ?_⟩; have n0_ := Aside0.mk (below_step (by repeat (first | (with_reducible first | exact HB.out | apply below_alloc | apply pw_below_drewN | apply below_drew1) | exact HB.out)) hb); clear HB; have HB := n0_; clear n0_; (try clear hb); (try clear hb2); (try clear hk); (try clear hi)) | ((with_reducible refine gate_callee (f := 20) rfl ?_); refine goesL_ (some 12) rfl rfl Tryd.func20 (by kernel_rfl) rfl #[.int .u64 (IntKind.u64.wrap (Go.bits .and .u32 (a0 / 65536) 255))] rfl (by (try simp only [List.map_toArray, List.map_cons, List.map_nil]); first | done | rfl | (simp only [List.length_drop, List.length_take]; rfl)) ?_; (with_reducible refine (bailiwickref2_Dec.calls k (IntKind.u64.wrap (Go.bits .and .u32 (a0 / 65536) 255)) t163 _ A4.out).mono ?_); rintro e w13 ⟨rfl, hb⟩; refine ⟨_, rfl, ?_⟩; have n0_ := Aside0.mk (below_step (by repeat (first | (with_reducible first | exact HB.out | apply below_alloc | apply pw_below_drewN | apply below_drew1) | exact HB.out)) hb); clear HB; have HB := n0_; clear n0_; (try clear hb); (try clear hb2); (try clear hk); (try clear hi)) | ((with_reducible refine gate_callee (f := 20) rfl ?_); refine goesL_ (some 19) rfl rfl Tryd.func20 (by kernel_rfl) rfl #[.int .u64 (IntKind.u64.wrap (Go.bits .and .u32 (a0 / 256) 255))] rfl (by (try simp only [List.map_toArray, List.map_cons, List.map_nil]); first | done | rfl | (simp only [List.length_drop, List.length_take]; rfl)) ?_; (with_reducible refine (bailiwickref2_Dec.calls k (IntKind.u64.wrap (Go.bits .and .u32 (a0 / 256) 255)) t164 _ A7.out).mono ?_); rintro e w14 ⟨rfl, hb⟩; refine ⟨_, rfl, ?_⟩; have n0_ := Aside0.mk (below_step (by repeat (first | (with_reducible first | exact HB.out | apply below_alloc | apply pw_below_drewN | apply below_drew1) | exact HB.out)) hb); clear HB; have HB := n0_; clear n0_; (try clear hb); (try clear hb2); (try clear hk); (try clear hi)) | ((with_reducible refine gate_callee (f := 20) rfl ?_); refine goesL_ (some 25) rfl rfl Tryd.func20 (by kernel_rfl) rfl #[.int .u64 (IntKind.u64.wrap (Go.bits .and .u32 a0 255))] rfl (by (try simp only [List.map_toArray, List.map_cons, List.map_nil]); first | done | rfl | (simp only [List.length_drop, List.length_take]; rfl)) ?_; (with_reducible refine (bailiwickref2_Dec.calls k (IntKind.u64.wrap (Go.bits .and .u32 a0 255)) t165 _ A10.out).mono ?_); rintro e w15 ⟨rfl, hb⟩; refine ⟨_, rfl, ?_⟩; have n0_ := Aside0.mk (below_step (by repeat (first | (with_reducible first | exact HB.out | apply below_alloc | apply pw_below_drewN | apply below_drew1) | exact HB.out)) hb); clear HB; have HB := n0_; clear n0_; (try clear hb); (try clear hb2); (try clear hk); (try clear hi)))
              go_ret
              exact ⟨by first | rfl | (simp [errW_none, errW_some] <;> rfl) | (simp [*, errW_none, errW_some] <;> rfl), by repeat (first | (with_reducible first | exact HB.out | apply below_alloc | apply pw_below_drewN | apply below_drew1) | exact HB.out)⟩
            · rw [if_neg c11] at H
              exact absurd H (by simp)
          · rw [if_neg c9] at H
            exact absurd H (by simp)
        · rw [if_neg c8] at H
          exact absurd H (by simp)
      · rw [if_neg c6] at H
        exact absurd H (by simp)
    · rw [if_neg c5] at H
      exact absurd H (by simp)
  · rw [if_neg c3] at H
    exact absurd H (by simp)

/-! ### bailiwickref2_Read: function 10 -/
mutual
def bailiwickref2_Read.l0 : Nat → ByteArray → Int → Int → Int → Int → Option (Int × Bool)
  | 0, _, _, _, _, _ => none
  | k + 1, x0, x4, x5, x6, x7 => if x7 < (x0.size : Int) then (bailiwickref2_Read.j1 k x0 x4 x5 x6 x7 (decide (x7 < 16))) else (bailiwickref2_Read.j1 k x0 x4 x5 x6 x7 false)
def bailiwickref2_Read.j1 : Nat → ByteArray → Int → Int → Int → Int → Bool → Option (Int × Bool)
  | 0, _, _, _, _, _, _ => none
  | k + 1, x0, x4, x5, x6, x7, x15 => if x15 = true then (if 0 ≤ x7 then (if x7 < (x0.size : Int) then (if (bt x0 x7) = 46 then (bailiwickref2_Read.l0 k x0 (Go.bits .or .u32 ((x4 * 256) % 4294967296) ((x5) % 4294967296)) 0 (wrap64 (x6 + 1)) (wrap64 (x7 + 1))) else (if (bt x0 x7) < 48 then (bailiwickref2_Read.j2 k x0 x4 x5 x6 x7 true) else (bailiwickref2_Read.j2 k x0 x4 x5 x6 x7 (decide ((bt x0 x7) > 57))))) else (none)) else (none)) else (if x6 = 3 then (if (x0.size : Int) > 15 then (some (0, false)) else ((bailiwickref2_Show.f k (Go.bits .or .u32 ((x4 * 256) % 4294967296) ((x5) % 4294967296))).bind fun t167 => (if t167.toList = x0.toList then (some (Go.bits .or .u32 ((x4 * 256) % 4294967296) ((x5) % 4294967296), true)) else (some (0, false))))) else (some (0, false)))
def bailiwickref2_Read.j2 : Nat → ByteArray → Int → Int → Int → Int → Bool → Option (Int × Bool)
  | 0, _, _, _, _, _, _ => none
  | k + 1, x0, x4, x5, x6, x7, x38 => if x38 = true then (some (0, false)) else (if 0 ≤ x7 then (if x7 < (x0.size : Int) then (if (wrap64 ((wrap64 (x5 * 10)) + (((bt x0 x7) - 48) % 256))) > 255 then (some (0, false)) else (bailiwickref2_Read.l0 k x0 x4 (wrap64 ((wrap64 (x5 * 10)) + (((bt x0 x7) - 48) % 256))) x6 (wrap64 (x7 + 1)))) else (none)) else (none))
end
def bailiwickref2_Read.f (k : Nat) (a0 : ByteArray) : Option (Int × Bool) := bailiwickref2_Read.l0 k a0 0 0 0 0
theorem bailiwickref2_Read.mono_l : ∀ k, (∀ y0 y1 y2 y3 y4, LeO (bailiwickref2_Read.l0 k y0 y1 y2 y3 y4) (bailiwickref2_Read.l0 (k + 1) y0 y1 y2 y3 y4)) ∧ (∀ y0 y1 y2 y3 y4 y5, LeO (bailiwickref2_Read.j1 k y0 y1 y2 y3 y4 y5) (bailiwickref2_Read.j1 (k + 1) y0 y1 y2 y3 y4 y5)) ∧ (∀ y0 y1 y2 y3 y4 y5, LeO (bailiwickref2_Read.j2 k y0 y1 y2 y3 y4 y5) (bailiwickref2_Read.j2 (k + 1) y0 y1 y2 y3 y4 y5))
  | 0 => ⟨fun _ _ _ _ _ r h => by simp [bailiwickref2_Read.l0] at h, fun _ _ _ _ _ _ r h => by simp [bailiwickref2_Read.j1] at h, fun _ _ _ _ _ _ r h => by simp [bailiwickref2_Read.j2] at h⟩
  | k + 1 => by
    obtain ⟨ih0, ih1, ih2⟩ := bailiwickref2_Read.mono_l k
    refine ⟨?_, ?_, ?_⟩
    · intro y0 y1 y2 y3 y4
      unfold bailiwickref2_Read.l0
      repeat' first
      | (with_reducible exact ih0 _ _ _ _ _)
      | (with_reducible exact ih1 _ _ _ _ _ _)
      | (with_reducible exact ih2 _ _ _ _ _ _)
      | (with_reducible exact bailiwickref2_Show.mono _ _)
      | (with_reducible exact LeO.refl _)
      | (with_reducible exact LeO.none _)
      | (with_reducible refine LeO.ite ?_ ?_)
      | (with_reducible refine LeO.bind ?_ (fun _ => ?_))
      | exact ih0 _ _ _ _ _
      | exact ih1 _ _ _ _ _ _
      | exact ih2 _ _ _ _ _ _
      | exact bailiwickref2_Show.mono _ _
      | exact LeO.none _
      | refine LeO.ite ?_ ?_
      | refine LeO.bind ?_ (fun _ => ?_)
    · intro y0 y1 y2 y3 y4 y5
      unfold bailiwickref2_Read.j1
      repeat' first
      | (with_reducible exact ih0 _ _ _ _ _)
      | (with_reducible exact ih1 _ _ _ _ _ _)
      | (with_reducible exact ih2 _ _ _ _ _ _)
      | (with_reducible exact bailiwickref2_Show.mono _ _)
      | (with_reducible exact LeO.refl _)
      | (with_reducible exact LeO.none _)
      | (with_reducible refine LeO.ite ?_ ?_)
      | (with_reducible refine LeO.bind ?_ (fun _ => ?_))
      | exact ih0 _ _ _ _ _
      | exact ih1 _ _ _ _ _ _
      | exact ih2 _ _ _ _ _ _
      | exact bailiwickref2_Show.mono _ _
      | exact LeO.none _
      | refine LeO.ite ?_ ?_
      | refine LeO.bind ?_ (fun _ => ?_)
    · intro y0 y1 y2 y3 y4 y5
      unfold bailiwickref2_Read.j2
      repeat' first
      | (with_reducible exact ih0 _ _ _ _ _)
      | (with_reducible exact ih1 _ _ _ _ _ _)
      | (with_reducible exact ih2 _ _ _ _ _ _)
      | (with_reducible exact bailiwickref2_Show.mono _ _)
      | (with_reducible exact LeO.refl _)
      | (with_reducible exact LeO.none _)
      | (with_reducible refine LeO.ite ?_ ?_)
      | (with_reducible refine LeO.bind ?_ (fun _ => ?_))
      | exact ih0 _ _ _ _ _
      | exact ih1 _ _ _ _ _ _
      | exact ih2 _ _ _ _ _ _
      | exact bailiwickref2_Show.mono _ _
      | exact LeO.none _
      | refine LeO.ite ?_ ?_
      | refine LeO.bind ?_ (fun _ => ?_)
theorem bailiwickref2_Read.mono : ∀ a0 k, LeO (bailiwickref2_Read.f k a0) (bailiwickref2_Read.f (k + 1) a0) := by
  intro a0 k
  obtain ⟨ih0, ih1, ih2⟩ := bailiwickref2_Read.mono_l k
  unfold bailiwickref2_Read.f
  repeat' first
      | (with_reducible exact ih0 _ _ _ _ _)
      | (with_reducible exact ih1 _ _ _ _ _ _)
      | (with_reducible exact ih2 _ _ _ _ _ _)
      | (with_reducible exact bailiwickref2_Show.mono _ _)
      | (with_reducible exact LeO.refl _)
      | (with_reducible exact LeO.none _)
      | (with_reducible refine LeO.ite ?_ ?_)
      | (with_reducible refine LeO.bind ?_ (fun _ => ?_))
      | exact ih0 _ _ _ _ _
      | exact ih1 _ _ _ _ _ _
      | exact ih2 _ _ _ _ _ _
      | exact bailiwickref2_Show.mono _ _
      | exact LeO.none _
      | refine LeO.ite ?_ ?_
      | refine LeO.bind ?_ (fun _ => ?_)
set_option maxHeartbeats 8000000 in
set_option maxRecDepth 100000 in
theorem bailiwickref2_Read.calls (k : Nat) (a0 : ByteArray) (r1 : Int) (r2 : Bool) (w : World) (h : bailiwickref2_Read.f k a0 = some (r1, r2)) :
    Calls Tryd.prog 10 #[.string a0] w fun e w' => e = .returned (.tuple #[.int .u32 r1, .bool r2]) ∧ Below w.heap.size w w' := by
  have HB := Aside0.mk (Below.refl w.heap.size w)
  have H : (bailiwickref2_Read.l0 k a0 0 0 0 0) = some (r1, r2) := h
  clear h
  have H' := Aside0.mk H
  clear H
  go_enter Tryd.func10, Tryd.ntmps10
  go_wp2
  go_loopg [4, 5, 6, 7] k (fun kq v4 v5 v6 v7 w' => ∃ (x4_1 : Int) (x5_1 : Int) (x6_1 : Int) (x7_1 : Int), v4 = .int .u32 x4_1 ∧ v5 = .int .i64 x5_1 ∧ v6 = .int .i64 x6_1 ∧ v7 = .int .i64 x7_1 ∧ Aside0 (bailiwickref2_Read.l0 kq a0 x4_1 x5_1 x6_1 x7_1 = some (r1, r2)) ∧ Aside0 (kq ≤ k) ∧ Aside0 (Below w.heap.size w w'))
  case atStart => exact ⟨(0), (0), (0), (0), (by first | rfl | (simp; done) | (simp [*]; done)), (by first | rfl | (simp; done) | (simp [*]; done)), (by first | rfl | (simp; done) | (simp [*]; done)), (by first | rfl | (simp; done) | (simp [*]; done)), H', ⟨Nat.le_refl _⟩, ⟨by repeat (first | (with_reducible first | exact HB.out | apply below_alloc | apply pw_below_drewN | apply below_drew1) | exact HB.out)⟩⟩
  case round =>
    clear H'
    try clear c1
    obtain ⟨x4_1, x5_1, x6_1, x7_1, rfl, rfl, rfl, rfl, HA, HK1, HB⟩ := hrel
    cases gk with
    | zero => exact absurd HA.out (by simp [bailiwickref2_Read.l0])
    | succ k1 =>
      have H := HA.out
      clear HA
      simp only [bailiwickref2_Read.l0] at H
      have HC2 := Aside0.mk H
      clear H
      go_upto_region 5 with (fail)
      go_cut [15] (fun v15 wc => ∃ (kq : Nat) (x15_1 : Bool), v15 = .bool x15_1 ∧ Aside0 (bailiwickref2_Read.j1 kq a0 x4_1 x5_1 x6_1 x7_1 x15_1 = some (r1, r2)) ∧ Aside0 (kq ≤ k1) ∧ Aside0 (Below w.heap.size w wc))
      case first =>
        have H := HC2.out
        clear HC2
        by_cases c3 : x7_1 < (a0.size : Int)
        · rw [if_pos c3] at H
          have c3b0 : decide (x7_1 < (a0.size : Int)) = true := decide_eq_true c3
          clear c3
          (first | rw [c3b0] | (simp only [i64_w, i32_w]; rw [c3b0]) | skip)
          have H' := Aside0.mk H
          clear H
          go_wp2
          go_meet
          case rel => exact ⟨_, (decide (x7_1 < 16)), (by first | rfl | (simp; done) | (simp [*]; done)), H', ⟨by have := HK1.out; first | omega | exact Nat.le_refl _⟩, ⟨by repeat (first | (with_reducible first | exact HB.out | apply below_alloc | apply pw_below_drewN | apply below_drew1) | exact HB.out)⟩⟩
        · rw [if_neg c3] at H
          have c3b0 : decide (x7_1 < (a0.size : Int)) = false := decide_eq_false c3
          clear c3
          (first | rw [c3b0] | (simp only [i64_w, i32_w]; rw [c3b0]) | skip)
          have H' := Aside0.mk H
          clear H
          go_wp2
          go_meet
          case rel => exact ⟨_, (false), (by first | rfl | (simp; done) | (simp [*]; done)), H', ⟨by have := HK1.out; first | omega | exact Nat.le_refl _⟩, ⟨by repeat (first | (with_reducible first | exact HB.out | apply below_alloc | apply pw_below_drewN | apply below_drew1) | exact HB.out)⟩⟩
      case rest =>
        clear HC2
        try clear c1
        try clear p2
        try clear c3
        try clear c3b0
        obtain ⟨kq, x15_1, rfl, HA, HJ1, HB⟩ := hcut
        cases kq with
        | zero => exact absurd HA.out (by simp [bailiwickref2_Read.j1])
        | succ kj1 =>
          have H := HA.out
          clear HA
          simp only [bailiwickref2_Read.j1] at H
          by_cases c4 : x15_1 = true
          · subst c4
            have H1 : (if 0 ≤ x7_1 then (if x7_1 < (a0.size : Int) then (if (bt a0 x7_1) = 46 then (bailiwickref2_Read.l0 kj1 a0 (Go.bits .or .u32 ((x4_1 * 256) % 4294967296) ((x5_1) % 4294967296)) 0 (wrap64 (x6_1 + 1)) (wrap64 (x7_1 + 1))) else (if (bt a0 x7_1) < 48 then (bailiwickref2_Read.j2 kj1 a0 x4_1 x5_1 x6_1 x7_1 true) else (bailiwickref2_Read.j2 kj1 a0 x4_1 x5_1 x6_1 x7_1 (decide ((bt a0 x7_1) > 57))))) else (none)) else (none)) = some (r1, r2) := by rw [if_pos rfl] at H; exact H
            clear H
            have H := H1
            clear H1
            by_cases c5 : 0 ≤ x7_1
            · rw [if_pos c5] at H
              have c5b0 : decide (0 ≤ x7_1) = true := decide_eq_true c5
              clear c5
              by_cases c6 : x7_1 < (a0.size : Int)
              · rw [if_pos c6] at H
                have c6b0 : decide (x7_1 < (a0.size : Int)) = true := decide_eq_true c6
                clear c6
                by_cases c8 : (bt a0 x7_1) = 46
                · rw [if_pos c8] at H
                  have c8b0 : ((bt a0 x7_1) == 46) = true := beq_iff_eq.mpr c8
                  have c8b1 : ((bt a0 x7_1) != 46) = false := bne_eq_false_iff_eq.mpr c8
                  clear c8
                  have H' := Aside0.mk H
                  clear H
                  have p7 : 0 ≤ (x7_1 : Int) := of_decide_eq_true (by first | (with_reducible assumption) | assumption)
                  have q7 : x7_1 < (a0.size : Int) := of_decide_eq_true (by first | (with_reducible assumption) | assumption)
                  have hx7 := bt_at a0 x7_1
                  replace p7 := eq_true p7
                  replace q7 := eq_true q7
                  go_wp2
                  go_roundg kj1
                  case measure => have := HK1.out; have := HJ1.out; omega
                  case rel => exact ⟨(Go.bits .or .u32 ((x4_1 * 256) % 4294967296) ((x5_1) % 4294967296)), (0), (wrap64 (x6_1 + 1)), (wrap64 (x7_1 + 1)), (by first | rfl | (simp; done) | (simp [*]; done)), (by first | rfl | (simp; done) | (simp [*]; done)), (by first | rfl | (simp; done) | (simp [*]; done)), (by first | rfl | (simp; done) | (simp [*]; done)), H', ⟨by have := HK1.out; have := HJ1.out; omega⟩, ⟨by repeat (first | (with_reducible first | exact HB.out | apply below_alloc | apply pw_below_drewN | apply below_drew1) | exact HB.out)⟩⟩
                · rw [if_neg c8] at H
                  have c8b0 : ((bt a0 x7_1) == 46) = false := beq_eq_false_iff_ne.mpr c8
                  have c8b1 : ((bt a0 x7_1) != 46) = true := bne_iff_ne.mpr c8
                  have HC9 := Aside0.mk H
                  clear H
                  have p7 : 0 ≤ (x7_1 : Int) := of_decide_eq_true (by first | (with_reducible assumption) | assumption)
                  have q7 : x7_1 < (a0.size : Int) := of_decide_eq_true (by first | (with_reducible assumption) | assumption)
                  have hx7 := bt_at a0 x7_1
                  replace p7 := eq_true p7
                  replace q7 := eq_true q7
                  go_upto_region 11 with (fail)
                  go_cut [38] (fun v38 wc => ∃ (kq : Nat) (x38_8 : Bool), v38 = .bool x38_8 ∧ Aside0 (bailiwickref2_Read.j2 kq a0 x4_1 x5_1 x6_1 x7_1 x38_8 = some (r1, r2)) ∧ Aside0 (kq ≤ kj1) ∧ Aside0 (Below w.heap.size w wc))
                  case first =>
                    have H := HC9.out
                    clear HC9
                    by_cases c11 : (bt a0 x7_1) < 48
                    · rw [if_pos c11] at H
                      have c11b0 : decide ((bt a0 x7_1) < 48) = true := decide_eq_true c11
                      clear c11
                      (first | rw [c11b0] | (simp only [i64_w, i32_w]; rw [c11b0]) | skip)
                      have H' := Aside0.mk H
                      clear H
                      have p10 : 0 ≤ (x7_1 : Int) := of_decide_eq_true (by first | (with_reducible assumption) | assumption)
                      have q10 : x7_1 < (a0.size : Int) := of_decide_eq_true (by first | (with_reducible assumption) | assumption)
                      have hx10 := bt_at a0 x7_1
                      replace p10 := eq_true p10
                      replace q10 := eq_true q10
                      go_wp2
                      go_meet
                      case rel => exact ⟨_, (true), (by first | rfl | (simp; done) | (simp [*]; done)), H', ⟨by have := HK1.out; have := HJ1.out; first | omega | exact Nat.le_refl _⟩, ⟨by repeat (first | (with_reducible first | exact HB.out | apply below_alloc | apply pw_below_drewN | apply below_drew1) | exact HB.out)⟩⟩
                    · rw [if_neg c11] at H
                      have c11b0 : decide ((bt a0 x7_1) < 48) = false := decide_eq_false c11
                      clear c11
                      (first | rw [c11b0] | (simp only [i64_w, i32_w]; rw [c11b0]) | skip)
                      have H' := Aside0.mk H
                      clear H
                      have p10 : 0 ≤ (x7_1 : Int) := of_decide_eq_true (by first | (with_reducible assumption) | assumption)
                      have q10 : x7_1 < (a0.size : Int) := of_decide_eq_true (by first | (with_reducible assumption) | assumption)
                      have hx10 := bt_at a0 x7_1
                      replace p10 := eq_true p10
                      replace q10 := eq_true q10
                      have p12 : 0 ≤ (x7_1 : Int) := of_decide_eq_true (by first | (with_reducible assumption) | assumption)
                      have q12 : x7_1 < (a0.size : Int) := of_decide_eq_true (by first | (with_reducible assumption) | assumption)
                      have hx12 := bt_at a0 x7_1
                      replace p12 := eq_true p12
                      replace q12 := eq_true q12
                      go_wp2
                      go_meet
                      case rel => exact ⟨_, (decide ((bt a0 x7_1) > 57)), (by first | rfl | (simp; done) | (simp [*]; done)), H', ⟨by have := HK1.out; have := HJ1.out; first | omega | exact Nat.le_refl _⟩, ⟨by repeat (first | (with_reducible first | exact HB.out | apply below_alloc | apply pw_below_drewN | apply below_drew1) | exact HB.out)⟩⟩
                  case rest =>
                    clear HC9
                    try clear c1
                    try clear p1
                    try clear q1
                    try clear hx1
                    try clear p2
                    try clear c3
                    try clear c3b0
                    try clear c4
                    try clear c5
                    try clear c5b0
                    try clear c6
                    try clear c6b0
                    try clear p6
                    try clear p7
                    try clear q7
                    try clear hx7
                    try clear c8
                    try clear c8b0
                    try clear c8b1
                    try clear c10
                    try clear p10
                    try clear q10
                    try clear hx10
                    try clear c11
                    try clear c11b0
                    try clear p12
                    try clear q12
                    try clear hx12
                    try clear p10
                    try clear p12
                    try clear p2
                    try clear p7
                    try clear q10
                    try clear q12
                    try clear q7
                    obtain ⟨kq, x38_8, rfl, HA, HJ8, HB⟩ := hcut
                    cases kq with
                    | zero => exact absurd HA.out (by simp [bailiwickref2_Read.j2])
                    | succ kj8 =>
                      have H := HA.out
                      clear HA
                      simp only [bailiwickref2_Read.j2] at H
                      by_cases c13 : x38_8 = true
                      · subst c13
                        have H1 : (some (0, false)) = some (r1, r2) := by rw [if_pos rfl] at H; exact H
                        clear H
                        have H := H1
                        clear H1
                        simp only [Option.some.injEq, Prod.mk.injEq] at H
                        obtain ⟨rfl, rfl⟩ := H
                        go_wp2
                        go_ret2
                        exact ⟨by first | rfl | (simp [errW_none, errW_some] <;> rfl) | (simp [*, errW_none, errW_some] <;> rfl), by repeat (first | (with_reducible first | exact HB.out | apply below_alloc | apply pw_below_drewN | apply below_drew1) | exact HB.out)⟩
                      · replace c13 := Bool.eq_false_iff.mpr c13
                        subst c13
                        have H1 : (if 0 ≤ x7_1 then (if x7_1 < (a0.size : Int) then (if (wrap64 ((wrap64 (x5_1 * 10)) + (((bt a0 x7_1) - 48) % 256))) > 255 then (some (0, false)) else (bailiwickref2_Read.l0 kj8 a0 x4_1 (wrap64 ((wrap64 (x5_1 * 10)) + (((bt a0 x7_1) - 48) % 256))) x6_1 (wrap64 (x7_1 + 1)))) else (none)) else (none)) = some (r1, r2) := by rw [if_neg (show ¬ (false = true) by decide)] at H; exact H
                        clear H
                        have H := H1
                        clear H1
                        by_cases c14 : 0 ≤ x7_1
                        · rw [if_pos c14] at H
                          have c14b0 : decide (0 ≤ x7_1) = true := decide_eq_true c14
                          clear c14
                          by_cases c15 : x7_1 < (a0.size : Int)
                          · rw [if_pos c15] at H
                            have c15b0 : decide (x7_1 < (a0.size : Int)) = true := decide_eq_true c15
                            clear c15
                            by_cases c17 : (wrap64 ((wrap64 (x5_1 * 10)) + (((bt a0 x7_1) - 48) % 256))) > 255
                            · rw [if_pos c17] at H
                              have c17b0 : decide (255 < (wrap64 ((wrap64 (x5_1 * 10)) + (((bt a0 x7_1) - 48) % 256)))) = true := decide_eq_true c17
                              clear c17
                              simp only [Option.some.injEq, Prod.mk.injEq] at H
                              obtain ⟨rfl, rfl⟩ := H
                              have p16 : 0 ≤ (x7_1 : Int) := of_decide_eq_true (by first | (with_reducible assumption) | assumption)
                              have q16 : x7_1 < (a0.size : Int) := of_decide_eq_true (by first | (with_reducible assumption) | assumption)
                              have hx16 := bt_at a0 x7_1
                              replace p16 := eq_true p16
                              replace q16 := eq_true q16
                              go_wp2
                              go_ret2
                              exact ⟨by first | rfl | (simp [errW_none, errW_some] <;> rfl) | (simp [*, errW_none, errW_some] <;> rfl), by repeat (first | (with_reducible first | exact HB.out | apply below_alloc | apply pw_below_drewN | apply below_drew1) | exact HB.out)⟩
                            · rw [if_neg c17] at H
                              have c17b0 : decide (255 < (wrap64 ((wrap64 (x5_1 * 10)) + (((bt a0 x7_1) - 48) % 256)))) = false := decide_eq_false c17
                              clear c17
                              have H' := Aside0.mk H
                              clear H
                              have p16 : 0 ≤ (x7_1 : Int) := of_decide_eq_true (by first | (with_reducible assumption) | assumption)
                              have q16 : x7_1 < (a0.size : Int) := of_decide_eq_true (by first | (with_reducible assumption) | assumption)
                              have hx16 := bt_at a0 x7_1
                              replace p16 := eq_true p16
                              replace q16 := eq_true q16
                              go_wp2
                              go_roundg kj8
                              case measure => have := HK1.out; have := HJ1.out; have := HJ8.out; omega
                              case rel => exact ⟨(x4_1), (wrap64 ((wrap64 (x5_1 * 10)) + (((bt a0 x7_1) - 48) % 256))), (x6_1), (wrap64 (x7_1 + 1)), (by first | rfl | (simp; done) | (simp [*]; done)), (by first | rfl | (simp; done) | (simp [*]; done)), (by first | rfl | (simp; done) | (simp [*]; done)), (by first | rfl | (simp; done) | (simp [*]; done)), H', ⟨by have := HK1.out; have := HJ1.out; have := HJ8.out; omega⟩, ⟨by repeat (first | (with_reducible first | exact HB.out | apply below_alloc | apply pw_below_drewN | apply below_drew1) | exact HB.out)⟩⟩
                          · rw [if_neg c15] at H
                            exact absurd H (by simp)
                        · rw [if_neg c14] at H
                          exact absurd H (by simp)
              · rw [if_neg c6] at H
                exact absurd H (by simp)
            · rw [if_neg c5] at H
              exact absurd H (by simp)
          · replace c4 := Bool.eq_false_iff.mpr c4
            subst c4
            have H1 : (if x6_1 = 3 then (if (a0.size : Int) > 15 then (some (0, false)) else ((bailiwickref2_Show.f kj1 (Go.bits .or .u32 ((x4_1 * 256) % 4294967296) ((x5_1) % 4294967296))).bind fun t167 => (if t167.toList = a0.toList then (some (Go.bits .or .u32 ((x4_1 * 256) % 4294967296) ((x5_1) % 4294967296), true)) else (some (0, false))))) else (some (0, false))) = some (r1, r2) := by rw [if_neg (show ¬ (false = true) by decide)] at H; exact H
            clear H
            have H := H1
            clear H1
            by_cases c18 : x6_1 = 3
            · rw [if_pos c18] at H
              have c18b0 : (x6_1 == 3) = true := beq_iff_eq.mpr c18
              have c18b1 : (x6_1 != 3) = false := bne_eq_false_iff_eq.mpr c18
              clear c18
              by_cases c19 : (a0.size : Int) > 15
              · rw [if_pos c19] at H
                have c19b0 : decide (15 < (a0.size : Int)) = true := decide_eq_true c19
                have c19b1 : decide (15 < a0.size) = true := decide_eq_true (by omega)
                clear c19
                simp only [Option.some.injEq, Prod.mk.injEq] at H
                obtain ⟨rfl, rfl⟩ := H
                go_wp2
                go_ret2
                exact ⟨by first | rfl | (simp [errW_none, errW_some] <;> rfl) | (simp [*, errW_none, errW_some] <;> rfl), by repeat (first | (with_reducible first | exact HB.out | apply below_alloc | apply pw_below_drewN | apply below_drew1) | exact HB.out)⟩
              · rw [if_neg c19] at H
                have c19b0 : decide (15 < (a0.size : Int)) = false := decide_eq_false c19
                have c19b1 : decide (15 < a0.size) = false := decide_eq_false (by omega)
                clear c19
                replace H := Option.bind_eq_some_iff.mp H
                obtain ⟨t167, A200, H⟩ := H
                replace H : (if t167.toList = a0.toList then (some (Go.bits .or .u32 ((x4_1 * 256) % 4294967296) ((x5_1) % 4294967296), true)) else (some (0, false))) = some (r1, r2) := H
                have A20 := Aside0.mk A200
                clear A200
                by_cases c21 : t167.toList = a0.toList
                · rw [if_pos c21] at H
                  have c21b0 : (t167.toList == a0.toList) = true := beq_iff_eq.mpr c21
                  have c21b1 : (t167.toList != a0.toList) = false := bne_eq_false_iff_eq.mpr c21
                  clear c21
                  simp only [Option.some.injEq, Prod.mk.injEq] at H
                  obtain ⟨rfl, rfl⟩ := H
                  go_wp2_with (first | (go_at_call 9; (with_reducible refine (bailiwickref2_Show.calls kj1 (Go.bits .or .u32 ((x4_1 * 256) % 4294967296) ((x5_1) % 4294967296)) t167 _ A20.out).mono ?_); rintro e w22 ⟨rfl, hb⟩; have n0_ := Aside0.mk (below_step (by repeat (first | (with_reducible first | exact HB.out | apply below_alloc | apply pw_below_drewN | apply below_drew1) | exact HB.out)) hb); clear HB; have HB := n0_; clear n0_; (try clear hb); (try clear hb2); (try clear hk); (try clear hi)))
                  go_ret2
                  exact ⟨by first | rfl | (simp [errW_none, errW_some] <;> rfl) | (simp [*, errW_none, errW_some] <;> rfl), by repeat (first | (with_reducible first | exact HB.out | apply below_alloc | apply pw_below_drewN | apply below_drew1) | exact HB.out)⟩
                · rw [if_neg c21] at H
                  have c21b0 : (t167.toList == a0.toList) = false := beq_eq_false_iff_ne.mpr c21
                  have c21b1 : (t167.toList != a0.toList) = true := bne_iff_ne.mpr c21
                  simp only [Option.some.injEq, Prod.mk.injEq] at H
                  obtain ⟨rfl, rfl⟩ := H
                  go_wp2_with (first | (go_at_call 9; (with_reducible refine (bailiwickref2_Show.calls kj1 (Go.bits .or .u32 ((x4_1 * 256) % 4294967296) ((x5_1) % 4294967296)) t167 _ A20.out).mono ?_); rintro e w23 ⟨rfl, hb⟩; have n0_ := Aside0.mk (below_step (by repeat (first | (with_reducible first | exact HB.out | apply below_alloc | apply pw_below_drewN | apply below_drew1) | exact HB.out)) hb); clear HB; have HB := n0_; clear n0_; (try clear hb); (try clear hb2); (try clear hk); (try clear hi)))
                  go_ret2
                  exact ⟨by first | rfl | (simp [errW_none, errW_some] <;> rfl) | (simp [*, errW_none, errW_some] <;> rfl), by repeat (first | (with_reducible first | exact HB.out | apply below_alloc | apply pw_below_drewN | apply below_drew1) | exact HB.out)⟩
            · rw [if_neg c18] at H
              have c18b0 : (x6_1 == 3) = false := beq_eq_false_iff_ne.mpr c18
              have c18b1 : (x6_1 != 3) = true := bne_iff_ne.mpr c18
              simp only [Option.some.injEq, Prod.mk.injEq] at H
              obtain ⟨rfl, rfl⟩ := H
              go_wp2
              go_ret2
              exact ⟨by first | rfl | (simp [errW_none, errW_some] <;> rfl) | (simp [*, errW_none, errW_some] <;> rfl), by repeat (first | (with_reducible first | exact HB.out | apply below_alloc | apply pw_below_drewN | apply below_drew1) | exact HB.out)⟩

/-! ### bailiwickref2_Same: function 15 -/
def bailiwickref2_Same.f (k : Nat) (a0_0 : Int) (a0_1 : Int) (a0_2 : Bool) (a0_3 : Bool) (a0_4 : Int) (a0_5 : Int) (a0_6 : Int) (a0_7 : Int) (a0_8 : Int) (l0_9 : List Int) (l0_10 : List Int) (a1_0 : Int) (a1_1 : Int) (a1_2 : Bool) (a1_3 : Bool) (a1_4 : Int) (a1_5 : Int) (a1_6 : Int) (a1_7 : Int) (a1_8 : Int) (l1_9 : List Int) (l1_10 : List Int) : Option (Bool) := if a0_0 = a1_0 then (if a0_1 = a1_1 then (if (a0_2 == a1_2) = true then (if (a0_3 == a1_3) = true then (if a0_4 = a1_4 then (if a0_5 = a1_5 then (if a0_6 = a1_6 then (if a0_7 = a1_7 then (if a0_8 = a1_8 then ((bailiwickref1_Same.f k l0_9 l1_9).bind fun t179 => (if t179 = true then ((bailiwickref1_Same.f k l0_10 l1_10).bind fun t180 => (some t180)) else (some false))) else (some false)) else (some false)) else (some false)) else (some false)) else (some false)) else (some false)) else (some false)) else (some false)) else (some false)
theorem bailiwickref2_Same.mono : ∀ a0 a1 a2 a3 a4 a5 a6 a7 a8 a9 a10 a11 a12 a13 a14 a15 a16 a17 a18 a19 a20 a21 k, LeO (bailiwickref2_Same.f k a0 a1 a2 a3 a4 a5 a6 a7 a8 a9 a10 a11 a12 a13 a14 a15 a16 a17 a18 a19 a20 a21) (bailiwickref2_Same.f (k + 1) a0 a1 a2 a3 a4 a5 a6 a7 a8 a9 a10 a11 a12 a13 a14 a15 a16 a17 a18 a19 a20 a21) := by
  intro a0 a1 a2 a3 a4 a5 a6 a7 a8 a9 a10 a11 a12 a13 a14 a15 a16 a17 a18 a19 a20 a21 k
  unfold bailiwickref2_Same.f
  repeat' first
      | (with_reducible exact bailiwickref1_Same.mono _ _ _)
      | (with_reducible exact LeO.refl _)
      | (with_reducible exact LeO.none _)
      | (with_reducible refine LeO.ite ?_ ?_)
      | (with_reducible refine LeO.bind ?_ (fun _ => ?_))
      | exact bailiwickref1_Same.mono _ _ _
      | exact LeO.none _
      | refine LeO.ite ?_ ?_
      | refine LeO.bind ?_ (fun _ => ?_)
set_option maxHeartbeats 8000000 in
set_option maxRecDepth 100000 in
theorem bailiwickref2_Same.calls (k : Nat) (a0_0 : Int) (a0_1 : Int) (a0_2 : Bool) (a0_3 : Bool) (a0_4 : Int) (a0_5 : Int) (a0_6 : Int) (a0_7 : Int) (a0_8 : Int) (A0_9 : Option Addr) (c0_9 : Nat) (l0_9 : List Int) (A0_10 : Option Addr) (c0_10 : Nat) (l0_10 : List Int) (a1_0 : Int) (a1_1 : Int) (a1_2 : Bool) (a1_3 : Bool) (a1_4 : Int) (a1_5 : Int) (a1_6 : Int) (a1_7 : Int) (a1_8 : Int) (A1_9 : Option Addr) (c1_9 : Nat) (l1_9 : List Int) (A1_10 : Option Addr) (c1_10 : Nat) (l1_10 : List Int) (r : Bool) (w : World) (hr0_9 : Kd.C (Kd.int .u8) w A0_9 l0_9.length l0_9) (hc0_9 : l0_9.length ≤ c0_9) (hr0_10 : Kd.C (Kd.int .u8) w A0_10 l0_10.length l0_10) (hc0_10 : l0_10.length ≤ c0_10) (hr1_9 : Kd.C (Kd.int .u8) w A1_9 l1_9.length l1_9) (hc1_9 : l1_9.length ≤ c1_9) (hr1_10 : Kd.C (Kd.int .u8) w A1_10 l1_10.length l1_10) (hc1_10 : l1_10.length ≤ c1_10) (h : bailiwickref2_Same.f k a0_0 a0_1 a0_2 a0_3 a0_4 a0_5 a0_6 a0_7 a0_8 l0_9 l0_10 a1_0 a1_1 a1_2 a1_3 a1_4 a1_5 a1_6 a1_7 a1_8 l1_9 l1_10 = some r) :
    Calls Tryd.prog 15 #[.agg #[.int .i64 a0_0, .int .i64 a0_1, .bool a0_2, .bool a0_3, .int .i64 a0_4, .int .i64 a0_5, .int .i64 a0_6, .int .u32 a0_7, .int .u32 a0_8, .slice A0_9 l0_9.length c0_9, .slice A0_10 l0_10.length c0_10], .agg #[.int .i64 a1_0, .int .i64 a1_1, .bool a1_2, .bool a1_3, .int .i64 a1_4, .int .i64 a1_5, .int .i64 a1_6, .int .u32 a1_7, .int .u32 a1_8, .slice A1_9 l1_9.length c1_9, .slice A1_10 l1_10.length c1_10]] w fun e w' => e = .returned (.bool r) ∧ Below w.heap.size w w' := by
  have hu34 := Tryd.underlying34
  have HR0_9 := Aside0.mk hr0_9
  have HC0_9 := Aside0.mk hc0_9
  clear hr0_9 hc0_9
  have HR0_10 := Aside0.mk hr0_10
  have HC0_10 := Aside0.mk hc0_10
  clear hr0_10 hc0_10
  have HR1_9 := Aside0.mk hr1_9
  have HC1_9 := Aside0.mk hc1_9
  clear hr1_9 hc1_9
  have HR1_10 := Aside0.mk hr1_10
  have HC1_10 := Aside0.mk hc1_10
  clear hr1_10 hc1_10
  have HB := Aside0.mk (Below.refl w.heap.size w)
  have H : (if a0_0 = a1_0 then (if a0_1 = a1_1 then (if (a0_2 == a1_2) = true then (if (a0_3 == a1_3) = true then (if a0_4 = a1_4 then (if a0_5 = a1_5 then (if a0_6 = a1_6 then (if a0_7 = a1_7 then (if a0_8 = a1_8 then ((bailiwickref1_Same.f k l0_9 l1_9).bind fun t179 => (if t179 = true then ((bailiwickref1_Same.f k l0_10 l1_10).bind fun t180 => (some t180)) else (some false))) else (some false)) else (some false)) else (some false)) else (some false)) else (some false)) else (some false)) else (some false)) else (some false)) else (some false)) = some r := h
  clear h
  by_cases c3 : a0_0 = a1_0
  · rw [if_pos c3] at H
    have c3b0 : (a0_0 == a1_0) = true := beq_iff_eq.mpr c3
    have c3b1 : (a0_0 != a1_0) = false := bne_eq_false_iff_eq.mpr c3
    clear c3
    by_cases c4 : a0_1 = a1_1
    · rw [if_pos c4] at H
      have c4b0 : (a0_1 == a1_1) = true := beq_iff_eq.mpr c4
      have c4b1 : (a0_1 != a1_1) = false := bne_eq_false_iff_eq.mpr c4
      clear c4
      by_cases c5 : (a0_2 == a1_2) = true
      · rw [if_pos c5] at H
        have c5b0 : (a0_2 == a1_2) = true := c5
        (try (have c5b1 : decide (a0_2 = a1_2) = true := by simpa using c5))
        (try (have c5b2 : (a0_2 == a1_2) = true := by simpa using c5))
        clear c5
        by_cases c6 : (a0_3 == a1_3) = true
        · rw [if_pos c6] at H
          have c6b0 : (a0_3 == a1_3) = true := c6
          (try (have c6b1 : decide (a0_3 = a1_3) = true := by simpa using c6))
          (try (have c6b2 : (a0_3 == a1_3) = true := by simpa using c6))
          clear c6
          by_cases c7 : a0_4 = a1_4
          · rw [if_pos c7] at H
            have c7b0 : (a0_4 == a1_4) = true := beq_iff_eq.mpr c7
            have c7b1 : (a0_4 != a1_4) = false := bne_eq_false_iff_eq.mpr c7
            clear c7
            by_cases c8 : a0_5 = a1_5
            · rw [if_pos c8] at H
              have c8b0 : (a0_5 == a1_5) = true := beq_iff_eq.mpr c8
              have c8b1 : (a0_5 != a1_5) = false := bne_eq_false_iff_eq.mpr c8
              clear c8
              by_cases c9 : a0_6 = a1_6
              · rw [if_pos c9] at H
                have c9b0 : (a0_6 == a1_6) = true := beq_iff_eq.mpr c9
                have c9b1 : (a0_6 != a1_6) = false := bne_eq_false_iff_eq.mpr c9
                clear c9
                by_cases c10 : a0_7 = a1_7
                · rw [if_pos c10] at H
                  have c10b0 : (a0_7 == a1_7) = true := beq_iff_eq.mpr c10
                  have c10b1 : (a0_7 != a1_7) = false := bne_eq_false_iff_eq.mpr c10
                  clear c10
                  by_cases c11 : a0_8 = a1_8
                  · rw [if_pos c11] at H
                    have c11b0 : (a0_8 == a1_8) = true := beq_iff_eq.mpr c11
                    have c11b1 : (a0_8 != a1_8) = false := bne_eq_false_iff_eq.mpr c11
                    clear c11
                    replace H := Option.bind_eq_some_iff.mp H
                    obtain ⟨t179, A120, H⟩ := H
                    replace H : (if t179 = true then ((bailiwickref1_Same.f k l0_10 l1_10).bind fun t180 => (some t180)) else (some false)) = some r := H
                    have A12 := Aside0.mk A120
                    clear A120
                    by_cases c13 : t179 = true
                    · subst c13
                      have H1 : ((bailiwickref1_Same.f k l0_10 l1_10).bind fun t180 => (some t180)) = some r := by rw [if_pos rfl] at H; exact H
                      clear H
                      have H := H1
                      clear H1
                      replace H := Option.bind_eq_some_iff.mp H
                      obtain ⟨t180, A140, H⟩ := H
                      replace H : (some t180) = some r := H
                      have A14 := Aside0.mk A140
                      clear A140
                      obtain rfl := Option.some.inj H
                      go_enter Tryd.func15, Tryd.ntmps15
                      go_wp2_with (first | ((with_reducible refine gate_dst (N := 2) rfl ?_); refine box_event ?hg (N := 2) ?hd (cs := #[.int .i64 a0_0, .int .i64 a0_1, .bool a0_2, .bool a0_3, .int .i64 a0_4, .int .i64 a0_5, .int .i64 a0_6, .int .u32 a0_7, .int .u32 a0_8, .slice A0_9 l0_9.length c0_9, .slice A0_10 l0_10.length c0_10]) (t := 34) ?hr ?_; (case hd => rfl); (case hg => rfl); (case hr => first | (go_simp; done) | (go_simp; rfl)); intro gb177 hg w15 hbox hb; have n0_ := Aside0.mk (below_step (by repeat (first | (with_reducible first | exact HB.out | apply below_alloc | apply pw_below_drewN | apply below_drew1) | exact HB.out)) hb); have n1_ := Aside0.mk (hbox); have n2_ := Aside0.mk ((by rw [hg]; exact (below_size (by repeat (first | (with_reducible first | exact HB.out | apply below_alloc | apply pw_below_drewN | apply below_drew1) | exact HB.out))) : w.heap.size ≤ gb177)); have n3_ := Aside0.mk ((by rw [hg]; exact (below_size (by repeat (first | (with_reducible first | exact HB.out | apply below_alloc | apply pw_below_drewN | apply below_drew1) | exact HB.out))) : w.heap.size ≤ gb177)); clear HB; have HB := n0_; have BK177 := n1_; have GW177 := n2_; have GE177 := n3_; clear n0_ n1_ n2_ n3_; clear hb hbox hg) | ((with_reducible refine gate_dst (N := 3) rfl ?_); refine box_event ?hg (N := 3) ?hd (cs := #[.int .i64 a1_0, .int .i64 a1_1, .bool a1_2, .bool a1_3, .int .i64 a1_4, .int .i64 a1_5, .int .i64 a1_6, .int .u32 a1_7, .int .u32 a1_8, .slice A1_9 l1_9.length c1_9, .slice A1_10 l1_10.length c1_10]) (t := 34) ?hr ?_; (case hd => rfl); (case hg => rfl); (case hr => first | (go_simp; done) | (go_simp; rfl)); intro gb178 hg w16 hbox hb; have n0_ := Aside0.mk (blk_below (g := gb177) (o := .cells #[.int .i64 a0_0, .int .i64 a0_1, .bool a0_2, .bool a0_3, .int .i64 a0_4, .int .i64 a0_5, .int .i64 a0_6, .int .u32 a0_7, .int .u32 a0_8, .slice A0_9 l0_9.length c0_9, .slice A0_10 l0_10.length c0_10] 34 (0, 0)) (by (with_reducible repeat (first | refine blk_drewN ?_ _ | refine blk_drew ?_ | refine blk_alloc ?_ _)); exact BK177.out) hb); have n1_ := Aside0.mk (below_step (by repeat (first | (with_reducible first | exact HB.out | apply below_alloc | apply pw_below_drewN | apply below_drew1 | refine below_set ?_ GE177.out) | exact HB.out)) hb); have n2_ := Aside0.mk (hbox); have n3_ := Aside0.mk ((by rw [hg]; exact (below_size (by repeat (first | (with_reducible first | exact HB.out | apply below_alloc | apply pw_below_drewN | apply below_drew1 | refine below_set ?_ GE177.out) | exact HB.out))) : w.heap.size ≤ gb178)); have n4_ := Aside0.mk ((by rw [hg]; exact (below_size (by repeat (first | (with_reducible first | exact HB.out | apply below_alloc | apply pw_below_drewN | apply below_drew1 | refine below_set ?_ GE177.out) | exact HB.out))) : w.heap.size ≤ gb178)); have n5_ := Aside0.mk ((by rw [hg]; exact Nat.ne_of_lt (blk_lt (g := gb177) (o := .cells #[.int .i64 a0_0, .int .i64 a0_1, .bool a0_2, .bool a0_3, .int .i64 a0_4, .int .i64 a0_5, .int .i64 a0_6, .int .u32 a0_7, .int .u32 a0_8, .slice A0_9 l0_9.length c0_9, .slice A0_10 l0_10.length c0_10] 34 (0, 0)) (by (with_reducible repeat (first | refine blk_drewN ?_ _ | refine blk_drew ?_ | refine blk_alloc ?_ _)); exact BK177.out)) : gb177 ≠ gb178)); have n6_ := Aside0.mk ((by rw [hg]; exact Nat.ne_of_gt (blk_lt (g := gb177) (o := .cells #[.int .i64 a0_0, .int .i64 a0_1, .bool a0_2, .bool a0_3, .int .i64 a0_4, .int .i64 a0_5, .int .i64 a0_6, .int .u32 a0_7, .int .u32 a0_8, .slice A0_9 l0_9.length c0_9, .slice A0_10 l0_10.length c0_10] 34 (0, 0)) (by (with_reducible repeat (first | refine blk_drewN ?_ _ | refine blk_drew ?_ | refine blk_alloc ?_ _)); exact BK177.out)) : gb178 ≠ gb177)); clear BK177; clear HB; have BK177 := n0_; have HB := n1_; have BK178 := n2_; have GW178 := n3_; have GE178 := n4_; have NB177_178 := n5_; have NB178_177 := n6_; clear n0_ n1_ n2_ n3_ n4_ n5_ n6_; clear hb hbox hg; have hnb17 := NB177_178.out; have hnc17 := NB178_177.out; have hcz18_0 : w16.cell? ⟨gb177, 0, none⟩ = some (.int .i64 a0_0) := (blk_cell BK177.out 0).trans rfl; have hcz18_1 : w16.cell? ⟨gb177, 1, none⟩ = some (.int .i64 a0_1) := (blk_cell BK177.out 1).trans rfl; have hcz18_2 : w16.cell? ⟨gb177, 2, none⟩ = some (.bool a0_2) := (blk_cell BK177.out 2).trans rfl; have hcz18_3 : w16.cell? ⟨gb177, 3, none⟩ = some (.bool a0_3) := (blk_cell BK177.out 3).trans rfl; have hcz18_4 : w16.cell? ⟨gb177, 4, none⟩ = some (.int .i64 a0_4) := (blk_cell BK177.out 4).trans rfl; have hcz18_5 : w16.cell? ⟨gb177, 5, none⟩ = some (.int .i64 a0_5) := (blk_cell BK177.out 5).trans rfl; have hcz18_6 : w16.cell? ⟨gb177, 6, none⟩ = some (.int .i64 a0_6) := (blk_cell BK177.out 6).trans rfl; have hcz18_7 : w16.cell? ⟨gb177, 7, none⟩ = some (.int .u32 a0_7) := (blk_cell BK177.out 7).trans rfl; have hcz18_8 : w16.cell? ⟨gb177, 8, none⟩ = some (.int .u32 a0_8) := (blk_cell BK177.out 8).trans rfl; have hcz18_9 : w16.cell? ⟨gb177, 9, none⟩ = some (.slice A0_9 l0_9.length c0_9) := (blk_cell BK177.out 9).trans rfl; have hcz18_10 : w16.cell? ⟨gb177, 10, none⟩ = some (.slice A0_10 l0_10.length c0_10) := (blk_cell BK177.out 10).trans rfl; have hfz18_0 := blk_frozen BK177.out 0; have hfz18_1 := blk_frozen BK177.out 1; have hfz18_2 := blk_frozen BK177.out 2; have hfz18_3 := blk_frozen BK177.out 3; have hfz18_4 := blk_frozen BK177.out 4; have hfz18_5 := blk_frozen BK177.out 5; have hfz18_6 := blk_frozen BK177.out 6; have hfz18_7 := blk_frozen BK177.out 7; have hfz18_8 := blk_frozen BK177.out 8; have hfz18_9 := blk_frozen BK177.out 9; have hfz18_10 := blk_frozen BK177.out 10; have hcz19_0 : w16.cell? ⟨gb178, 0, none⟩ = some (.int .i64 a1_0) := (blk_cell BK178.out 0).trans rfl; have hcz19_1 : w16.cell? ⟨gb178, 1, none⟩ = some (.int .i64 a1_1) := (blk_cell BK178.out 1).trans rfl; have hcz19_2 : w16.cell? ⟨gb178, 2, none⟩ = some (.bool a1_2) := (blk_cell BK178.out 2).trans rfl; have hcz19_3 : w16.cell? ⟨gb178, 3, none⟩ = some (.bool a1_3) := (blk_cell BK178.out 3).trans rfl; have hcz19_4 : w16.cell? ⟨gb178, 4, none⟩ = some (.int .i64 a1_4) := (blk_cell BK178.out 4).trans rfl; have hcz19_5 : w16.cell? ⟨gb178, 5, none⟩ = some (.int .i64 a1_5) := (blk_cell BK178.out 5).trans rfl; have hcz19_6 : w16.cell? ⟨gb178, 6, none⟩ = some (.int .i64 a1_6) := (blk_cell BK178.out 6).trans rfl; have hcz19_7 : w16.cell? ⟨gb178, 7, none⟩ = some (.int .u32 a1_7) := (blk_cell BK178.out 7).trans rfl; have hcz19_8 : w16.cell? ⟨gb178, 8, none⟩ = some (.int .u32 a1_8) := (blk_cell BK178.out 8).trans rfl; have hcz19_9 : w16.cell? ⟨gb178, 9, none⟩ = some (.slice A1_9 l1_9.length c1_9) := (blk_cell BK178.out 9).trans rfl; have hcz19_10 : w16.cell? ⟨gb178, 10, none⟩ = some (.slice A1_10 l1_10.length c1_10) := (blk_cell BK178.out 10).trans rfl; have hfz19_0 := blk_frozen BK178.out 0; have hfz19_1 := blk_frozen BK178.out 1; have hfz19_2 := blk_frozen BK178.out 2; have hfz19_3 := blk_frozen BK178.out 3; have hfz19_4 := blk_frozen BK178.out 4; have hfz19_5 := blk_frozen BK178.out 5; have hfz19_6 := blk_frozen BK178.out 6; have hfz19_7 := blk_frozen BK178.out 7; have hfz19_8 := blk_frozen BK178.out 8; have hfz19_9 := blk_frozen BK178.out 9; have hfz19_10 := blk_frozen BK178.out 10) | (go_at_call 30; (with_reducible refine (bailiwickref1_Same.calls k _ _ l0_9 _ _ l1_9 true _ ?side1 ?side2 ?side3 ?side4 A12.out).mono ?_); (case side1 => repeat (first | exact (Kd.C_below HR0_9.out HB.out) | (with_reducible refine Kd.C_alloc ?_ _) | (with_reducible refine Kd.C_drewN ?_ _) | (with_reducible refine Kd.C_drew ?_))); (case side2 => exact HC0_9.out); (case side3 => repeat (first | exact (Kd.C_below HR1_9.out HB.out) | (with_reducible refine Kd.C_alloc ?_ _) | (with_reducible refine Kd.C_drewN ?_ _) | (with_reducible refine Kd.C_drew ?_))); (case side4 => exact HC1_9.out); rintro e w' ⟨rfl, ⟨nd, rfl⟩⟩) | (go_at_call 30; (with_reducible refine (bailiwickref1_Same.calls k _ _ l0_10 _ _ l1_10 t180 _ ?side1 ?side2 ?side3 ?side4 A14.out).mono ?_); (case side1 => repeat (first | exact (Kd.C_below HR0_10.out (by repeat (first | (with_reducible first | exact HB.out | apply below_alloc | apply pw_below_drewN | apply below_drew1 | refine below_set ?_ GE177.out | refine below_set ?_ GE178.out) | exact HB.out))) | (with_reducible refine Kd.C_alloc ?_ _) | (with_reducible refine Kd.C_drewN ?_ _) | (with_reducible refine Kd.C_drew ?_))); (case side2 => exact HC0_10.out); (case side3 => repeat (first | exact (Kd.C_below HR1_10.out (by repeat (first | (with_reducible first | exact HB.out | apply below_alloc | apply pw_below_drewN | apply below_drew1 | refine below_set ?_ GE177.out | refine below_set ?_ GE178.out) | exact HB.out))) | (with_reducible refine Kd.C_alloc ?_ _) | (with_reducible refine Kd.C_drewN ?_ _) | (with_reducible refine Kd.C_drew ?_))); (case side4 => exact HC1_10.out); rintro e w' ⟨rfl, ⟨nd, rfl⟩⟩))
                      go_ret
                      exact ⟨by first | rfl | (simp [errW_none, errW_some] <;> rfl) | (simp [*, errW_none, errW_some] <;> rfl), by repeat (first | (with_reducible first | exact HB.out | apply below_alloc | apply pw_below_drewN | apply below_drew1 | refine below_set ?_ GE177.out | refine below_set ?_ GE178.out) | exact HB.out)⟩
                    · replace c13 := Bool.eq_false_iff.mpr c13
                      subst c13
                      have H1 : (some false) = some r := by rw [if_neg (show ¬ (false = true) by decide)] at H; exact H
                      clear H
                      have H := H1
                      clear H1
                      obtain rfl := Option.some.inj H
                      go_enter Tryd.func15, Tryd.ntmps15
                      go_wp2_with (first | ((with_reducible refine gate_dst (N := 2) rfl ?_); refine box_event ?hg (N := 2) ?hd (cs := #[.int .i64 a0_0, .int .i64 a0_1, .bool a0_2, .bool a0_3, .int .i64 a0_4, .int .i64 a0_5, .int .i64 a0_6, .int .u32 a0_7, .int .u32 a0_8, .slice A0_9 l0_9.length c0_9, .slice A0_10 l0_10.length c0_10]) (t := 34) ?hr ?_; (case hd => rfl); (case hg => rfl); (case hr => first | (go_simp; done) | (go_simp; rfl)); intro gb177 hg w20 hbox hb; have n0_ := Aside0.mk (below_step (by repeat (first | (with_reducible first | exact HB.out | apply below_alloc | apply pw_below_drewN | apply below_drew1) | exact HB.out)) hb); have n1_ := Aside0.mk (hbox); have n2_ := Aside0.mk ((by rw [hg]; exact (below_size (by repeat (first | (with_reducible first | exact HB.out | apply below_alloc | apply pw_below_drewN | apply below_drew1) | exact HB.out))) : w.heap.size ≤ gb177)); have n3_ := Aside0.mk ((by rw [hg]; exact (below_size (by repeat (first | (with_reducible first | exact HB.out | apply below_alloc | apply pw_below_drewN | apply below_drew1) | exact HB.out))) : w.heap.size ≤ gb177)); clear HB; have HB := n0_; have BK177 := n1_; have GW177 := n2_; have GE177 := n3_; clear n0_ n1_ n2_ n3_; clear hb hbox hg) | ((with_reducible refine gate_dst (N := 3) rfl ?_); refine box_event ?hg (N := 3) ?hd (cs := #[.int .i64 a1_0, .int .i64 a1_1, .bool a1_2, .bool a1_3, .int .i64 a1_4, .int .i64 a1_5, .int .i64 a1_6, .int .u32 a1_7, .int .u32 a1_8, .slice A1_9 l1_9.length c1_9, .slice A1_10 l1_10.length c1_10]) (t := 34) ?hr ?_; (case hd => rfl); (case hg => rfl); (case hr => first | (go_simp; done) | (go_simp; rfl)); intro gb178 hg w21 hbox hb; have n0_ := Aside0.mk (blk_below (g := gb177) (o := .cells #[.int .i64 a0_0, .int .i64 a0_1, .bool a0_2, .bool a0_3, .int .i64 a0_4, .int .i64 a0_5, .int .i64 a0_6, .int .u32 a0_7, .int .u32 a0_8, .slice A0_9 l0_9.length c0_9, .slice A0_10 l0_10.length c0_10] 34 (0, 0)) (by (with_reducible repeat (first | refine blk_drewN ?_ _ | refine blk_drew ?_ | refine blk_alloc ?_ _)); exact BK177.out) hb); have n1_ := Aside0.mk (below_step (by repeat (first | (with_reducible first | exact HB.out | apply below_alloc | apply pw_below_drewN | apply below_drew1 | refine below_set ?_ GE177.out) | exact HB.out)) hb); have n2_ := Aside0.mk (hbox); have n3_ := Aside0.mk ((by rw [hg]; exact (below_size (by repeat (first | (with_reducible first | exact HB.out | apply below_alloc | apply pw_below_drewN | apply below_drew1 | refine below_set ?_ GE177.out) | exact HB.out))) : w.heap.size ≤ gb178)); have n4_ := Aside0.mk ((by rw [hg]; exact (below_size (by repeat (first | (with_reducible first | exact HB.out | apply below_alloc | apply pw_below_drewN | apply below_drew1 | refine below_set ?_ GE177.out) | exact HB.out))) : w.heap.size ≤ gb178)); have n5_ := Aside0.mk ((by rw [hg]; exact Nat.ne_of_lt (blk_lt (g := gb177) (o := .cells #[.int .i64 a0_0, .int .i64 a0_1, .bool a0_2, .bool a0_3, .int .i64 a0_4, .int .i64 a0_5, .int .i64 a0_6, .int .u32 a0_7, .int .u32 a0_8, .slice A0_9 l0_9.length c0_9, .slice A0_10 l0_10.length c0_10] 34 (0, 0)) (by (with_reducible repeat (first | refine blk_drewN ?_ _ | refine blk_drew ?_ | refine blk_alloc ?_ _)); exact BK177.out)) : gb177 ≠ gb178)); have n6_ := Aside0.mk ((by rw [hg]; exact Nat.ne_of_gt (blk_lt (g := gb177) (o := .cells #[.int .i64 a0_0, .int .i64 a0_1, .bool a0_2, .bool a0_3, .int .i64 a0_4, .int .i64 a0_5, .int .i64 a0_6, .int .u32 a0_7, .int .u32 a0_8, .slice A0_9 l0_9.length c0_9, .slice A0_10 l0_10.length c0_10] 34 (0, 0)) (by (with_reducible repeat (first | refine blk_drewN ?_ _ | refine blk_drew ?_ | refine blk_alloc ?_ _)); exact BK177.out)) : gb178 ≠ gb177)); clear BK177; clear HB; have BK177 := n0_; have HB := n1_; have BK178 := n2_; have GW178 := n3_; have GE178 := n4_; have NB177_178 := n5_; have NB178_177 := n6_; clear n0_ n1_ n2_ n3_ n4_ n5_ n6_; clear hb hbox hg; have hnb22 := NB177_178.out; have hnc22 := NB178_177.out; have hcz23_0 : w21.cell? ⟨gb177, 0, none⟩ = some (.int .i64 a0_0) := (blk_cell BK177.out 0).trans rfl; have hcz23_1 : w21.cell? ⟨gb177, 1, none⟩ = some (.int .i64 a0_1) := (blk_cell BK177.out 1).trans rfl; have hcz23_2 : w21.cell? ⟨gb177, 2, none⟩ = some (.bool a0_2) := (blk_cell BK177.out 2).trans rfl; have hcz23_3 : w21.cell? ⟨gb177, 3, none⟩ = some (.bool a0_3) := (blk_cell BK177.out 3).trans rfl; have hcz23_4 : w21.cell? ⟨gb177, 4, none⟩ = some (.int .i64 a0_4) := (blk_cell BK177.out 4).trans rfl; have hcz23_5 : w21.cell? ⟨gb177, 5, none⟩ = some (.int .i64 a0_5) := (blk_cell BK177.out 5).trans rfl; have hcz23_6 : w21.cell? ⟨gb177, 6, none⟩ = some (.int .i64 a0_6) := (blk_cell BK177.out 6).trans rfl; have hcz23_7 : w21.cell? ⟨gb177, 7, none⟩ = some (.int .u32 a0_7) := (blk_cell BK177.out 7).trans rfl; have hcz23_8 : w21.cell? ⟨gb177, 8, none⟩ = some (.int .u32 a0_8) := (blk_cell BK177.out 8).trans rfl; have hcz23_9 : w21.cell? ⟨gb177, 9, none⟩ = some (.slice A0_9 l0_9.length c0_9) := (blk_cell BK177.out 9).trans rfl; have hcz23_10 : w21.cell? ⟨gb177, 10, none⟩ = some (.slice A0_10 l0_10.length c0_10) := (blk_cell BK177.out 10).trans rfl; have hfz23_0 := blk_frozen BK177.out 0; have hfz23_1 := blk_frozen BK177.out 1; have hfz23_2 := blk_frozen BK177.out 2; have hfz23_3 := blk_frozen BK177.out 3; have hfz23_4 := blk_frozen BK177.out 4; have hfz23_5 := blk_frozen BK177.out 5; have hfz23_6 := blk_frozen BK177.out 6; have hfz23_7 := blk_frozen BK177.out 7; have hfz23_8 := blk_frozen BK177.out 8; have hfz23_9 := blk_frozen BK177.out 9; have hfz23_10 := blk_frozen BK177.out 10; have hcz24_0 : w21.cell? ⟨gb178, 0, none⟩ = some (.int .i64 a1_0) := (blk_cell BK178.out 0).trans rfl; have hcz24_1 : w21.cell? ⟨gb178, 1, none⟩ = some (.int .i64 a1_1) := (blk_cell BK178.out 1).trans rfl; have hcz24_2 : w21.cell? ⟨gb178, 2, none⟩ = some (.bool a1_2) := (blk_cell BK178.out 2).trans rfl; have hcz24_3 : w21.cell? ⟨gb178, 3, none⟩ = some (.bool a1_3) := (blk_cell BK178.out 3).trans rfl; have hcz24_4 : w21.cell? ⟨gb178, 4, none⟩ = some (.int .i64 a1_4) := (blk_cell BK178.out 4).trans rfl; have hcz24_5 : w21.cell? ⟨gb178, 5, none⟩ = some (.int .i64 a1_5) := (blk_cell BK178.out 5).trans rfl; have hcz24_6 : w21.cell? ⟨gb178, 6, none⟩ = some (.int .i64 a1_6) := (blk_cell BK178.out 6).trans rfl; have hcz24_7 : w21.cell? ⟨gb178, 7, none⟩ = some (.int .u32 a1_7) := (blk_cell BK178.out 7).trans rfl; have hcz24_8 : w21.cell? ⟨gb178, 8, none⟩ = some (.int .u32 a1_8) := (blk_cell BK178.out 8).trans rfl; have hcz24_9 : w21.cell? ⟨gb178, 9, none⟩ = some (.slice A1_9 l1_9.length c1_9) := (blk_cell BK178.out 9).trans rfl; have hcz24_10 : w21.cell? ⟨gb178, 10, none⟩ = some (.slice A1_10 l1_10.length c1_10) := (blk_cell BK178.out 10).trans rfl; have hfz24_0 := blk_frozen BK178.out 0; have hfz24_1 := blk_frozen BK178.out 1; have hfz24_2 := blk_frozen BK178.out 2; have hfz24_3 := blk_frozen BK178.out 3; have hfz24_4 := blk_frozen BK178.out 4; have hfz24_5 := blk_frozen BK178.out 5; have hfz24_6 := blk_frozen BK178.out 6; have hfz24_7 := blk_frozen BK178.out 7; have hfz24_8 := blk_frozen BK178.out 8; have hfz24_9 := blk_frozen BK178.out 9; have hfz24_10 := blk_frozen BK178.out 10) | (go_at_call 30; (with_reducible refine (bailiwickref1_Same.calls k _ _ l0_9 _ _ l1_9 false _ ?side1 ?side2 ?side3 ?side4 A12.out).mono ?_); (case side1 => repeat (first | exact (Kd.C_below HR0_9.out HB.out) | (with_reducible refine Kd.C_alloc ?_ _) | (with_reducible refine Kd.C_drewN ?_ _) | (with_reducible refine Kd.C_drew ?_))); (case side2 => exact HC0_9.out); (case side3 => repeat (first | exact (Kd.C_below HR1_9.out HB.out) | (with_reducible refine Kd.C_alloc ?_ _) | (with_reducible refine Kd.C_drewN ?_ _) | (with_reducible refine Kd.C_drew ?_))); (case side4 => exact HC1_9.out); rintro e w' ⟨rfl, ⟨nd, rfl⟩⟩))
                      go_ret
                      exact ⟨by first | rfl | (simp [errW_none, errW_some] <;> rfl) | (simp [*, errW_none, errW_some] <;> rfl), by repeat (first | (with_reducible first | exact HB.out | apply below_alloc | apply pw_below_drewN | apply below_drew1 | refine below_set ?_ GE177.out | refine below_set ?_ GE178.out) | exact HB.out)⟩
                  · rw [if_neg c11] at H
                    have c11b0 : (a0_8 == a1_8) = false := beq_eq_false_iff_ne.mpr c11
                    have c11b1 : (a0_8 != a1_8) = true := bne_iff_ne.mpr c11
                    obtain rfl := Option.some.inj H
                    go_enter Tryd.func15, Tryd.ntmps15
                    go_wp2_with (first | ((with_reducible refine gate_dst (N := 2) rfl ?_); refine box_event ?hg (N := 2) ?hd (cs := #[.int .i64 a0_0, .int .i64 a0_1, .bool a0_2, .bool a0_3, .int .i64 a0_4, .int .i64 a0_5, .int .i64 a0_6, .int .u32 a0_7, .int .u32 a0_8, .slice A0_9 l0_9.length c0_9, .slice A0_10 l0_10.length c0_10]) (t := 34) ?hr ?_; (case hd => rfl); (case hg => rfl); (case hr => first | (go_simp; done) | (go_simp; rfl)); intro gb177 hg w25 hbox hb; have n0_ := Aside0.mk (below_step (by repeat (first | (with_reducible first | exact HB.out | apply below_alloc | apply pw_below_drewN | apply below_drew1) | exact HB.out)) hb); have n1_ := Aside0.mk (hbox); have n2_ := Aside0.mk ((by rw [hg]; exact (below_size (by repeat (first | (with_reducible first | exact HB.out | apply below_alloc | apply pw_below_drewN | apply below_drew1) | exact HB.out))) : w.heap.size ≤ gb177)); have n3_ := Aside0.mk ((by rw [hg]; exact (below_size (by repeat (first | (with_reducible first | exact HB.out | apply below_alloc | apply pw_below_drewN | apply below_drew1) | exact HB.out))) : w.heap.size ≤ gb177)); clear HB; have HB := n0_; have BK177 := n1_; have GW177 := n2_; have GE177 := n3_; clear n0_ n1_ n2_ n3_; clear hb hbox hg) | ((with_reducible refine gate_dst (N := 3) rfl ?_); refine box_event ?hg (N := 3) ?hd (cs := #[.int .i64 a1_0, .int .i64 a1_1, .bool a1_2, .bool a1_3, .int .i64 a1_4, .int .i64 a1_5, .int .i64 a1_6, .int .u32 a1_7, .int .u32 a1_8, .slice A1_9 l1_9.length c1_9, .slice A1_10 l1_10.length c1_10]) (t := 34) ?hr ?_; (case hd => rfl); (case hg => rfl); (case hr => first | (go_simp; done) | (go_simp; rfl)); intro gb178 hg w26 hbox hb; have n0_ := Aside0.mk (blk_below (g := gb177) (o := .cells #[.int .i64 a0_0, .int .i64 a0_1, .bool a0_2, .bool a0_3, .int .i64 a0_4, .int .i64 a0_5, .int .i64 a0_6, .int .u32 a0_7, .int .u32 a0_8, .slice A0_9 l0_9.length c0_9, .slice A0_10 l0_10.length c0_10] 34 (0, 0)) (by (with_reducible repeat (first | refine blk_drewN ?_ _ | refine blk_drew ?_ | refine blk_alloc ?_ _)); exact BK177.out) hb); have n1_ := Aside0.mk (below_step (by repeat (first | (with_reducible first | exact HB.out | apply below_alloc | apply pw_below_drewN | apply below_drew1 | refine below_set ?_ GE177.out) | exact HB.out)) hb); have n2_ := Aside0.mk (hbox); have n3_ := Aside0.mk ((by rw [hg]; exact (below_size (by repeat (first | (with_reducible first | exact HB.out | apply below_alloc | apply pw_below_drewN | apply below_drew1 | refine below_set ?_ GE177.out) | exact HB.out))) : w.heap.size ≤ gb178)); have n4_ := Aside0.mk ((by rw [hg]; exact (below_size (by repeat (first | (with_reducible first | exact HB.out | apply below_alloc | apply pw_below_drewN | apply below_drew1 | refine below_set ?_ GE177.out) | exact HB.out))) : w.heap.size ≤ gb178)); have n5_ := Aside0.mk ((by rw [hg]; exact Nat.ne_of_lt (blk_lt (g := gb177) (o := .cells #[.int .i64 a0_0, .int .i64 a0_1, .bool a0_2, .bool a0_3, .int .i64 a0_4, .int .i64 a0_5, .int .i64 a0_6, .int .u32 a0_7, .int .u32 a0_8, .slice A0_9 l0_9.length c0_9, .slice A0_10 l0_10.length c0_10] 34 (0, 0)) (by (with_reducible repeat (first | refine blk_drewN ?_ _ | refine blk_drew ?_ | refine blk_alloc ?_ _)); exact BK177.out)) : gb177 ≠ gb178)); have n6_ := Aside0.mk ((by rw [hg]; exact Nat.ne_of_gt (blk_lt (g := gb177) (o := .cells #[.int .i64 a0_0, .int .i64 a0_1, .bool a0_2, .bool a0_3, .int .i64 a0_4, .int .i64 a0_5, .int .i64 a0_6, .int .u32 a0_7, .int .u32 a0_8, .slice A0_9 l0_9.length c0_9, .slice A0_10 l0_10.length c0_10] 34 (0, 0)) (by (with_reducible repeat (first | refine blk_drewN ?_ _ | refine blk_drew ?_ | refine blk_alloc ?_ _)); exact BK177.out)) : gb178 ≠ gb177)); clear BK177; clear HB; have BK177 := n0_; have HB := n1_; have BK178 := n2_; have GW178 := n3_; have GE178 := n4_; have NB177_178 := n5_; have NB178_177 := n6_; clear n0_ n1_ n2_ n3_ n4_ n5_ n6_; clear hb hbox hg; have hnb27 := NB177_178.out; have hnc27 := NB178_177.out; have hcz28_0 : w26.cell? ⟨gb177, 0, none⟩ = some (.int .i64 a0_0) := (blk_cell BK177.out 0).trans rfl; have hcz28_1 : w26.cell? ⟨gb177, 1, none⟩ = some (.int .i64 a0_1) := (blk_cell BK177.out 1).trans rfl; have hcz28_2 : w26.cell? ⟨gb177, 2, none⟩ = some (.bool a0_2) := (blk_cell BK177.out 2).trans rfl; have hcz28_3 : w26.cell? ⟨gb177, 3, none⟩ = some (.bool a0_3) := (blk_cell BK177.out 3).trans rfl; have hcz28_4 : w26.cell? ⟨gb177, 4, none⟩ = some (.int .i64 a0_4) := (blk_cell BK177.out 4).trans rfl; have hcz28_5 : w26.cell? ⟨gb177, 5, none⟩ = some (.int .i64 a0_5) := (blk_cell BK177.out 5).trans rfl; have hcz28_6 : w26.cell? ⟨gb177, 6, none⟩ = some (.int .i64 a0_6) := (blk_cell BK177.out 6).trans rfl; have hcz28_7 : w26.cell? ⟨gb177, 7, none⟩ = some (.int .u32 a0_7) := (blk_cell BK177.out 7).trans rfl; have hcz28_8 : w26.cell? ⟨gb177, 8, none⟩ = some (.int .u32 a0_8) := (blk_cell BK177.out 8).trans rfl; have hcz28_9 : w26.cell? ⟨gb177, 9, none⟩ = some (.slice A0_9 l0_9.length c0_9) := (blk_cell BK177.out 9).trans rfl; have hcz28_10 : w26.cell? ⟨gb177, 10, none⟩ = some (.slice A0_10 l0_10.length c0_10) := (blk_cell BK177.out 10).trans rfl; have hfz28_0 := blk_frozen BK177.out 0; have hfz28_1 := blk_frozen BK177.out 1; have hfz28_2 := blk_frozen BK177.out 2; have hfz28_3 := blk_frozen BK177.out 3; have hfz28_4 := blk_frozen BK177.out 4; have hfz28_5 := blk_frozen BK177.out 5; have hfz28_6 := blk_frozen BK177.out 6; have hfz28_7 := blk_frozen BK177.out 7; have hfz28_8 := blk_frozen BK177.out 8; have hfz28_9 := blk_frozen BK177.out 9; have hfz28_10 := blk_frozen BK177.out 10; have hcz29_0 : w26.cell? ⟨gb178, 0, none⟩ = some (.int .i64 a1_0) := (blk_cell BK178.out 0).trans rfl; have hcz29_1 : w26.cell? ⟨gb178, 1, none⟩ = some (.int .i64 a1_1) := (blk_cell BK178.out 1).trans rfl; have hcz29_2 : w26.cell? ⟨gb178, 2, none⟩ = some (.bool a1_2) := (blk_cell BK178.out 2).trans rfl; have hcz29_3 : w26.cell? ⟨gb178, 3, none⟩ = some (.bool a1_3) := (blk_cell BK178.out 3).trans rfl; have hcz29_4 : w26.cell? ⟨gb178, 4, none⟩ = some (.int .i64 a1_4) := (blk_cell BK178.out 4).trans rfl; have hcz29_5 : w26.cell? ⟨gb178, 5, none⟩ = some (.int .i64 a1_5) := (blk_cell BK178.out 5).trans rfl; have hcz29_6 : w26.cell? ⟨gb178, 6, none⟩ = some (.int .i64 a1_6) := (blk_cell BK178.out 6).trans rfl; have hcz29_7 : w26.cell? ⟨gb178, 7, none⟩ = some (.int .u32 a1_7) := (blk_cell BK178.out 7).trans rfl; have hcz29_8 : w26.cell? ⟨gb178, 8, none⟩ = some (.int .u32 a1_8) := (blk_cell BK178.out 8).trans rfl; have hcz29_9 : w26.cell? ⟨gb178, 9, none⟩ = some (.slice A1_9 l1_9.length c1_9) := (blk_cell BK178.out 9).trans rfl; have hcz29_10 : w26.cell? ⟨gb178, 10, none⟩ = some (.slice A1_10 l1_10.length c1_10) := (blk_cell BK178.out 10).trans rfl; have hfz29_0 := blk_frozen BK178.out 0; have hfz29_1 := blk_frozen BK178.out 1; have hfz29_2 := blk_frozen BK178.out 2; have hfz29_3 := blk_frozen BK178.out 3; have hfz29_4 := blk_frozen BK178.out 4; have hfz29_5 := blk_frozen BK178.out 5; have hfz29_6 := blk_frozen BK178.out 6; have hfz29_7 := blk_frozen BK178.out 7; have hfz29_8 := blk_frozen BK178.out 8; have hfz29_9 := blk_frozen BK178.out 9; have hfz29_10 := blk_frozen BK178.out 10))
                    go_ret
                    exact ⟨by first | rfl | (simp [errW_none, errW_some] <;> rfl) | (simp [*, errW_none, errW_some] <;> rfl), by repeat (first | (with_reducible first | exact HB.out | apply below_alloc | apply pw_below_drewN | apply below_drew1 | refine below_set ?_ GE177.out | refine below_set ?_ GE178.out) | exact HB.out)⟩
                · rw [if_neg c10] at H
                  have c10b0 : (a0_7 == a1_7) = false := beq_eq_false_iff_ne.mpr c10
                  have c10b1 : (a0_7 != a1_7) = true := bne_iff_ne.mpr c10
                  obtain rfl := Option.some.inj H
                  go_enter Tryd.func15, Tryd.ntmps15
                  go_wp2_with (first | ((with_reducible refine gate_dst (N := 2) rfl ?_); refine box_event ?hg (N := 2) ?hd (cs := #[.int .i64 a0_0, .int .i64 a0_1, .bool a0_2, .bool a0_3, .int .i64 a0_4, .int .i64 a0_5, .int .i64 a0_6, .int .u32 a0_7, .int .u32 a0_8, .slice A0_9 l0_9.length c0_9, .slice A0_10 l0_10.length c0_10]) (t := 34) ?hr ?_; (case hd => rfl); (case hg => rfl); (case hr => first | (go_simp; done) | (go_simp; rfl)); intro gb177 hg w30 hbox hb; have n0_ := Aside0.mk (below_step (by repeat (first | (with_reducible first | exact HB.out | apply below_alloc | apply pw_below_drewN | apply below_drew1) | exact HB.out)) hb); have n1_ := Aside0.mk (hbox); have n2_ := Aside0.mk ((by rw [hg]; exact (below_size (by repeat (first | (with_reducible first | exact HB.out | apply below_alloc | apply pw_below_drewN | apply below_drew1) | exact HB.out))) : w.heap.size ≤ gb177)); have n3_ := Aside0.mk ((by rw [hg]; exact (below_size (by repeat (first | (with_reducible first | exact HB.out | apply below_alloc | apply pw_below_drewN | apply below_drew1) | exact HB.out))) : w.heap.size ≤ gb177)); clear HB; have HB := n0_; have BK177 := n1_; have GW177 := n2_; have GE177 := n3_; clear n0_ n1_ n2_ n3_; clear hb hbox hg) | ((with_reducible refine gate_dst (N := 3) rfl ?_); refine box_event ?hg (N := 3) ?hd (cs := #[.int .i64 a1_0, .int .i64 a1_1, .bool a1_2, .bool a1_3, .int .i64 a1_4, .int .i64 a1_5, .int .i64 a1_6, .int .u32 a1_7, .int .u32 a1_8, .slice A1_9 l1_9.length c1_9, .slice A1_10 l1_10.length c1_10]) (t := 34) ?hr ?_; (case hd => rfl); (case hg => rfl); (case hr => first | (go_simp; done) | (go_simp; rfl)); intro gb178 hg w31 hbox hb; have n0_ := Aside0.mk (blk_below (g := gb177) (o := .cells #[.int .i64 a0_0, .int .i64 a0_1, .bool a0_2, .bool a0_3, .int .i64 a0_4, .int .i64 a0_5, .int .i64 a0_6, .int .u32 a0_7, .int .u32 a0_8, .slice A0_9 l0_9.length c0_9, .slice A0_10 l0_10.length c0_10] 34 (0, 0)) (by (with_reducible repeat (first | refine blk_drewN ?_ _ | refine blk_drew ?_ | refine blk_alloc ?_ _)); exact BK177.out) hb); have n1_ := Aside0.mk (below_step (by repeat (first | (with_reducible first | exact HB.out | apply below_alloc | apply pw_below_drewN | apply below_drew1 | refine below_set ?_ GE177.out) | exact HB.out)) hb); have n2_ := Aside0.mk (hbox); have n3_ := Aside0.mk ((by rw [hg]; exact (below_size (by repeat (first | (with_reducible first | exact HB.out | apply below_alloc | apply pw_below_drewN | apply below_drew1 | refine below_set ?_ GE177.out) | exact HB.out))) : w.heap.size ≤ gb178)); have n4_ := Aside0.mk ((by rw [hg]; exact (below_size (by repeat (first | (with_reducible first | exact HB.out | apply below_alloc | apply pw_below_drewN | apply below_drew1 | refine below_set ?_ GE177.out) | exact HB.out))) : w.heap.size ≤ gb178)); have n5_ := Aside0.mk ((by rw [hg]; exact Nat.ne_of_lt (blk_lt (g := gb177) (o := .cells #[.int .i64 a0_0, .int .i64 a0_1, .bool a0_2, .bool a0_3, .int .i64 a0_4, .int .i64 a0_5, .int .i64 a0_6, .int .u32 a0_7, .int .u32 a0_8, .slice A0_9 l0_9.length c0_9, .slice A0_10 l0_10.length c0_10] 34 (0, 0)) (by (with_reducible repeat (first | refine blk_drewN ?_ _ | refine blk_drew ?_ | refine blk_alloc ?_ _)); exact BK177.out)) : gb177 ≠ gb178)); have n6_ := Aside0.mk ((by rw [hg]; exact Nat.ne_of_gt (blk_lt (g := gb177) (o := .cells #[.int .i64 a0_0, .int .i64 a0_1, .bool a0_2, .bool a0_3, .int .i64 a0_4, .int .i64 a0_5, .int .i64 a0_6, .int .u32 a0_7, .int .u32 a0_8, .slice A0_9 l0_9.length c0_9, .slice A0_10 l0_10.length c0_10] 34 (0, 0)) (by (with_reducible repeat (first | refine blk_drewN ?_ _ | refine blk_drew ?_ | refine blk_alloc ?_ _)); exact BK177.out)) : gb178 ≠ gb177)); clear BK177; clear HB; have BK177 := n0_; have HB := n1_; have BK178 := n2_; have GW178 := n3_; have GE178 := n4_; have NB177_178 := n5_; have NB178_177 := n6_; clear n0_ n1_ n2_ n3_ n4_ n5_ n6_; clear hb hbox hg; have hnb32 := NB177_178.out; have hnc32 := NB178_177.out; have hcz33_0 : w31.cell? ⟨gb177, 0, none⟩ = some (.int .i64 a0_0) := (blk_cell BK177.out 0).trans rfl; have hcz33_1 : w31.cell? ⟨gb177, 1, none⟩ = some (.int .i64 a0_1) := (blk_cell BK177.out 1).trans rfl; have hcz33_2 : w31.cell? ⟨gb177, 2, none⟩ = some (.bool a0_2) := (blk_cell BK177.out 2).trans rfl; have hcz33_3 : w31.cell? ⟨gb177, 3, none⟩ = some (.bool a0_3) := (blk_cell BK177.out 3).trans rfl; have hcz33_4 : w31.cell? ⟨gb177, 4, none⟩ = some (.int .i64 a0_4) := (blk_cell BK177.out 4).trans rfl; have hcz33_5 : w31.cell? ⟨gb177, 5, none⟩ = some (.int .i64 a0_5) := (blk_cell BK177.out 5).trans rfl; have hcz33_6 : w31.cell? ⟨gb177, 6, none⟩ = some (.int .i64 a0_6) := (blk_cell BK177.out 6).trans rfl; have hcz33_7 : w31.cell? ⟨gb177, 7, none⟩ = some (.int .u32 a0_7) := (blk_cell BK177.out 7).trans rfl; have hcz33_8 : w31.cell? ⟨gb177, 8, none⟩ = some (.int .u32 a0_8) := (blk_cell BK177.out 8).trans rfl; have hcz33_9 : w31.cell? ⟨gb177, 9, none⟩ = some (.slice A0_9 l0_9.length c0_9) := (blk_cell BK177.out 9).trans rfl; have hcz33_10 : w31.cell? ⟨gb177, 10, none⟩ = some (.slice A0_10 l0_10.length c0_10) := (blk_cell BK177.out 10).trans rfl; have hfz33_0 := blk_frozen BK177.out 0; have hfz33_1 := blk_frozen BK177.out 1; have hfz33_2 := blk_frozen BK177.out 2; have hfz33_3 := blk_frozen BK177.out 3; have hfz33_4 := blk_frozen BK177.out 4; have hfz33_5 := blk_frozen BK177.out 5; have hfz33_6 := blk_frozen BK177.out 6; have hfz33_7 := blk_frozen BK177.out 7; have hfz33_8 := blk_frozen BK177.out 8; have hfz33_9 := blk_frozen BK177.out 9; have hfz33_10 := blk_frozen BK177.out 10; have hcz34_0 : w31.cell? ⟨gb178, 0, none⟩ = some (.int .i64 a1_0) := (blk_cell BK178.out 0).trans rfl; have hcz34_1 : w31.cell? ⟨gb178, 1, none⟩ = some (.int .i64 a1_1) := (blk_cell BK178.out 1).trans rfl; have hcz34_2 : w31.cell? ⟨gb178, 2, none⟩ = some (.bool a1_2) := (blk_cell BK178.out 2).trans rfl; have hcz34_3 : w31.cell? ⟨gb178, 3, none⟩ = some (.bool a1_3) := (blk_cell BK178.out 3).trans rfl; have hcz34_4 : w31.cell? ⟨gb178, 4, none⟩ = some (.int .i64 a1_4) := (blk_cell BK178.out 4).trans rfl; have hcz34_5 : w31.cell? ⟨gb178, 5, none⟩ = some (.int .i64 a1_5) := (blk_cell BK178.out 5).trans rfl; have hcz34_6 : w31.cell? ⟨gb178, 6, none⟩ = some (.int .i64 a1_6) := (blk_cell BK178.out 6).trans rfl; have hcz34_7 : w31.cell? ⟨gb178, 7, none⟩ = some (.int .u32 a1_7) := (blk_cell BK178.out 7).trans rfl; have hcz34_8 : w31.cell? ⟨gb178, 8, none⟩ = some (.int .u32 a1_8) := (blk_cell BK178.out 8).trans rfl; have hcz34_9 : w31.cell? ⟨gb178, 9, none⟩ = some (.slice A1_9 l1_9.length c1_9) := (blk_cell BK178.out 9).trans rfl; have hcz34_10 : w31.cell? ⟨gb178, 10, none⟩ = some (.slice A1_10 l1_10.length c1_10) := (blk_cell BK178.out 10).trans rfl; have hfz34_0 := blk_frozen BK178.out 0; have hfz34_1 := blk_frozen BK178.out 1; have hfz34_2 := blk_frozen BK178.out 2; have hfz34_3 := blk_frozen BK178.out 3; have hfz34_4 := blk_frozen BK178.out 4; have hfz34_5 := blk_frozen BK178.out 5; have hfz34_6 := blk_frozen BK178.out 6; have hfz34_7 := blk_frozen BK178.out 7; have hfz34_8 := blk_frozen BK178.out 8; have hfz34_9 := blk_frozen BK178.out 9; have hfz34_10 := blk_frozen BK178.out 10))
                  go_ret
                  exact ⟨by first | rfl | (simp [errW_none, errW_some] <;> rfl) | (simp [*, errW_none, errW_some] <;> rfl), by repeat (first | (with_reducible first | exact HB.out | apply below_alloc | apply pw_below_drewN | apply below_drew1 | refine below_set ?_ GE177.out | refine below_set ?_ GE178.out) | exact HB.out)⟩
              · rw [if_neg c9] at H
                have c9b0 : (a0_6 == a1_6) = false := beq_eq_false_iff_ne.mpr c9
                have c9b1 : (a0_6 != a1_6) = true := bne_iff_ne.mpr c9
                obtain rfl := Option.some.inj H
                go_enter Tryd.func15, Tryd.ntmps15
                go_wp2_with (first | ((with_reducible refine gate_dst (N := 2) rfl ?_); refine box_event ?hg (N := 2) ?hd (cs := #[.int .i64 a0_0, .int .i64 a0_1, .bool a0_2, .bool a0_3, .int .i64 a0_4, .int .i64 a0_5, .int .i64 a0_6, .int .u32 a0_7, .int .u32 a0_8, .slice A0_9 l0_9.length c0_9, .slice A0_10 l0_10.length c0_10]) (t := 34) ?hr ?_; (case hd => rfl); (case hg => rfl); (case hr => first | (go_simp; done) | (go_simp; rfl)); intro gb177 hg w35 hbox hb; have n0_ := Aside0.mk (below_step (by repeat (first | (with_reducible first | exact HB.out | apply below_alloc | apply pw_below_drewN | apply below_drew1) | exact HB.out)) hb); have n1_ := Aside0.mk (hbox); have n2_ := Aside0.mk ((by rw [hg]; exact (below_size (by repeat (first | (with_reducible first | exact HB.out | apply below_alloc | apply pw_below_drewN | apply below_drew1) | exact HB.out))) : w.heap.size ≤ gb177)); have n3_ := Aside0.mk ((by rw [hg]; exact (below_size (by repeat (first | (with_reducible first | exact HB.out | apply below_alloc | apply pw_below_drewN | apply below_drew1) | exact HB.out))) : w.heap.size ≤ gb177)); clear HB; have HB := n0_; have BK177 := n1_; have GW177 := n2_; have GE177 := n3_; clear n0_ n1_ n2_ n3_; clear hb hbox hg) | ((with_reducible refine gate_dst (N := 3) rfl ?_); refine box_event ?hg (N := 3) ?hd (cs := #[.int .i64 a1_0, .int .i64 a1_1, .bool a1_2, .bool a1_3, .int .i64 a1_4, .int .i64 a1_5, .int .i64 a1_6, .int .u32 a1_7, .int .u32 a1_8, .slice A1_9 l1_9.length c1_9, .slice A1_10 l1_10.length c1_10]) (t := 34) ?hr ?_; (case hd => rfl); (case hg => rfl); (case hr => first | (go_simp; done) | (go_simp; rfl)); intro gb178 hg w36 hbox hb; have n0_ := Aside0.mk (blk_below (g := gb177) (o := .cells #[.int .i64 a0_0, .int .i64 a0_1, .bool a0_2, .bool a0_3, .int .i64 a0_4, .int .i64 a0_5, .int .i64 a0_6, .int .u32 a0_7, .int .u32 a0_8, .slice A0_9 l0_9.length c0_9, .slice A0_10 l0_10.length c0_10] 34 (0, 0)) (by (with_reducible repeat (first | refine blk_drewN ?_ _ | refine blk_drew ?_ | refine blk_alloc ?_ _)); exact BK177.out) hb); have n1_ := Aside0.mk (below_step (by repeat (first | (with_reducible first | exact HB.out | apply below_alloc | apply pw_below_drewN | apply below_drew1 | refine below_set ?_ GE177.out) | exact HB.out)) hb); have n2_ := Aside0.mk (hbox); have n3_ := Aside0.mk ((by rw [hg]; exact (below_size (by repeat (first | (with_reducible first | exact HB.out | apply below_alloc | apply pw_below_drewN | apply below_drew1 | refine below_set ?_ GE177.out) | exact HB.out))) : w.heap.size ≤ gb178)); have n4_ := Aside0.mk ((by rw [hg]; exact (below_size (by repeat (first | (with_reducible first | exact HB.out | apply below_alloc | apply pw_below_drewN | apply below_drew1 | refine below_set ?_ GE177.out) | exact HB.out))) : w.heap.size ≤ gb178)); have n5_ := Aside0.mk ((by rw [hg]; exact Nat.ne_of_lt (blk_lt (g := gb177) (o := .cells #[.int .i64 a0_0, .int .i64 a0_1, .bool a0_2, .bool a0_3, .int .i64 a0_4, .int .i64 a0_5, .int .i64 a0_6, .int .u32 a0_7, .int .u32 a0_8, .slice A0_9 l0_9.length c0_9, .slice A0_10 l0_10.length c0_10] 34 (0, 0)) (by (with_reducible repeat (first | refine blk_drewN ?_ _ | refine blk_drew ?_ | refine blk_alloc ?_ _)); exact BK177.out)) : gb177 ≠ gb178)); have n6_ := Aside0.mk ((by rw [hg]; exact Nat.ne_of_gt (blk_lt (g := gb177) (o := .cells #[.int .i64 a0_0, .int .i64 a0_1, .bool a0_2, .bool a0_3, .int .i64 a0_4, .int .i64 a0_5, .int .i64 a0_6, .int .u32 a0_7, .int .u32 a0_8, .slice A0_9 l0_9.length c0_9, .slice A0_10 l0_10.length c0_10] 34 (0, 0)) (by (with_reducible repeat (first | refine blk_drewN ?_ _ | refine blk_drew ?_ | refine blk_alloc ?_ _)); exact BK177.out)) : gb178 ≠ gb177)); clear BK177; clear HB; have BK177 := n0_; have HB := n1_; have BK178 := n2_; have GW178 := n3_; have GE178 := n4_; have NB177_178 := n5_; have NB178_177 := n6_; clear n0_ n1_ n2_ n3_ n4_ n5_ n6_; clear hb hbox hg; have hnb37 := NB177_178.out; have hnc37 := NB178_177.out; have hcz38_0 : w36.cell? ⟨gb177, 0, none⟩ = some (.int .i64 a0_0) := (blk_cell BK177.out 0).trans rfl; have hcz38_1 : w36.cell? ⟨gb177, 1, none⟩ = some (.int .i64 a0_1) := (blk_cell BK177.out 1).trans rfl; have hcz38_2 : w36.cell? ⟨gb177, 2, none⟩ = some (.bool a0_2) := (blk_cell BK177.out 2).trans rfl; have hcz38_3 : w36.cell? ⟨gb177, 3, none⟩ = some (.bool a0_3) := (blk_cell BK177.out 3).trans rfl; have hcz38_4 : w36.cell? ⟨gb177, 4, none⟩ = some (.int .i64 a0_4) := (blk_cell BK177.out 4).trans rfl; have hcz38_5 : w36.cell? ⟨gb177, 5, none⟩ = some (.int .i64 a0_5) := (blk_cell BK177.out 5).trans rfl; have hcz38_6 : w36.cell? ⟨gb177, 6, none⟩ = some (.int .i64 a0_6) := (blk_cell BK177.out 6).trans rfl; have hcz38_7 : w36.cell? ⟨gb177, 7, none⟩ = some (.int .u32 a0_7) := (blk_cell BK177.out 7).trans rfl; have hcz38_8 : w36.cell? ⟨gb177, 8, none⟩ = some (.int .u32 a0_8) := (blk_cell BK177.out 8).trans rfl; have hcz38_9 : w36.cell? ⟨gb177, 9, none⟩ = some (.slice A0_9 l0_9.length c0_9) := (blk_cell BK177.out 9).trans rfl; have hcz38_10 : w36.cell? ⟨gb177, 10, none⟩ = some (.slice A0_10 l0_10.length c0_10) := (blk_cell BK177.out 10).trans rfl; have hfz38_0 := blk_frozen BK177.out 0; have hfz38_1 := blk_frozen BK177.out 1; have hfz38_2 := blk_frozen BK177.out 2; have hfz38_3 := blk_frozen BK177.out 3; have hfz38_4 := blk_frozen BK177.out 4; have hfz38_5 := blk_frozen BK177.out 5; have hfz38_6 := blk_frozen BK177.out 6; have hfz38_7 := blk_frozen BK177.out 7; have hfz38_8 := blk_frozen BK177.out 8; have hfz38_9 := blk_frozen BK177.out 9; have hfz38_10 := blk_frozen BK177.out 10; have hcz39_0 : w36.cell? ⟨gb178, 0, none⟩ = some (.int .i64 a1_0) := (blk_cell BK178.out 0).trans rfl; have hcz39_1 : w36.cell? ⟨gb178, 1, none⟩ = some (.int .i64 a1_1) := (blk_cell BK178.out 1).trans rfl; have hcz39_2 : w36.cell? ⟨gb178, 2, none⟩ = some (.bool a1_2) := (blk_cell BK178.out 2).trans rfl; have hcz39_3 : w36.cell? ⟨gb178, 3, none⟩ = some (.bool a1_3) := (blk_cell BK178.out 3).trans rfl; have hcz39_4 : w36.cell? ⟨gb178, 4, none⟩ = some (.int .i64 a1_4) := (blk_cell BK178.out 4).trans rfl; have hcz39_5 : w36.cell? ⟨gb178, 5, none⟩ = some (.int .i64 a1_5) := (blk_cell BK178.out 5).trans rfl; have hcz39_6 : w36.cell? ⟨gb178, 6, none⟩ = some (.int .i64 a1_6) := (blk_cell BK178.out 6).trans rfl; have hcz39_7 : w36.cell? ⟨gb178, 7, none⟩ = some (.int .u32 a1_7) := (blk_cell BK178.out 7).trans rfl; have hcz39_8 : w36.cell? ⟨gb178, 8, none⟩ = some (.int .u32 a1_8) := (blk_cell BK178.out 8).trans rfl; have hcz39_9 : w36.cell? ⟨gb178, 9, none⟩ = some (.slice A1_9 l1_9.length c1_9) := (blk_cell BK178.out 9).trans rfl; have hcz39_10 : w36.cell? ⟨gb178, 10, none⟩ = some (.slice A1_10 l1_10.length c1_10) := (blk_cell BK178.out 10).trans rfl; have hfz39_0 := blk_frozen BK178.out 0; have hfz39_1 := blk_frozen BK178.out 1; have hfz39_2 := blk_frozen BK178.out 2; have hfz39_3 := blk_frozen BK178.out 3; have hfz39_4 := blk_frozen BK178.out 4; have hfz39_5 := blk_frozen BK178.out 5; have hfz39_6 := blk_frozen BK178.out 6; have hfz39_7 := blk_frozen BK178.out 7; have hfz39_8 := blk_frozen BK178.out 8; have hfz39_9 := blk_frozen BK178.out 9; have hfz39_10 := blk_frozen BK178.out 10))
                go_ret
                exact ⟨by first | rfl | (simp [errW_none, errW_some] <;> rfl) | (simp [*, errW_none, errW_some] <;> rfl), by repeat (first | (with_reducible first | exact HB.out | apply below_alloc | apply pw_below_drewN | apply below_drew1 | refine below_set ?_ GE177.out | refine below_set ?_ GE178.out) | exact HB.out)⟩
            · rw [if_neg c8] at H
              have c8b0 : (a0_5 == a1_5) = false := beq_eq_false_iff_ne.mpr c8
              have c8b1 : (a0_5 != a1_5) = true := bne_iff_ne.mpr c8
              obtain rfl := Option.some.inj H
              go_enter Tryd.func15, Tryd.ntmps15
              go_wp2_with (first | ((with_reducible refine gate_dst (N := 2) rfl ?_); refine box_event ?hg (N := 2) ?hd (cs := #[.int .i64 a0_0, .int .i64 a0_1, .bool a0_2, .bool a0_3, .int .i64 a0_4, .int .i64 a0_5, .int .i64 a0_6, .int .u32 a0_7, .int .u32 a0_8, .slice A0_9 l0_9.length c0_9, .slice A0_10 l0_10.length c0_10]) (t := 34) ?hr ?_; (case hd => rfl); (case hg => rfl); (case hr => first | (go_simp; done) | (go_simp; rfl)); intro gb177 hg w40 hbox hb; have n0_ := Aside0.mk (below_step (by repeat (first | (with_reducible first | exact HB.out | apply below_alloc | apply pw_below_drewN | apply below_drew1) | exact HB.out)) hb); have n1_ := Aside0.mk (hbox); have n2_ := Aside0.mk ((by rw [hg]; exact (below_size (by repeat (first | (with_reducible first | exact HB.out | apply below_alloc | apply pw_below_drewN | apply below_drew1) | exact HB.out))) : w.heap.size ≤ gb177)); have n3_ := Aside0.mk ((by rw [hg]; exact (below_size (by repeat (first | (with_reducible first | exact HB.out | apply below_alloc | apply pw_below_drewN | apply below_drew1) | exact HB.out))) : w.heap.size ≤ gb177)); clear HB; have HB := n0_; have BK177 := n1_; have GW177 := n2_; have GE177 := n3_; clear n0_ n1_ n2_ n3_; clear hb hbox hg) | ((with_reducible refine gate_dst (N := 3) rfl ?_); refine box_event ?hg (N := 3) ?hd (cs := #[.int .i64 a1_0, .int .i64 a1_1, .bool a1_2, .bool a1_3, .int .i64 a1_4, .int .i64 a1_5, .int .i64 a1_6, .int .u32 a1_7, .int .u32 a1_8, .slice A1_9 l1_9.length c1_9, .slice A1_10 l1_10.length c1_10]) (t := 34) ?hr ?_; (case hd => rfl); (case hg => rfl); (case hr => first | (go_simp; done) | (go_simp; rfl)); intro gb178 hg w41 hbox hb; have n0_ := Aside0.mk (blk_below (g := gb177) (o := .cells #[.int .i64 a0_0, .int .i64 a0_1, .bool a0_2, .bool a0_3, .int .i64 a0_4, .int .i64 a0_5, .int .i64 a0_6, .int .u32 a0_7, .int .u32 a0_8, .slice A0_9 l0_9.length c0_9, .slice A0_10 l0_10.length c0_10] 34 (0, 0)) (by (with_reducible repeat (first | refine blk_drewN ?_ _ | refine blk_drew ?_ | refine blk_alloc ?_ _)); exact BK177.out) hb); have n1_ := Aside0.mk (below_step (by repeat (first | (with_reducible first | exact HB.out | apply below_alloc | apply pw_below_drewN | apply below_drew1 | refine below_set ?_ GE177.out) | exact HB.out)) hb); have n2_ := Aside0.mk (hbox); have n3_ := Aside0.mk ((by rw [hg]; exact (below_size (by repeat (first | (with_reducible first | exact HB.out | apply below_alloc | apply pw_below_drewN | apply below_drew1 | refine below_set ?_ GE177.out) | exact HB.out))) : w.heap.size ≤ gb178)); have n4_ := Aside0.mk ((by rw [hg]; exact (below_size (by repeat (first | (with_reducible first | exact HB.out | apply below_alloc | apply pw_below_drewN | apply below_drew1 | refine below_set ?_ GE177.out) | exact HB.out))) : w.heap.size ≤ gb178)); have n5_ := Aside0.mk ((by rw [hg]; exact Nat.ne_of_lt (blk_lt (g := gb177) (o := .cells #[.int .i64 a0_0, .int .i64 a0_1, .bool a0_2, .bool a0_3, .int .i64 a0_4, .int .i64 a0_5, .int .i64 a0_6, .int .u32 a0_7, .int .u32 a0_8, .slice A0_9 l0_9.length c0_9, .slice A0_10 l0_10.length c0_10] 34 (0, 0)) (by (with_reducible repeat (first | refine blk_drewN ?_ _ | refine blk_drew ?_ | refine blk_alloc ?_ _)); exact BK177.out)) : gb177 ≠ gb178)); have n6_ := Aside0.mk ((by rw [hg]; exact Nat.ne_of_gt (blk_lt (g := gb177) (o := .cells #[.int .i64 a0_0, .int .i64 a0_1, .bool a0_2, .bool a0_3, .int .i64 a0_4, .int .i64 a0_5, .int .i64 a0_6, .int .u32 a0_7, .int .u32 a0_8, .slice A0_9 l0_9.length c0_9, .slice A0_10 l0_10.length c0_10] 34 (0, 0)) (by (with_reducible repeat (first | refine blk_drewN ?_ _ | refine blk_drew ?_ | refine blk_alloc ?_ _)); exact BK177.out)) : gb178 ≠ gb177)); clear BK177; clear HB; have BK177 := n0_; have HB := n1_; have BK178 := n2_; have GW178 := n3_; have GE178 := n4_; have NB177_178 := n5_; have NB178_177 := n6_; clear n0_ n1_ n2_ n3_ n4_ n5_ n6_; clear hb hbox hg; have hnb42 := NB177_178.out; have hnc42 := NB178_177.out; have hcz43_0 : w41.cell? ⟨gb177, 0, none⟩ = some (.int .i64 a0_0) := (blk_cell BK177.out 0).trans rfl; have hcz43_1 : w41.cell? ⟨gb177, 1, none⟩ = some (.int .i64 a0_1) := (blk_cell BK177.out 1).trans rfl; have hcz43_2 : w41.cell? ⟨gb177, 2, none⟩ = some (.bool a0_2) := (blk_cell BK177.out 2).trans rfl; have hcz43_3 : w41.cell? ⟨gb177, 3, none⟩ = some (.bool a0_3) := (blk_cell BK177.out 3).trans rfl; have hcz43_4 : w41.cell? ⟨gb177, 4, none⟩ = some (.int .i64 a0_4) := (blk_cell BK177.out 4).trans rfl; have hcz43_5 : w41.cell? ⟨gb177, 5, none⟩ = some (.int .i64 a0_5) := (blk_cell BK177.out 5).trans rfl; have hcz43_6 : w41.cell? ⟨gb177, 6, none⟩ = some (.int .i64 a0_6) := (blk_cell BK177.out 6).trans rfl; have hcz43_7 : w41.cell? ⟨gb177, 7, none⟩ = some (.int .u32 a0_7) := (blk_cell BK177.out 7).trans rfl; have hcz43_8 : w41.cell? ⟨gb177, 8, none⟩ = some (.int .u32 a0_8) := (blk_cell BK177.out 8).trans rfl; have hcz43_9 : w41.cell? ⟨gb177, 9, none⟩ = some (.slice A0_9 l0_9.length c0_9) := (blk_cell BK177.out 9).trans rfl; have hcz43_10 : w41.cell? ⟨gb177, 10, none⟩ = some (.slice A0_10 l0_10.length c0_10) := (blk_cell BK177.out 10).trans rfl; have hfz43_0 := blk_frozen BK177.out 0; have hfz43_1 := blk_frozen BK177.out 1; have hfz43_2 := blk_frozen BK177.out 2; have hfz43_3 := blk_frozen BK177.out 3; have hfz43_4 := blk_frozen BK177.out 4; have hfz43_5 := blk_frozen BK177.out 5; have hfz43_6 := blk_frozen BK177.out 6; have hfz43_7 := blk_frozen BK177.out 7; have hfz43_8 := blk_frozen BK177.out 8; have hfz43_9 := blk_frozen BK177.out 9; have hfz43_10 := blk_frozen BK177.out 10; have hcz44_0 : w41.cell? ⟨gb178, 0, none⟩ = some (.int .i64 a1_0) := (blk_cell BK178.out 0).trans rfl; have hcz44_1 : w41.cell? ⟨gb178, 1, none⟩ = some (.int .i64 a1_1) := (blk_cell BK178.out 1).trans rfl; have hcz44_2 : w41.cell? ⟨gb178, 2, none⟩ = some (.bool a1_2) := (blk_cell BK178.out 2).trans rfl; have hcz44_3 : w41.cell? ⟨gb178, 3, none⟩ = some (.bool a1_3) := (blk_cell BK178.out 3).trans rfl; have hcz44_4 : w41.cell? ⟨gb178, 4, none⟩ = some (.int .i64 a1_4) := (blk_cell BK178.out 4).trans rfl; have hcz44_5 : w41.cell? ⟨gb178, 5, none⟩ = some (.int .i64 a1_5) := (blk_cell BK178.out 5).trans rfl; have hcz44_6 : w41.cell? ⟨gb178, 6, none⟩ = some (.int .i64 a1_6) := (blk_cell BK178.out 6).trans rfl; have hcz44_7 : w41.cell? ⟨gb178, 7, none⟩ = some (.int .u32 a1_7) := (blk_cell BK178.out 7).trans rfl; have hcz44_8 : w41.cell? ⟨gb178, 8, none⟩ = some (.int .u32 a1_8) := (blk_cell BK178.out 8).trans rfl; have hcz44_9 : w41.cell? ⟨gb178, 9, none⟩ = some (.slice A1_9 l1_9.length c1_9) := (blk_cell BK178.out 9).trans rfl; have hcz44_10 : w41.cell? ⟨gb178, 10, none⟩ = some (.slice A1_10 l1_10.length c1_10) := (blk_cell BK178.out 10).trans rfl; have hfz44_0 := blk_frozen BK178.out 0; have hfz44_1 := blk_frozen BK178.out 1; have hfz44_2 := blk_frozen BK178.out 2; have hfz44_3 := blk_frozen BK178.out 3; have hfz44_4 := blk_frozen BK178.out 4; have hfz44_5 := blk_frozen BK178.out 5; have hfz44_6 := blk_frozen BK178.out 6; have hfz44_7 := blk_frozen BK178.out 7; have hfz44_8 := blk_frozen BK178.out 8; have hfz44_9 := blk_frozen BK178.out 9; have hfz44_10 := blk_frozen BK178.out 10))
              go_ret
              exact ⟨by first | rfl | (simp [errW_none, errW_some] <;> rfl) | (simp [*, errW_none, errW_some] <;> rfl), by repeat (first | (with_reducible first | exact HB.out | apply below_alloc | apply pw_below_drewN | apply below_drew1 | refine below_set ?_ GE177.out | refine below_set ?_ GE178.out) | exact HB.out)⟩
          · rw [if_neg c7] at H
            have c7b0 : (a0_4 == a1_4) = false := beq_eq_false_iff_ne.mpr c7
            have c7b1 : (a0_4 != a1_4) = true := bne_iff_ne.mpr c7
            obtain rfl := Option.some.inj H
            go_enter Tryd.func15, Tryd.ntmps15
            go_wp2_with (first | ((with_reducible refine gate_dst (N := 2) rfl ?_); refine box_event ?hg (N := 2) ?hd (cs := #[.int .i64 a0_0, .int .i64 a0_1, .bool a0_2, .bool a0_3, .int .i64 a0_4, .int .i64 a0_5, .int .i64 a0_6, .int .u32 a0_7, .int .u32 a0_8, .slice A0_9 l0_9.length c0_9, .slice A0_10 l0_10.length c0_10]) (t := 34) ?hr ?_; (case hd => rfl); (case hg => rfl); (case hr => first | (go_simp; done) | (go_simp; rfl)); intro gb177 hg w45 hbox hb; have n0_ := Aside0.mk (below_step (by repeat (first | (with_reducible first | exact HB.out | apply below_alloc | apply pw_below_drewN | apply below_drew1) | exact HB.out)) hb); have n1_ := Aside0.mk (hbox); have n2_ := Aside0.mk ((by rw [hg]; exact (below_size (by repeat (first | (with_reducible first | exact HB.out | apply below_alloc | apply pw_below_drewN | apply below_drew1) | exact HB.out))) : w.heap.size ≤ gb177)); have n3_ := Aside0.mk ((by rw [hg]; exact (below_size (by repeat (first | (with_reducible first | exact HB.out | apply below_alloc | apply pw_below_drewN | apply below_drew1) | exact HB.out))) : w.heap.size ≤ gb177)); clear HB; have HB := n0_; have BK177 := n1_; have GW177 := n2_; have GE177 := n3_; clear n0_ n1_ n2_ n3_; clear hb hbox hg) | ((with_reducible refine gate_dst (N := 3) rfl ?_); refine box_event ?hg (N := 3) ?hd (cs := #[.int .i64 a1_0, .int .i64 a1_1, .bool a1_2, .bool a1_3, .int .i64 a1_4, .int .i64 a1_5, .int .i64 a1_6, .int .u32 a1_7, .int .u32 a1_8, .slice A1_9 l1_9.length c1_9, .slice A1_10 l1_10.length c1_10]) (t := 34) ?hr ?_; (case hd => rfl); (case hg => rfl); (case hr => first | (go_simp; done) | (go_simp; rfl)); intro gb178 hg w46 hbox hb; have n0_ := Aside0.mk (blk_below (g := gb177) (o := .cells #[.int .i64 a0_0, .int .i64 a0_1, .bool a0_2, .bool a0_3, .int .i64 a0_4, .int .i64 a0_5, .int .i64 a0_6, .int .u32 a0_7, .int .u32 a0_8, .slice A0_9 l0_9.length c0_9, .slice A0_10 l0_10.length c0_10] 34 (0, 0)) (by (with_reducible repeat (first | refine blk_drewN ?_ _ | refine blk_drew ?_ | refine blk_alloc ?_ _)); exact BK177.out) hb); have n1_ := Aside0.mk (below_step (by repeat (first | (with_reducible first | exact HB.out | apply below_alloc | apply pw_below_drewN | apply below_drew1 | refine below_set ?_ GE177.out) | exact HB.out)) hb); have n2_ := Aside0.mk (hbox); have n3_ := Aside0.mk ((by rw [hg]; exact (below_size (by repeat (first | (with_reducible first | exact HB.out | apply below_alloc | apply pw_below_drewN | apply below_drew1 | refine below_set ?_ GE177.out) | exact HB.out))) : w.heap.size ≤ gb178)); have n4_ := Aside0.mk ((by rw [hg]; exact (below_size (by repeat (first | (with_reducible first | exact HB.out | apply below_alloc | apply pw_below_drewN | apply below_drew1 | refine below_set ?_ GE177.out) | exact HB.out))) : w.heap.size ≤ gb178)); have n5_ := Aside0.mk ((by rw [hg]; exact Nat.ne_of_lt (blk_lt (g := gb177) (o := .cells #[.int .i64 a0_0, .int .i64 a0_1, .bool a0_2, .bool a0_3, .int .i64 a0_4, .int .i64 a0_5, .int .i64 a0_6, .int .u32 a0_7, .int .u32 a0_8, .slice A0_9 l0_9.length c0_9, .slice A0_10 l0_10.length c0_10] 34 (0, 0)) (by (with_reducible repeat (first | refine blk_drewN ?_ _ | refine blk_drew ?_ | refine blk_alloc ?_ _)); exact BK177.out)) : gb177 ≠ gb178)); have n6_ := Aside0.mk ((by rw [hg]; exact Nat.ne_of_gt (blk_lt (g := gb177) (o := .cells #[.int .i64 a0_0, .int .i64 a0_1, .bool a0_2, .bool a0_3, .int .i64 a0_4, .int .i64 a0_5, .int .i64 a0_6, .int .u32 a0_7, .int .u32 a0_8, .slice A0_9 l0_9.length c0_9, .slice A0_10 l0_10.length c0_10] 34 (0, 0)) (by (with_reducible repeat (first | refine blk_drewN ?_ _ | refine blk_drew ?_ | refine blk_alloc ?_ _)); exact BK177.out)) : gb178 ≠ gb177)); clear BK177; clear HB; have BK177 := n0_; have HB := n1_; have BK178 := n2_; have GW178 := n3_; have GE178 := n4_; have NB177_178 := n5_; have NB178_177 := n6_; clear n0_ n1_ n2_ n3_ n4_ n5_ n6_; clear hb hbox hg; have hnb47 := NB177_178.out; have hnc47 := NB178_177.out; have hcz48_0 : w46.cell? ⟨gb177, 0, none⟩ = some (.int .i64 a0_0) := (blk_cell BK177.out 0).trans rfl; have hcz48_1 : w46.cell? ⟨gb177, 1, none⟩ = some (.int .i64 a0_1) := (blk_cell BK177.out 1).trans rfl; have hcz48_2 : w46.cell? ⟨gb177, 2, none⟩ = some (.bool a0_2) := (blk_cell BK177.out 2).trans rfl; have hcz48_3 : w46.cell? ⟨gb177, 3, none⟩ = some (.bool a0_3) := (blk_cell BK177.out 3).trans rfl; have hcz48_4 : w46.cell? ⟨gb177, 4, none⟩ = some (.int .i64 a0_4) := (blk_cell BK177.out 4).trans rfl; have hcz48_5 : w46.cell? ⟨gb177, 5, none⟩ = some (.int .i64 a0_5) := (blk_cell BK177.out 5).trans rfl; have hcz48_6 : w46.cell? ⟨gb177, 6, none⟩ = some (.int .i64 a0_6) := (blk_cell BK177.out 6).trans rfl; have hcz48_7 : w46.cell? ⟨gb177, 7, none⟩ = some (.int .u32 a0_7) := (blk_cell BK177.out 7).trans rfl; have hcz48_8 : w46.cell? ⟨gb177, 8, none⟩ = some (.int .u32 a0_8) := (blk_cell BK177.out 8).trans rfl; have hcz48_9 : w46.cell? ⟨gb177, 9, none⟩ = some (.slice A0_9 l0_9.length c0_9) := (blk_cell BK177.out 9).trans rfl; have hcz48_10 : w46.cell? ⟨gb177, 10, none⟩ = some (.slice A0_10 l0_10.length c0_10) := (blk_cell BK177.out 10).trans rfl; have hfz48_0 := blk_frozen BK177.out 0; have hfz48_1 := blk_frozen BK177.out 1; have hfz48_2 := blk_frozen BK177.out 2; have hfz48_3 := blk_frozen BK177.out 3; have hfz48_4 := blk_frozen BK177.out 4; have hfz48_5 := blk_frozen BK177.out 5; have hfz48_6 := blk_frozen BK177.out 6; have hfz48_7 := blk_frozen BK177.out 7; have hfz48_8 := blk_frozen BK177.out 8; have hfz48_9 := blk_frozen BK177.out 9; have hfz48_10 := blk_frozen BK177.out 10; have hcz49_0 : w46.cell? ⟨gb178, 0, none⟩ = some (.int .i64 a1_0) := (blk_cell BK178.out 0).trans rfl; have hcz49_1 : w46.cell? ⟨gb178, 1, none⟩ = some (.int .i64 a1_1) := (blk_cell BK178.out 1).trans rfl; have hcz49_2 : w46.cell? ⟨gb178, 2, none⟩ = some (.bool a1_2) := (blk_cell BK178.out 2).trans rfl; have hcz49_3 : w46.cell? ⟨gb178, 3, none⟩ = some (.bool a1_3) := (blk_cell BK178.out 3).trans rfl; have hcz49_4 : w46.cell? ⟨gb178, 4, none⟩ = some (.int .i64 a1_4) := (blk_cell BK178.out 4).trans rfl; have hcz49_5 : w46.cell? ⟨gb178, 5, none⟩ = some (.int .i64 a1_5) := (blk_cell BK178.out 5).trans rfl; have hcz49_6 : w46.cell? ⟨gb178, 6, none⟩ = some (.int .i64 a1_6) := (blk_cell BK178.out 6).trans rfl; have hcz49_7 : w46.cell? ⟨gb178, 7, none⟩ = some (.int .u32 a1_7) := (blk_cell BK178.out 7).trans rfl; have hcz49_8 : w46.cell? ⟨gb178, 8, none⟩ = some (.int .u32 a1_8) := (blk_cell BK178.out 8).trans rfl; have hcz49_9 : w46.cell? ⟨gb178, 9, none⟩ = some (.slice A1_9 l1_9.length c1_9) := (blk_cell BK178.out 9).trans rfl; have hcz49_10 : w46.cell? ⟨gb178, 10, none⟩ = some (.slice A1_10 l1_10.length c1_10) := (blk_cell BK178.out 10).trans rfl; have hfz49_0 := blk_frozen BK178.out 0; have hfz49_1 := blk_frozen BK178.out 1; have hfz49_2 := blk_frozen BK178.out 2; have hfz49_3 := blk_frozen BK178.out 3; have hfz49_4 := blk_frozen BK178.out 4; have hfz49_5 := blk_frozen BK178.out 5; have hfz49_6 := blk_frozen BK178.out 6; have hfz49_7 := blk_frozen BK178.out 7; have hfz49_8 := blk_frozen BK178.out 8; have hfz49_9 := blk_frozen BK178.out 9; have hfz49_10 := blk_frozen BK178.out 10))
            go_ret
            exact ⟨by first | rfl | (simp [errW_none, errW_some] <;> rfl) | (simp [*, errW_none, errW_some] <;> rfl), by repeat (first | (with_reducible first | exact HB.out | apply below_alloc | apply pw_below_drewN | apply below_drew1 | refine below_set ?_ GE177.out | refine below_set ?_ GE178.out) | exact HB.out)⟩
        · rw [if_neg c6] at H
          have c6b0 : (a0_3 == a1_3) = false := by simpa using c6
          (try (have c6b1 : decide (a0_3 = a1_3) = false := by simpa using c6))
          (try (have c6b2 : (a0_3 == a1_3) = false := by simpa using c6))
          (try (have c6b3 : ¬ (a0_3 = a1_3) := by simpa using c6))
          clear c6
          obtain rfl := Option.some.inj H
          go_enter Tryd.func15, Tryd.ntmps15
          go_wp2_with (first | ((with_reducible refine gate_dst (N := 2) rfl ?_); refine box_event ?hg (N := 2) ?hd (cs := #[.int .i64 a0_0, .int .i64 a0_1, .bool a0_2, .bool a0_3, .int .i64 a0_4, .int .i64 a0_5, .int .i64 a0_6, .int .u32 a0_7, .int .u32 a0_8, .slice A0_9 l0_9.length c0_9, .slice A0_10 l0_10.length c0_10]) (t := 34) ?hr ?_; (case hd => rfl); (case hg => rfl); (case hr => first | (go_simp; done) | (go_simp; rfl)); intro gb177 hg w50 hbox hb; have n0_ := Aside0.mk (below_step (by repeat (first | (with_reducible first | exact HB.out | apply below_alloc | apply pw_below_drewN | apply below_drew1) | exact HB.out)) hb); have n1_ := Aside0.mk (hbox); have n2_ := Aside0.mk ((by rw [hg]; exact (below_size (by repeat (first | (with_reducible first | exact HB.out | apply below_alloc | apply pw_below_drewN | apply below_drew1) | exact HB.out))) : w.heap.size ≤ gb177)); have n3_ := Aside0.mk ((by rw [hg]; exact (below_size (by repeat (first | (with_reducible first | exact HB.out | apply below_alloc | apply pw_below_drewN | apply below_drew1) | exact HB.out))) : w.heap.size ≤ gb177)); clear HB; have HB := n0_; have BK177 := n1_; have GW177 := n2_; have GE177 := n3_; clear n0_ n1_ n2_ n3_; clear hb hbox hg) | ((with_reducible refine gate_dst (N := 3) rfl ?_); refine box_event ?hg (N := 3) ?hd (cs := #[.int .i64 a1_0, .int .i64 a1_1, .bool a1_2, .bool a1_3, .int .i64 a1_4, .int .i64 a1_5, .int .i64 a1_6, .int .u32 a1_7, .int .u32 a1_8, .slice A1_9 l1_9.length c1_9, .slice A1_10 l1_10.length c1_10]) (t := 34) ?hr ?_; (case hd => rfl); (case hg => rfl); (case hr => first | (go_simp; done) | (go_simp; rfl)); intro gb178 hg w51 hbox hb; have n0_ := Aside0.mk (blk_below (g := gb177) (o := .cells #[.int .i64 a0_0, .int .i64 a0_1, .bool a0_2, .bool a0_3, .int .i64 a0_4, .int .i64 a0_5, .int .i64 a0_6, .int .u32 a0_7, .int .u32 a0_8, .slice A0_9 l0_9.length c0_9, .slice A0_10 l0_10.length c0_10] 34 (0, 0)) (by (with_reducible repeat (first | refine blk_drewN ?_ _ | refine blk_drew ?_ | refine blk_alloc ?_ _)); exact BK177.out) hb); have n1_ := Aside0.mk (below_step (by repeat (first | (with_reducible first | exact HB.out | apply below_alloc | apply pw_below_drewN | apply below_drew1 | refine below_set ?_ GE177.out) | exact HB.out)) hb); have n2_ := Aside0.mk (hbox); have n3_ := Aside0.mk ((by rw [hg]; exact (below_size (by repeat (first | (with_reducible first | exact HB.out | apply below_alloc | apply pw_below_drewN | apply below_drew1 | refine below_set ?_ GE177.out) | exact HB.out))) : w.heap.size ≤ gb178)); have n4_ := Aside0.mk ((by rw [hg]; exact (below_size (by repeat (first | (with_reducible first | exact HB.out | apply below_alloc | apply pw_below_drewN | apply below_drew1 | refine below_set ?_ GE177.out) | exact HB.out))) : w.heap.size ≤ gb178)); have n5_ := Aside0.mk ((by rw [hg]; exact Nat.ne_of_lt (blk_lt (g := gb177) (o := .cells #[.int .i64 a0_0, .int .i64 a0_1, .bool a0_2, .bool a0_3, .int .i64 a0_4, .int .i64 a0_5, .int .i64 a0_6, .int .u32 a0_7, .int .u32 a0_8, .slice A0_9 l0_9.length c0_9, .slice A0_10 l0_10.length c0_10] 34 (0, 0)) (by (with_reducible repeat (first | refine blk_drewN ?_ _ | refine blk_drew ?_ | refine blk_alloc ?_ _)); exact BK177.out)) : gb177 ≠ gb178)); have n6_ := Aside0.mk ((by rw [hg]; exact Nat.ne_of_gt (blk_lt (g := gb177) (o := .cells #[.int .i64 a0_0, .int .i64 a0_1, .bool a0_2, .bool a0_3, .int .i64 a0_4, .int .i64 a0_5, .int .i64 a0_6, .int .u32 a0_7, .int .u32 a0_8, .slice A0_9 l0_9.length c0_9, .slice A0_10 l0_10.length c0_10] 34 (0, 0)) (by (with_reducible repeat (first | refine blk_drewN ?_ _ | refine blk_drew ?_ | refine blk_alloc ?_ _)); exact BK177.out)) : gb178 ≠ gb177)); clear BK177; clear HB; have BK177 := n0_; have HB := n1_; have BK178 := n2_; have GW178 := n3_; have GE178 := n4_; have NB177_178 := n5_; have NB178_177 := n6_; clear n0_ n1_ n2_ n3_ n4_ n5_ n6_; clear hb hbox hg; have hnb52 := NB177_178.out; have hnc52 := NB178_177.out; have hcz53_0 : w51.cell? ⟨gb177, 0, none⟩ = some (.int .i64 a0_0) := (blk_cell BK177.out 0).trans rfl; have hcz53_1 : w51.cell? ⟨gb177, 1, none⟩ = some (.int .i64 a0_1) := (blk_cell BK177.out 1).trans rfl; have hcz53_2 : w51.cell? ⟨gb177, 2, none⟩ = some (.bool a0_2) := (blk_cell BK177.out 2).trans rfl; have hcz53_3 : w51.cell? ⟨gb177, 3, none⟩ = some (.bool a0_3) := (blk_cell BK177.out 3).trans rfl; have hcz53_4 : w51.cell? ⟨gb177, 4, none⟩ = some (.int .i64 a0_4) := (blk_cell BK177.out 4).trans rfl; have hcz53_5 : w51.cell? ⟨gb177, 5, none⟩ = some (.int .i64 a0_5) := (blk_cell BK177.out 5).trans rfl; have hcz53_6 : w51.cell? ⟨gb177, 6, none⟩ = some (.int .i64 a0_6) := (blk_cell BK177.out 6).trans rfl; have hcz53_7 : w51.cell? ⟨gb177, 7, none⟩ = some (.int .u32 a0_7) := (blk_cell BK177.out 7).trans rfl; have hcz53_8 : w51.cell? ⟨gb177, 8, none⟩ = some (.int .u32 a0_8) := (blk_cell BK177.out 8).trans rfl; have hcz53_9 : w51.cell? ⟨gb177, 9, none⟩ = some (.slice A0_9 l0_9.length c0_9) := (blk_cell BK177.out 9).trans rfl; have hcz53_10 : w51.cell? ⟨gb177, 10, none⟩ = some (.slice A0_10 l0_10.length c0_10) := (blk_cell BK177.out 10).trans rfl; have hfz53_0 := blk_frozen BK177.out 0; have hfz53_1 := blk_frozen BK177.out 1; have hfz53_2 := blk_frozen BK177.out 2; have hfz53_3 := blk_frozen BK177.out 3; have hfz53_4 := blk_frozen BK177.out 4; have hfz53_5 := blk_frozen BK177.out 5; have hfz53_6 := blk_frozen BK177.out 6; have hfz53_7 := blk_frozen BK177.out 7; have hfz53_8 := blk_frozen BK177.out 8; have hfz53_9 := blk_frozen BK177.out 9; have hfz53_10 := blk_frozen BK177.out 10; have hcz54_0 : w51.cell? ⟨gb178, 0, none⟩ = some (.int .i64 a1_0) := (blk_cell BK178.out 0).trans rfl; have hcz54_1 : w51.cell? ⟨gb178, 1, none⟩ = some (.int .i64 a1_1) := (blk_cell BK178.out 1).trans rfl; have hcz54_2 : w51.cell? ⟨gb178, 2, none⟩ = some (.bool a1_2) := (blk_cell BK178.out 2).trans rfl; have hcz54_3 : w51.cell? ⟨gb178, 3, none⟩ = some (.bool a1_3) := (blk_cell BK178.out 3).trans rfl; have hcz54_4 : w51.cell? ⟨gb178, 4, none⟩ = some (.int .i64 a1_4) := (blk_cell BK178.out 4).trans rfl; have hcz54_5 : w51.cell? ⟨gb178, 5, none⟩ = some (.int .i64 a1_5) := (blk_cell BK178.out 5).trans rfl; have hcz54_6 : w51.cell? ⟨gb178, 6, none⟩ = some (.int .i64 a1_6) := (blk_cell BK178.out 6).trans rfl; have hcz54_7 : w51.cell? ⟨gb178, 7, none⟩ = some (.int .u32 a1_7) := (blk_cell BK178.out 7).trans rfl; have hcz54_8 : w51.cell? ⟨gb178, 8, none⟩ = some (.int .u32 a1_8) := (blk_cell BK178.out 8).trans rfl; have hcz54_9 : w51.cell? ⟨gb178, 9, none⟩ = some (.slice A1_9 l1_9.length c1_9) := (blk_cell BK178.out 9).trans rfl; have hcz54_10 : w51.cell? ⟨gb178, 10, none⟩ = some (.slice A1_10 l1_10.length c1_10) := (blk_cell BK178.out 10).trans rfl; have hfz54_0 := blk_frozen BK178.out 0; have hfz54_1 := blk_frozen BK178.out 1; have hfz54_2 := blk_frozen BK178.out 2; have hfz54_3 := blk_frozen BK178.out 3; have hfz54_4 := blk_frozen BK178.out 4; have hfz54_5 := blk_frozen BK178.out 5; have hfz54_6 := blk_frozen BK178.out 6; have hfz54_7 := blk_frozen BK178.out 7; have hfz54_8 := blk_frozen BK178.out 8; have hfz54_9 := blk_frozen BK178.out 9; have hfz54_10 := blk_frozen BK178.out 10))
          go_ret
          exact ⟨by first | rfl | (simp [errW_none, errW_some] <;> rfl) | (simp [*, errW_none, errW_some] <;> rfl), by repeat (first | (with_reducible first | exact HB.out | apply below_alloc | apply pw_below_drewN | apply below_drew1 | refine below_set ?_ GE177.out | refine below_set ?_ GE178.out) | exact HB.out)⟩
      · rw [if_neg c5] at H
        have c5b0 : (a0_2 == a1_2) = false := by simpa using c5
        (try (have c5b1 : decide (a0_2 = a1_2) = false := by simpa using c5))
        (try (have c5b2 : (a0_2 == a1_2) = false := by simpa using c5))
        (try (have c5b3 : ¬ (a0_2 = a1_2) := by simpa using c5))
        clear c5
        obtain rfl := Option.some.inj H
        go_enter Tryd.func15, Tryd.ntmps15
        go_wp2_with (first | ((with_reducible refine gate_dst (N := 2) rfl ?_); refine box_event ?hg (N := 2) ?hd (cs := #[.int .i64 a0_0, .int .i64 a0_1, .bool a0_2, .bool a0_3, .int .i64 a0_4, .int .i64 a0_5, .int .i64 a0_6, .int .u32 a0_7, .int .u32 a0_8, .slice A0_9 l0_9.length c0_9, .slice A0_10 l0_10.length c0_10]) (t := 34) ?hr ?_; (case hd => rfl); (case hg => rfl); (case hr => first | (go_simp; done) | (go_simp; rfl)); intro gb177 hg w55 hbox hb; have n0_ := Aside0.mk (below_step (by repeat (first | (with_reducible first | exact HB.out | apply below_alloc | apply pw_below_drewN | apply below_drew1) | exact HB.out)) hb); have n1_ := Aside0.mk (hbox); have n2_ := Aside0.mk ((by rw [hg]; exact (below_size (by repeat (first | (with_reducible first | exact HB.out | apply below_alloc | apply pw_below_drewN | apply below_drew1) | exact HB.out))) : w.heap.size ≤ gb177)); have n3_ := Aside0.mk ((by rw [hg]; exact (below_size (by repeat (first | (with_reducible first | exact HB.out | apply below_alloc | apply pw_below_drewN | apply below_drew1) | exact HB.out))) : w.heap.size ≤ gb177)); clear HB; have HB := n0_; have BK177 := n1_; have GW177 := n2_; have GE177 := n3_; clear n0_ n1_ n2_ n3_; clear hb hbox hg) | ((with_reducible refine gate_dst (N := 3) rfl ?_); refine box_event ?hg (N := 3) ?hd (cs := #[.int .i64 a1_0, .int .i64 a1_1, .bool a1_2, .bool a1_3, .int .i64 a1_4, .int .i64 a1_5, .int .i64 a1_6, .int .u32 a1_7, .int .u32 a1_8, .slice A1_9 l1_9.length c1_9, .slice A1_10 l1_10.length c1_10]) (t := 34) ?hr ?_; (case hd => rfl); (case hg => rfl); (case hr => first | (go_simp; done) | (go_simp; rfl)); intro gb178 hg w56 hbox hb; have n0_ := Aside0.mk (blk_below (g := gb177) (o := .cells #[.int .i64 a0_0, .int .i64 a0_1, .bool a0_2, .bool a0_3, .int .i64 a0_4, .int .i64 a0_5, .int .i64 a0_6, .int .u32 a0_7, .int .u32 a0_8, .slice A0_9 l0_9.length c0_9, .slice A0_10 l0_10.length c0_10] 34 (0, 0)) (by (with_reducible repeat (first | refine blk_drewN ?_ _ | refine blk_drew ?_ | refine blk_alloc ?_ _)); exact BK177.out) hb); have n1_ := Aside0.mk (below_step (by repeat (first | (with_reducible first | exact HB.out | apply below_alloc | apply pw_below_drewN | apply below_drew1 | refine below_set ?_ GE177.out) | exact HB.out)) hb); have n2_ := Aside0.mk (hbox); have n3_ := Aside0.mk ((by rw [hg]; exact (below_size (by repeat (first | (with_reducible first | exact HB.out | apply below_alloc | apply pw_below_drewN | apply below_drew1 | refine below_set ?_ GE177.out) | exact HB.out))) : w.heap.size ≤ gb178)); have n4_ := Aside0.mk ((by rw [hg]; exact (below_size (by repeat (first | (with_reducible first | exact HB.out | apply below_alloc | apply pw_below_drewN | apply below_drew1 | refine below_set ?_ GE177.out) | exact HB.out))) : w.heap.size ≤ gb178)); have n5_ := Aside0.mk ((by rw [hg]; exact Nat.ne_of_lt (blk_lt (g := gb177) (o := .cells #[.int .i64 a0_0, .int .i64 a0_1, .bool a0_2, .bool a0_3, .int .i64 a0_4, .int .i64 a0_5, .int .i64 a0_6, .int .u32 a0_7, .int .u32 a0_8, .slice A0_9 l0_9.length c0_9, .slice A0_10 l0_10.length c0_10] 34 (0, 0)) (by (with_reducible repeat (first | refine blk_drewN ?_ _ | refine blk_drew ?_ | refine blk_alloc ?_ _)); exact BK177.out)) : gb177 ≠ gb178)); have n6_ := Aside0.mk ((by rw [hg]; exact Nat.ne_of_gt (blk_lt (g := gb177) (o := .cells #[.int .i64 a0_0, .int .i64 a0_1, .bool a0_2, .bool a0_3, .int .i64 a0_4, .int .i64 a0_5, .int .i64 a0_6, .int .u32 a0_7, .int .u32 a0_8, .slice A0_9 l0_9.length c0_9, .slice A0_10 l0_10.length c0_10] 34 (0, 0)) (by (with_reducible repeat (first | refine blk_drewN ?_ _ | refine blk_drew ?_ | refine blk_alloc ?_ _)); exact BK177.out)) : gb178 ≠ gb177)); clear BK177; clear HB; have BK177 := n0_; have HB := n1_; have BK178 := n2_; have GW178 := n3_; have GE178 := n4_; have NB177_178 := n5_; have NB178_177 := n6_; clear n0_ n1_ n2_ n3_ n4_ n5_ n6_; clear hb hbox hg; have hnb57 := NB177_178.out; have hnc57 := NB178_177.out; have hcz58_0 : w56.cell? ⟨gb177, 0, none⟩ = some (.int .i64 a0_0) := (blk_cell BK177.out 0).trans rfl; have hcz58_1 : w56.cell? ⟨gb177, 1, none⟩ = some (.int .i64 a0_1) := (blk_cell BK177.out 1).trans rfl; have hcz58_2 : w56.cell? ⟨gb177, 2, none⟩ = some (.bool a0_2) := (blk_cell BK177.out 2).trans rfl; have hcz58_3 : w56.cell? ⟨gb177, 3, none⟩ = some (.bool a0_3) := (blk_cell BK177.out 3).trans rfl; have hcz58_4 : w56.cell? ⟨gb177, 4, none⟩ = some (.int .i64 a0_4) := (blk_cell BK177.out 4).trans rfl; have hcz58_5 : w56.cell? ⟨gb177, 5, none⟩ = some (.int .i64 a0_5) := (blk_cell BK177.out 5).trans rfl; have hcz58_6 : w56.cell? ⟨gb177, 6, none⟩ = some (.int .i64 a0_6) := (blk_cell BK177.out 6).trans rfl; have hcz58_7 : w56.cell? ⟨gb177, 7, none⟩ = some (.int .u32 a0_7) := (blk_cell BK177.out 7).trans rfl; have hcz58_8 : w56.cell? ⟨gb177, 8, none⟩ = some (.int .u32 a0_8) := (blk_cell BK177.out 8).trans rfl; have hcz58_9 : w56.cell? ⟨gb177, 9, none⟩ = some (.slice A0_9 l0_9.length c0_9) := (blk_cell BK177.out 9).trans rfl; have hcz58_10 : w56.cell? ⟨gb177, 10, none⟩ = some (.slice A0_10 l0_10.length c0_10) := (blk_cell BK177.out 10).trans rfl; have hfz58_0 := blk_frozen BK177.out 0; have hfz58_1 := blk_frozen BK177.out 1; have hfz58_2 := blk_frozen BK177.out 2; have hfz58_3 := blk_frozen BK177.out 3; have hfz58_4 := blk_frozen BK177.out 4; have hfz58_5 := blk_frozen BK177.out 5; have hfz58_6 := blk_frozen BK177.out 6; have hfz58_7 := blk_frozen BK177.out 7; have hfz58_8 := blk_frozen BK177.out 8; have hfz58_9 := blk_frozen BK177.out 9; have hfz58_10 := blk_frozen BK177.out 10; have hcz59_0 : w56.cell? ⟨gb178, 0, none⟩ = some (.int .i64 a1_0) := (blk_cell BK178.out 0).trans rfl; have hcz59_1 : w56.cell? ⟨gb178, 1, none⟩ = some (.int .i64 a1_1) := (blk_cell BK178.out 1).trans rfl; have hcz59_2 : w56.cell? ⟨gb178, 2, none⟩ = some (.bool a1_2) := (blk_cell BK178.out 2).trans rfl; have hcz59_3 : w56.cell? ⟨gb178, 3, none⟩ = some (.bool a1_3) := (blk_cell BK178.out 3).trans rfl; have hcz59_4 : w56.cell? ⟨gb178, 4, none⟩ = some (.int .i64 a1_4) := (blk_cell BK178.out 4).trans rfl; have hcz59_5 : w56.cell? ⟨gb178, 5, none⟩ = some (.int .i64 a1_5) := (blk_cell BK178.out 5).trans rfl; have hcz59_6 : w56.cell? ⟨gb178, 6, none⟩ = some (.int .i64 a1_6) := (blk_cell BK178.out 6).trans rfl; have hcz59_7 : w56.cell? ⟨gb178, 7, none⟩ = some (.int .u32 a1_7) := (blk_cell BK178.out 7).trans rfl; have hcz59_8 : w56.cell? ⟨gb178, 8, none⟩ = some (.int .u32 a1_8) := (blk_cell BK178.out 8).trans rfl; have hcz59_9 : w56.cell? ⟨gb178, 9, none⟩ = some (.slice A1_9 l1_9.length c1_9) := (blk_cell BK178.out 9).trans rfl; have hcz59_10 : w56.cell? ⟨gb178, 10, none⟩ = some (.slice A1_10 l1_10.length c1_10) := (blk_cell BK178.out 10).trans rfl; have hfz59_0 := blk_frozen BK178.out 0; have hfz59_1 := blk_frozen BK178.out 1; have hfz59_2 := blk_frozen BK178.out 2; have hfz59_3 := blk_frozen BK178.out 3; have hfz59_4 := blk_frozen BK178.out 4; have hfz59_5 := blk_frozen BK178.out 5; have hfz59_6 := blk_frozen BK178.out 6; have hfz59_7 := blk_frozen BK178.out 7; have hfz59_8 := blk_frozen BK178.out 8; have hfz59_9 := blk_frozen BK178.out 9; have hfz59_10 := blk_frozen BK178.out 10))
        go_ret
        exact ⟨by first | rfl | (simp [errW_none, errW_some] <;> rfl) | (simp [*, errW_none, errW_some] <;> rfl), by repeat (first | (with_reducible first | exact HB.out | apply below_alloc | apply pw_below_drewN | apply below_drew1 | refine below_set ?_ GE177.out | refine below_set ?_ GE178.out) | exact HB.out)⟩
    · rw [if_neg c4] at H
      have c4b0 : (a0_1 == a1_1) = false := beq_eq_false_iff_ne.mpr c4
      have c4b1 : (a0_1 != a1_1) = true := bne_iff_ne.mpr c4
      obtain rfl := Option.some.inj H
      go_enter Tryd.func15, Tryd.ntmps15
      go_wp2_with (first | ((with_reducible refine gate_dst (N := 2) rfl ?_); refine box_event ?hg (N := 2) ?hd (cs := #[.int .i64 a0_0, .int .i64 a0_1, .bool a0_2, .bool a0_3, .int .i64 a0_4, .int .i64 a0_5, .int .i64 a0_6, .int .u32 a0_7, .int .u32 a0_8, .slice A0_9 l0_9.length c0_9, .slice A0_10 l0_10.length c0_10]) (t := 34) ?hr ?_; (case hd => rfl); (case hg => rfl); (case hr => first | (go_simp; done) | (go_simp; rfl)); intro gb177 hg w60 hbox hb; have n0_ := Aside0.mk (below_step (by repeat (first | (with_reducible first | exact HB.out | apply below_alloc | apply pw_below_drewN | apply below_drew1) | exact HB.out)) hb); have n1_ := Aside0.mk (hbox); have n2_ := Aside0.mk ((by rw [hg]; exact (below_size (by repeat (first | (with_reducible first | exact HB.out | apply below_alloc | apply pw_below_drewN | apply below_drew1) | exact HB.out))) : w.heap.size ≤ gb177)); have n3_ := Aside0.mk ((by rw [hg]; exact (below_size (by repeat (first | (with_reducible first | exact HB.out | apply below_alloc | apply pw_below_drewN | apply below_drew1) | exact HB.out))) : w.heap.size ≤ gb177)); clear HB; have HB := n0_; have BK177 := n1_; have GW177 := n2_; have GE177 := n3_; clear n0_ n1_ n2_ n3_; clear hb hbox hg) | ((with_reducible refine gate_dst (N := 3) rfl ?_); refine box_event ?hg (N := 3) ?hd (cs := #[.int .i64 a1_0, .int .i64 a1_1, .bool a1_2, .bool a1_3, .int .i64 a1_4, .int .i64 a1_5, .int .i64 a1_6, .int .u32 a1_7, .int .u32 a1_8, .slice A1_9 l1_9.length c1_9, .slice A1_10 l1_10.length c1_10]) (t := 34) ?hr ?_; (case hd => rfl); (case hg => rfl); (case hr => first | (go_simp; done) | (go_simp; rfl)); intro gb178 hg w61 hbox hb; have n0_ := Aside0.mk (blk_below (g := gb177) (o := .cells #[.int .i64 a0_0, .int .i64 a0_1, .bool a0_2, .bool a0_3, .int .i64 a0_4, .int .i64 a0_5, .int .i64 a0_6, .int .u32 a0_7, .int .u32 a0_8, .slice A0_9 l0_9.length c0_9, .slice A0_10 l0_10.length c0_10] 34 (0, 0)) (by (with_reducible repeat (first | refine blk_drewN ?_ _ | refine blk_drew ?_ | refine blk_alloc ?_ _)); exact BK177.out) hb); have n1_ := Aside0.mk (below_step (by repeat (first | (with_reducible first | exact HB.out | apply below_alloc | apply pw_below_drewN | apply below_drew1 | refine below_set ?_ GE177.out) | exact HB.out)) hb); have n2_ := Aside0.mk (hbox); have n3_ := Aside0.mk ((by rw [hg]; exact (below_size (by repeat (first | (with_reducible first | exact HB.out | apply below_alloc | apply pw_below_drewN | apply below_drew1 | refine below_set ?_ GE177.out) | exact HB.out))) : w.heap.size ≤ gb178)); have n4_ := Aside0.mk ((by rw [hg]; exact (below_size (by repeat (first | (with_reducible first | exact HB.out | apply below_alloc | apply pw_below_drewN | apply below_drew1 | refine below_set ?_ GE177.out) | exact HB.out))) : w.heap.size ≤ gb178)); have n5_ := Aside0.mk ((by rw [hg]; exact Nat.ne_of_lt (blk_lt (g := gb177) (o := .cells #[.int .i64 a0_0, .int .i64 a0_1, .bool a0_2, .bool a0_3, .int .i64 a0_4, .int .i64 a0_5, .int .i64 a0_6, .int .u32 a0_7, .int .u32 a0_8, .slice A0_9 l0_9.length c0_9, .slice A0_10 l0_10.length c0_10] 34 (0, 0)) (by (with_reducible repeat (first | refine blk_drewN ?_ _ | refine blk_drew ?_ | refine blk_alloc ?_ _)); exact BK177.out)) : gb177 ≠ gb178)); have n6_ := Aside0.mk ((by rw [hg]; exact Nat.ne_of_gt (blk_lt (g := gb177) (o := .cells #[.int .i64 a0_0, .int .i64 a0_1, .bool a0_2, .bool a0_3, .int .i64 a0_4, .int .i64 a0_5, .int .i64 a0_6, .int .u32 a0_7, .int .u32 a0_8, .slice A0_9 l0_9.length c0_9, .slice A0_10 l0_10.length c0_10] 34 (0, 0)) (by (with_reducible repeat (first | refine blk_drewN ?_ _ | refine blk_drew ?_ | refine blk_alloc ?_ _)); exact BK177.out)) : gb178 ≠ gb177)); clear BK177; clear HB; have BK177 := n0_; have HB := n1_; have BK178 := n2_; have GW178 := n3_; have GE178 := n4_; have NB177_178 := n5_; have NB178_177 := n6_; clear n0_ n1_ n2_ n3_ n4_ n5_ n6_; clear hb hbox hg; have hnb62 := NB177_178.out; have hnc62 := NB178_177.out; have hcz63_0 : w61.cell? ⟨gb177, 0, none⟩ = some (.int .i64 a0_0) := (blk_cell BK177.out 0).trans rfl; have hcz63_1 : w61.cell? ⟨gb177, 1, none⟩ = some (.int .i64 a0_1) := (blk_cell BK177.out 1).trans rfl; have hcz63_2 : w61.cell? ⟨gb177, 2, none⟩ = some (.bool a0_2) := (blk_cell BK177.out 2).trans rfl; have hcz63_3 : w61.cell? ⟨gb177, 3, none⟩ = some (.bool a0_3) := (blk_cell BK177.out 3).trans rfl; have hcz63_4 : w61.cell? ⟨gb177, 4, none⟩ = some (.int .i64 a0_4) := (blk_cell BK177.out 4).trans rfl; have hcz63_5 : w61.cell? ⟨gb177, 5, none⟩ = some (.int .i64 a0_5) := (blk_cell BK177.out 5).trans rfl; have hcz63_6 : w61.cell? ⟨gb177, 6, none⟩ = some (.int .i64 a0_6) := (blk_cell BK177.out 6).trans rfl; have hcz63_7 : w61.cell? ⟨gb177, 7, none⟩ = some (.int .u32 a0_7) := (blk_cell BK177.out 7).trans rfl; have hcz63_8 : w61.cell? ⟨gb177, 8, none⟩ = some (.int .u32 a0_8) := (blk_cell BK177.out 8).trans rfl; have hcz63_9 : w61.cell? ⟨gb177, 9, none⟩ = some (.slice A0_9 l0_9.length c0_9) := (blk_cell BK177.out 9).trans rfl; have hcz63_10 : w61.cell? ⟨gb177, 10, none⟩ = some (.slice A0_10 l0_10.length c0_10) := (blk_cell BK177.out 10).trans rfl; have hfz63_0 := blk_frozen BK177.out 0; have hfz63_1 := blk_frozen BK177.out 1; have hfz63_2 := blk_frozen BK177.out 2; have hfz63_3 := blk_frozen BK177.out 3; have hfz63_4 := blk_frozen BK177.out 4; have hfz63_5 := blk_frozen BK177.out 5; have hfz63_6 := blk_frozen BK177.out 6; have hfz63_7 := blk_frozen BK177.out 7; have hfz63_8 := blk_frozen BK177.out 8; have hfz63_9 := blk_frozen BK177.out 9; have hfz63_10 := blk_frozen BK177.out 10; have hcz64_0 : w61.cell? ⟨gb178, 0, none⟩ = some (.int .i64 a1_0) := (blk_cell BK178.out 0).trans rfl; have hcz64_1 : w61.cell? ⟨gb178, 1, none⟩ = some (.int .i64 a1_1) := (blk_cell BK178.out 1).trans rfl; have hcz64_2 : w61.cell? ⟨gb178, 2, none⟩ = some (.bool a1_2) := (blk_cell BK178.out 2).trans rfl; have hcz64_3 : w61.cell? ⟨gb178, 3, none⟩ = some (.bool a1_3) := (blk_cell BK178.out 3).trans rfl; have hcz64_4 : w61.cell? ⟨gb178, 4, none⟩ = some (.int .i64 a1_4) := (blk_cell BK178.out 4).trans rfl; have hcz64_5 : w61.cell? ⟨gb178, 5, none⟩ = some (.int .i64 a1_5) := (blk_cell BK178.out 5).trans rfl; have hcz64_6 : w61.cell? ⟨gb178, 6, none⟩ = some (.int .i64 a1_6) := (blk_cell BK178.out 6).trans rfl; have hcz64_7 : w61.cell? ⟨gb178, 7, none⟩ = some (.int .u32 a1_7) := (blk_cell BK178.out 7).trans rfl; have hcz64_8 : w61.cell? ⟨gb178, 8, none⟩ = some (.int .u32 a1_8) := (blk_cell BK178.out 8).trans rfl; have hcz64_9 : w61.cell? ⟨gb178, 9, none⟩ = some (.slice A1_9 l1_9.length c1_9) := (blk_cell BK178.out 9).trans rfl; have hcz64_10 : w61.cell? ⟨gb178, 10, none⟩ = some (.slice A1_10 l1_10.length c1_10) := (blk_cell BK178.out 10).trans rfl; have hfz64_0 := blk_frozen BK178.out 0; have hfz64_1 := blk_frozen BK178.out 1; have hfz64_2 := blk_frozen BK178.out 2; have hfz64_3 := blk_frozen BK178.out 3; have hfz64_4 := blk_frozen BK178.out 4; have hfz64_5 := blk_frozen BK178.out 5; have hfz64_6 := blk_frozen BK178.out 6; have hfz64_7 := blk_frozen BK178.out 7; have hfz64_8 := blk_frozen BK178.out 8; have hfz64_9 := blk_frozen BK178.out 9; have hfz64_10 := blk_frozen BK178.out 10))
      go_ret
      exact ⟨by first | rfl | (simp [errW_none, errW_some] <;> rfl) | (simp [*, errW_none, errW_some] <;> rfl), by repeat (first | (with_reducible first | exact HB.out | apply below_alloc | apply pw_below_drewN | apply below_drew1 | refine below_set ?_ GE177.out | refine below_set ?_ GE178.out) | exact HB.out)⟩
  · rw [if_neg c3] at H
    have c3b0 : (a0_0 == a1_0) = false := beq_eq_false_iff_ne.mpr c3
    have c3b1 : (a0_0 != a1_0) = true := bne_iff_ne.mpr c3
    obtain rfl := Option.some.inj H
    go_enter Tryd.func15, Tryd.ntmps15
    go_wp2_with (first | ((with_reducible refine gate_dst (N := 2) rfl ?_); refine box_event ?hg (N := 2) ?hd (cs := #[.int .i64 a0_0, .int .i64 a0_1, .bool a0_2, .bool a0_3, .int .i64 a0_4, .int .i64 a0_5, .int .i64 a0_6, .int .u32 a0_7, .int .u32 a0_8, .slice A0_9 l0_9.length c0_9, .slice A0_10 l0_10.length c0_10]) (t := 34) ?hr ?_; (case hd => rfl); (case hg => rfl); (case hr => first | (go_simp; done) | (go_simp; rfl)); intro gb177 hg w65 hbox hb; have n0_ := Aside0.mk (below_step (by repeat (first | (with_reducible first | exact HB.out | apply below_alloc | apply pw_below_drewN | apply below_drew1) | exact HB.out)) hb); have n1_ := Aside0.mk (hbox); have n2_ := Aside0.mk ((by rw [hg]; exact (below_size (by repeat (first | (with_reducible first | exact HB.out | apply below_alloc | apply pw_below_drewN | apply below_drew1) | exact HB.out))) : w.heap.size ≤ gb177)); have n3_ := Aside0.mk ((by rw [hg]; exact (below_size (by repeat (first | (with_reducible first | exact HB.out | apply below_alloc | apply pw_below_drewN | apply below_drew1) | exact HB.out))) : w.heap.size ≤ gb177)); clear HB; have HB := n0_; have BK177 := n1_; have GW177 := n2_; have GE177 := n3_; clear n0_ n1_ n2_ n3_; clear hb hbox hg) | ((with_reducible refine gate_dst (N := 3) rfl ?_); refine box_event ?hg (N := 3) ?hd (cs := #[.int .i64 a1_0, .int .i64 a1_1, .bool a1_2, .bool a1_3, .int .i64 a1_4, .int .i64 a1_5, .int .i64 a1_6, .int .u32 a1_7, .int .u32 a1_8, .slice A1_9 l1_9.length c1_9, .slice A1_10 l1_10.length c1_10]) (t := 34) ?hr ?_; (case hd => rfl); (case hg => rfl); (case hr => first | (go_simp; done) | (go_simp; rfl)); intro gb178 hg w66 hbox hb; have n0_ := Aside0.mk (blk_below (g := gb177) (o := .cells #[.int .i64 a0_0, .int .i64 a0_1, .bool a0_2, .bool a0_3, .int .i64 a0_4, .int .i64 a0_5, .int .i64 a0_6, .int .u32 a0_7, .int .u32 a0_8, .slice A0_9 l0_9.length c0_9, .slice A0_10 l0_10.length c0_10] 34 (0, 0)) (by (with_reducible repeat (first | refine blk_drewN ?_ _ | refine blk_drew ?_ | refine blk_alloc ?_ _)); exact BK177.out) hb); have n1_ := Aside0.mk (below_step (by repeat (first | (with_reducible first | exact HB.out | apply below_alloc | apply pw_below_drewN | apply below_drew1 | refine below_set ?_ GE177.out) | exact HB.out)) hb); have n2_ := Aside0.mk (hbox); have n3_ := Aside0.mk ((by rw [hg]; exact (below_size (by repeat (first | (with_reducible first | exact HB.out | apply below_alloc | apply pw_below_drewN | apply below_drew1 | refine below_set ?_ GE177.out) | exact HB.out))) : w.heap.size ≤ gb178)); have n4_ := Aside0.mk ((by rw [hg]; exact (below_size (by repeat (first | (with_reducible first | exact HB.out | apply below_alloc | apply pw_below_drewN | apply below_drew1 | refine below_set ?_ GE177.out) | exact HB.out))) : w.heap.size ≤ gb178)); have n5_ := Aside0.mk ((by rw [hg]; exact Nat.ne_of_lt (blk_lt (g := gb177) (o := .cells #[.int .i64 a0_0, .int .i64 a0_1, .bool a0_2, .bool a0_3, .int .i64 a0_4, .int .i64 a0_5, .int .i64 a0_6, .int .u32 a0_7, .int .u32 a0_8, .slice A0_9 l0_9.length c0_9, .slice A0_10 l0_10.length c0_10] 34 (0, 0)) (by (with_reducible repeat (first | refine blk_drewN ?_ _ | refine blk_drew ?_ | refine blk_alloc ?_ _)); exact BK177.out)) : gb177 ≠ gb178)); have n6_ := Aside0.mk ((by rw [hg]; exact Nat.ne_of_gt (blk_lt (g := gb177) (o := .cells #[.int .i64 a0_0, .int .i64 a0_1, .bool a0_2, .bool a0_3, .int .i64 a0_4, .int .i64 a0_5, .int .i64 a0_6, .int .u32 a0_7, .int .u32 a0_8, .slice A0_9 l0_9.length c0_9, .slice A0_10 l0_10.length c0_10] 34 (0, 0)) (by (with_reducible repeat (first | refine blk_drewN ?_ _ | refine blk_drew ?_ | refine blk_alloc ?_ _)); exact BK177.out)) : gb178 ≠ gb177)); clear BK177; clear HB; have BK177 := n0_; have HB := n1_; have BK178 := n2_; have GW178 := n3_; have GE178 := n4_; have NB177_178 := n5_; have NB178_177 := n6_; clear n0_ n1_ n2_ n3_ n4_ n5_ n6_; clear hb hbox hg; have hnb67 := NB177_178.out; have hnc67 := NB178_177.out; have hcz68_0 : w66.cell? ⟨gb177, 0, none⟩ = some (.int .i64 a0_0) := (blk_cell BK177.out 0).trans rfl; have hcz68_1 : w66.cell? ⟨gb177, 1, none⟩ = some (.int .i64 a0_1) := (blk_cell BK177.out 1).trans rfl; have hcz68_2 : w66.cell? ⟨gb177, 2, none⟩ = some (.bool a0_2) := (blk_cell BK177.out 2).trans rfl; have hcz68_3 : w66.cell? ⟨gb177, 3, none⟩ = some (.bool a0_3) := (blk_cell BK177.out 3).trans rfl; have hcz68_4 : w66.cell? ⟨gb177, 4, none⟩ = some (.int .i64 a0_4) := (blk_cell BK177.out 4).trans rfl; have hcz68_5 : w66.cell? ⟨gb177, 5, none⟩ = some (.int .i64 a0_5) := (blk_cell BK177.out 5).trans rfl; have hcz68_6 : w66.cell? ⟨gb177, 6, none⟩ = some (.int .i64 a0_6) := (blk_cell BK177.out 6).trans rfl; have hcz68_7 : w66.cell? ⟨gb177, 7, none⟩ = some (.int .u32 a0_7) := (blk_cell BK177.out 7).trans rfl; have hcz68_8 : w66.cell? ⟨gb177, 8, none⟩ = some (.int .u32 a0_8) := (blk_cell BK177.out 8).trans rfl; have hcz68_9 : w66.cell? ⟨gb177, 9, none⟩ = some (.slice A0_9 l0_9.length c0_9) := (blk_cell BK177.out 9).trans rfl; have hcz68_10 : w66.cell? ⟨gb177, 10, none⟩ = some (.slice A0_10 l0_10.length c0_10) := (blk_cell BK177.out 10).trans rfl; have hfz68_0 := blk_frozen BK177.out 0; have hfz68_1 := blk_frozen BK177.out 1; have hfz68_2 := blk_frozen BK177.out 2; have hfz68_3 := blk_frozen BK177.out 3; have hfz68_4 := blk_frozen BK177.out 4; have hfz68_5 := blk_frozen BK177.out 5; have hfz68_6 := blk_frozen BK177.out 6; have hfz68_7 := blk_frozen BK177.out 7; have hfz68_8 := blk_frozen BK177.out 8; have hfz68_9 := blk_frozen BK177.out 9; have hfz68_10 := blk_frozen BK177.out 10; have hcz69_0 : w66.cell? ⟨gb178, 0, none⟩ = some (.int .i64 a1_0) := (blk_cell BK178.out 0).trans rfl; have hcz69_1 : w66.cell? ⟨gb178, 1, none⟩ = some (.int .i64 a1_1) := (blk_cell BK178.out 1).trans rfl; have hcz69_2 : w66.cell? ⟨gb178, 2, none⟩ = some (.bool a1_2) := (blk_cell BK178.out 2).trans rfl; have hcz69_3 : w66.cell? ⟨gb178, 3, none⟩ = some (.bool a1_3) := (blk_cell BK178.out 3).trans rfl; have hcz69_4 : w66.cell? ⟨gb178, 4, none⟩ = some (.int .i64 a1_4) := (blk_cell BK178.out 4).trans rfl; have hcz69_5 : w66.cell? ⟨gb178, 5, none⟩ = some (.int .i64 a1_5) := (blk_cell BK178.out 5).trans rfl; have hcz69_6 : w66.cell? ⟨gb178, 6, none⟩ = some (.int .i64 a1_6) := (blk_cell BK178.out 6).trans rfl; have hcz69_7 : w66.cell? ⟨gb178, 7, none⟩ = some (.int .u32 a1_7) := (blk_cell BK178.out 7).trans rfl; have hcz69_8 : w66.cell? ⟨gb178, 8, none⟩ = some (.int .u32 a1_8) := (blk_cell BK178.out 8).trans rfl; have hcz69_9 : w66.cell? ⟨gb178, 9, none⟩ = some (.slice A1_9 l1_9.length c1_9) := (blk_cell BK178.out 9).trans rfl; have hcz69_10 : w66.cell? ⟨gb178, 10, none⟩ = some (.slice A1_10 l1_10.length c1_10) := (blk_cell BK178.out 10).trans rfl; have hfz69_0 := blk_frozen BK178.out 0; have hfz69_1 := blk_frozen BK178.out 1; have hfz69_2 := blk_frozen BK178.out 2; have hfz69_3 := blk_frozen BK178.out 3; have hfz69_4 := blk_frozen BK178.out 4; have hfz69_5 := blk_frozen BK178.out 5; have hfz69_6 := blk_frozen BK178.out 6; have hfz69_7 := blk_frozen BK178.out 7; have hfz69_8 := blk_frozen BK178.out 8; have hfz69_9 := blk_frozen BK178.out 9; have hfz69_10 := blk_frozen BK178.out 10))
    go_ret
    exact ⟨by first | rfl | (simp [errW_none, errW_some] <;> rfl) | (simp [*, errW_none, errW_some] <;> rfl), by repeat (first | (with_reducible first | exact HB.out | apply below_alloc | apply pw_below_drewN | apply below_drew1 | refine below_set ?_ GE177.out | refine below_set ?_ GE178.out) | exact HB.out)⟩

end Go.Proofs.YthnhpbplglmmmaaDoor.P
