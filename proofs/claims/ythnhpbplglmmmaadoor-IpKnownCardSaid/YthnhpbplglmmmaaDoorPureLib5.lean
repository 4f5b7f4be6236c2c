/- Plain lemmas on the references' Lay, Part, One, word and long. No program in sight. -/
import Derived.Test.YthnhpbplglmmmaaDoorPoctet
import Derived.Test.YthnhpbplglmmmaaDoorPureLibS
namespace Go.Proofs.YthnhpbplglmmmaaDoor.Pure
open Go.RowKit Go.Proofs.YthnhpbplglmmmaaDoor.P Go.Proofs.YthnhpbplglmmmaaDoorW.PrintWords Go.Proofs.YthnhpbplglmmmaaDoorW.PrintLast Go.Proofs.YthnhpbplglmmmaaDoorW.PrintMore
set_option linter.unusedVariables false
set_option linter.unusedSimpArgs false
theorem shr_at (x y : Int) (j : Nat) (h : min (IntKind.u64.wrap y).toNat IntKind.u64.bits = j) : shr .u64 x (IntKind.u64.wrap y) = x / 2 ^ j := by unfold shr; rw [h]
/-- Numbers of two and four bytes. -/
def two (l : List Int) (a : Nat) : Int := rd l a * 256 + rd l (a + 1 : Nat)
def four (l : List Int) (a : Nat) : Int := rd l a * 16777216 + rd l (a + 1 : Nat) * 65536 + rd l (a + 2 : Nat) * 256 + rd l (a + 3 : Nat)
theorem or64 (x y : Int) (h0 : 0 ≤ x) (h1 : x < 256) (hc : 0 ≤ y) (hc1 : y < 256) : Go.bits .or .i64 (wrap64 (wrap64 x * 256)) (wrap64 y) = x * 256 + y := by
  rw [w64 (x := x) (by omega) (by omega), w64 (x := y) (by omega) (by omega), w64 (by omega) (by omega)]
  exact bits_join .i64 63 (by decide) (fun n h0 h1 => by rw [IntKind.wrap_i64]; omega) 8 (x * 256) y (by omega) (by simp) (by omega) hc (by omega) (by omega)
theorem or32 (i : Nat) (x y : Int) (hx0 : 0 ≤ x) (hx : x < 4294967296) (hm : x % 2 ^ i = 0) (hi : i < 32) (hy0 : 0 ≤ y) (hy : y < 2 ^ i) (hs : x + y < 4294967296) : Go.bits .or .u32 x y = x + y := by
  exact bits_join .u32 32 (by decide) (fun n h0 h1 => by simp [IntKind.wrap, IntKind.bits, IntKind.signed]; omega) i x y hx0 hm hx hy0 hy (by simp; omega)
theorem get2_to (l : List Int) (a : Nat) (hb : Bytes l) (h : a + 2 ≤ l.length) : octet_Get.f l a 2 = some (two l a, true) := by
  rw [get_two l a hb h]
  unfold two
  rw [rd_getD, rd_getD]
theorem get4_to (l : List Int) (a : Nat) (hb : Bytes l) (h : a + 4 ≤ l.length) : octet_Get.f l a 4 = some (four l a, true) := by
  unfold octet_Get.f
  rw [if_pos (by omega), show ((a : Int) + 4).toNat = a + 4 by omega, Int.toNat_natCast]
  have e3 : ∀ i, i < a + 4 → rd (l.take (a + 4)) ((i : Nat) : Int) = rd l ((i : Nat) : Int) := fun i hi => by
    rw [rd_nat _ _ (by simp; omega), rd_nat _ _ (by omega), List.getElem_take]
  have e : (l.take (a + 4)).drop a = [rd l ((a : Nat) : Int), rd l ((a + 1 : Nat) : Int), rd l ((a + 2 : Nat) : Int), rd l ((a + 3 : Nat) : Int)] := by
    rw [drop_rd _ a (by simp; omega), drop_rd _ (a + 1) (by simp; omega), drop_rd _ (a + 1 + 1) (by simp; omega), drop_rd _ (a + 1 + 1 + 1) (by simp; omega), List.drop_of_length_le (by simp; omega)]
    rw [e3 a (by omega), e3 (a + 1) (by omega), e3 (a + 1 + 1) (by omega), e3 (a + 1 + 1 + 1) (by omega)]
  rw [e, (be_val _ 0 (by
    intro c hc
    simp only [List.mem_cons, List.not_mem_nil, or_false] at hc
    rcases hc with rfl | rfl | rfl | rfl
    · exact hb.get a (by omega)
    · exact hb.get (a + 1) (by omega)
    · exact hb.get (a + 2) (by omega)
    · exact hb.get (a + 3) (by omega)) (by omega) (by simp)).1]
  simp only [beVal, List.foldl_cons, List.foldl_nil]
  unfold four
  congr 2
  omega
theorem two_bound (l : List Int) (a : Nat) (hb : Bytes l) (h : a + 2 ≤ l.length) : 0 ≤ two l a ∧ two l a < 65536 := by
  have g0 := hb.get a (by omega)
  have g1 := hb.get (a + 1) (by omega)
  unfold two
  omega
theorem four_bound (l : List Int) (a : Nat) (hb : Bytes l) (h : a + 4 ≤ l.length) : 0 ≤ four l a ∧ four l a < 4294967296 := by
  have g0 := hb.get a (by omega)
  have g1 := hb.get (a + 1) (by omega)
  have g2 := hb.get (a + 2) (by omega)
  have g3 := hb.get (a + 3) (by omega)
  unfold four
  omega
/-- Once the sum is set to what lacks, the whole sums to 65535. -/
theorem fold_full (x : Int) (h : 0 ≤ x) : fold16 (x + (65535 - fold16 x)) = 65535 := by
  unfold fold16
  by_cases h0 : x = 0
  · subst h0; decide
  · rw [if_neg h0, if_neg (by omega)]
    omega
theorem fold_not (x y d : Int) (hx : 0 ≤ x) (h : fold16 x = 65535) (hy : y = x + d) (h0 : d ≠ 0) (h1 : -65535 < d) (h2 : d < 65535) (hy0 : 0 ≤ y) : fold16 y ≠ 65535 := by
  unfold fold16 at *
  split at h
  · omega
  · split <;> omega
/-- A byte with one bit turned is another byte. -/
theorem flip_byte (c j : Int) (h0 : 0 ≤ c) (h1 : c < 256) (j0 : 0 ≤ j) (j1 : j < 8) : 0 ≤ Go.bits .xor .u8 c (shl .u8 1 (IntKind.u64.wrap j)) ∧ Go.bits .xor .u8 c (shl .u8 1 (IntKind.u64.wrap j)) < 256 ∧ Go.bits .xor .u8 c (shl .u8 1 (IntKind.u64.wrap j)) ≠ c := by
  have h : ∀ (a : Fin 256) (b : Fin 8), 0 ≤ Go.bits .xor .u8 (a.val : Int) (shl .u8 1 (IntKind.u64.wrap (b.val : Int))) ∧ Go.bits .xor .u8 (a.val : Int) (shl .u8 1 (IntKind.u64.wrap (b.val : Int))) < 256 ∧ Go.bits .xor .u8 (a.val : Int) (shl .u8 1 (IntKind.u64.wrap (b.val : Int))) ≠ (a.val : Int) := by decide +kernel
  obtain ⟨c, rfl⟩ := Int.eq_ofNat_of_zero_le h0
  obtain ⟨j, rfl⟩ := Int.eq_ofNat_of_zero_le j0
  exact h ⟨c, by omega⟩ ⟨j, by omega⟩
/-- One byte turned: the sum is no longer full. -/
theorem flip_sum (l : List Int) (i : Nat) (v : Int) (hb : Bytes l) (hi : i < l.length) (h : sumOf l = 65535) (h0 : 0 ≤ v) (h1 : v < 256) (hv : v ≠ rd l i) : Bytes (l.set i v) ∧ sumOf (l.set i v) ≠ 65535 := by
  have hbs : Bytes (l.set i v) := fun c hc => by
    rcases List.mem_or_eq_of_mem_set hc with h | rfl
    · exact hb c h
    · exact ⟨h0, h1⟩
  refine ⟨hbs, ?_⟩
  have g := hb.get i hi
  have e := wsum_set l false i v hi
  rw [← rd_getD] at e
  have b1 := wsum_bound l false hb
  have b2 := wsum_bound _ false hbs
  unfold sumOf at *
  have hw : wt false i = 1 ∨ wt false i = 256 := by unfold wt; split <;> simp
  rcases hw with hw | hw <;> rw [hw] at e
  · exact fold_not _ _ _ b1.1 h e (by omega) (by omega) (by omega) b2.1
  · exact fold_not _ _ _ b1.1 h e (by omega) (by omega) (by omega) b2.1
theorem bytes_set {l : List Int} (hb : Bytes l) (i : Nat) (v : Int) (h0 : 0 ≤ v) (h1 : v < 256) : Bytes (l.set i v) := fun c hc => by
  rcases List.mem_or_eq_of_mem_set hc with h | rfl
  · exact hb c h
  · exact ⟨h0, h1⟩
theorem up {α : Type} {f : Nat → Option α} (h : ∀ k, LeO (f k) (f (k + 1))) (k : Nat) {r : α} (hk : f k = some r) (m : Nat) (hm : k ≤ m) : f m = some r := by
  obtain ⟨d, rfl⟩ := Nat.le.dest hm
  clear hm
  induction d with
  | zero => exact hk
  | succ d ih => exact h _ _ ih
end Go.Proofs.YthnhpbplglmmmaaDoor.Pure
