/- OctetPuts: a number that is laid into any bytes is read again, all other bytes and what was handed in stay. No condition. -/
import Derived.Test.YtdppnkgblklmmaaPureLib4
import Derived.Test.YtdppnkgblklmmaaPbailiwicklaw1OctetPuts
namespace Go.Proofs.Ytdppnkgblklmmaa.Pure
open Go.RowKit Go.Proofs.Ytdppnkgblklmmaa.P Go.Proofs.YtdppnkgblklmmaaW.PrintWords Go.Proofs.YtdppnkgblklmmaaW.PrintLast
set_option linter.unusedVariables false
set_option linter.unusedSimpArgs false
theorem getD_set' (l : List Int) (i j : Nat) (v : Int) (h : i < l.length) : (l.set i v).getD j 0 = if i = j then v else l.getD j 0 := by
  by_cases hij : i = j
  · subst hij; simp [h]
  · rw [if_neg hij]; simp [hij]
theorem lay_get (a : Nat) : ∀ (n : Nat) (l : List Int) (x : Int) (i : Nat), a + n ≤ l.length → a + n ≤ i → (lay l a n x).getD i 0 = l.getD i 0
  | 0, _, _, _, _, _ => rfl
  | n + 1, l, x, i, h, hi => by
    rw [lay, lay_get a n _ _ i (by simp; omega) (by omega), getD_set' _ _ _ _ (by omega), if_neg (by omega)]
theorem lay_bytes (a : Nat) : ∀ (n : Nat) (l : List Int) (x : Int), Bytes l → Bytes (lay l a n x)
  | 0, _, _, h => h
  | n + 1, l, x, h => by
    rw [lay]
    refine lay_bytes a n _ _ (fun c hc => ?_)
    rcases List.mem_or_eq_of_mem_set hc with h2 | rfl
    · exact h c h2
    · omega
theorem lay_read (a : Nat) : ∀ (n : Nat) (l : List Int) (x : Int), a + n ≤ l.length → beVal 0 (((lay l a n x).take (a + n)).drop a) = x % 256 ^ n
  | 0, l, x, h => by
    rw [List.drop_of_length_le (by simp; omega)]
    simp [beVal, Int.emod_one]
  | n + 1, l, x, h => by
    have hl := lay_length a (n + 1) l x
    have e : ((lay l a (n + 1) x).take (a + (n + 1))).drop a = ((lay l a (n + 1) x).take (a + n)).drop a ++ [(lay l a (n + 1) x).getD (a + n) 0] := by
      rw [show a + (n + 1) = (a + n) + 1 by omega, List.take_succ_eq_append_getElem (by omega), List.drop_append_of_le_length (by simp; omega)]
      simp [hl, show a + n < l.length by omega]
    rw [e]
    have e2 : (lay l a (n + 1) x).getD (a + n) 0 = x % 256 := by
      rw [lay, lay_get a n _ _ _ (by simp; omega) (by omega), getD_set' _ _ _ _ (by omega), if_pos rfl]
    rw [e2]
    have ih := lay_read a n (l.set (a + n) (x % 256)) (x / 256) (by simp; omega)
    have hf : beVal 0 (((lay l a (n + 1) x).take (a + n)).drop a ++ [x % 256]) = beVal 0 (((lay l a (n + 1) x).take (a + n)).drop a) * 256 + x % 256 := by
      unfold beVal; rw [List.foldl_append]; rfl
    rw [hf]
    rw [lay, ih]
    have hp : (256 : Int) ^ (n + 1) = 256 ^ n * 256 := Int.pow_succ ..
    have hq : (0 : Int) < 256 ^ n := Int.pow_pos (by decide)
    rw [hp, Int.mul_comm (256 ^ n) 256]
    have := Int.emod_def x (256 * 256 ^ n)
    have h3 := Int.emod_def (x / 256) (256 ^ n)
    rw [Int.ediv_ediv, if_neg (fun h => by omega), Int.sub_zero] at h3
    rw [this, h3, Int.sub_mul, Int.mul_assoc 256]
    have h4 : 256 ^ n * (x / (256 * 256 ^ n)) * 256 = 256 * (256 ^ n * (x / (256 * 256 ^ n))) := Int.mul_comm ..
    rw [h4]
    omega
theorem get_lay (l : List Int) (a n : Nat) (x : Int) (hb : Bytes l) (h1 : 1 ≤ n) (h8 : n ≤ 8) (h : a + n ≤ l.length) : octet_Get.f (lay l a n x) a n = some (x % 256 ^ n, true) := by
  unfold octet_Get.f
  rw [lay_length, if_pos (by omega)]
  have e : (((a : Int) + (n : Int)).toNat) = a + n := by omega
  rw [e, Int.toNat_natCast]
  have hb2 : Bytes (((lay l a n x).take (a + n)).drop a) := fun c hc => lay_bytes a n l x hb c (List.mem_of_mem_take (List.mem_of_mem_drop hc))
  have hlen : (((lay l a n x).take (a + n)).drop a).length = n := by simp [lay_length]; omega
  have := be_val (((lay l a n x).take (a + n)).drop a) 0 hb2 (by omega) (by
    rw [hlen]
    have : n = 1 ∨ n = 2 ∨ n = 3 ∨ n = 4 ∨ n = 5 ∨ n = 6 ∨ n = 7 ∨ n = 8 := by omega
    rcases this with rfl | rfl | rfl | rfl | rfl | rfl | rfl | rfl <;> decide)
  rw [this.1, lay_read a n l x h]
theorem mask_to (x : Int) (n : Nat) (h1 : 1 ≤ n) (h8 : n < 8) (hx : 0 ≤ x) (hx1 : x < 18446744073709551616) : Go.bits .and .u64 x (IntKind.u64.wrap ((shl .u64 1 (IntKind.u64.wrap (8 * (IntKind.u64.wrap (n : Int))))) - 1)) = x % 256 ^ n := by
  have hm : ∀ i, i ≤ 64 → Go.bits .and .u64 x (2 ^ i - 1) = x % 2 ^ i := fun i hi => by
    rw [and_mask .u64 i hi x, wrap_u64]
    refine Int.emod_eq_of_lt (Int.emod_nonneg _ (two_pow_ne i)) ?_
    have hp : (0 : Int) < 2 ^ i := Int.pow_pos (by decide)
    have h2 := Int.mul_nonneg (Int.le_of_lt hp) (Int.ediv_nonneg hx (Int.le_of_lt hp))
    rw [Int.emod_def]
    omega
  have : n = 1 ∨ n = 2 ∨ n = 3 ∨ n = 4 ∨ n = 5 ∨ n = 6 ∨ n = 7 := by omega
  rcases this with rfl | rfl | rfl | rfl | rfl | rfl | rfl
  · exact hm 8 (by decide)
  · exact hm 16 (by decide)
  · exact hm 24 (by decide)
  · exact hm 32 (by decide)
  · exact hm 40 (by decide)
  · exact hm 48 (by decide)
  · exact hm 56 (by decide)
theorem OctetPuts : bailiwicklaw1_OctetPuts.Pure := by
  intro l a n x hl ha hn hx
  obtain ⟨h1, h2, h3⟩ := hl
  have hB := bytes_of h3
  have hx2 : 0 ≤ x ∧ x ≤ 18446744073709551615 := by simpa [Lit.wf, IntKind.min, IntKind.max, IntKind.bits, IntKind.signed] using hx
  refine ⟨l.length + 20, ?_⟩
  unfold bailiwicklaw1_OctetPuts.f
  rw [awake1, copy_to l (by omega) _ (by omega), put_to l a n x (by omega) _ (by omega), refPut_to l a n x (by omega) _ (by omega)]
  simp only [Option.bind_some, if_true, bne_self_eq_false, Bool.false_eq_true, if_false]
  have hpl : (put l a n x).1.length ≤ l.length := by unfold put; split <;> simp [lay_length]
  rw [same_to (put l a n x).1 (by omega) _ (by omega), same_to l (by omega) _ (by omega)]
  simp only [Option.bind_some, if_true, Bool.not_true]
  rw [show l.length + 20 = (l.length + 19) + 1 by omega, bailiwicklaw1_OctetPuts.j0, if_neg (by decide)]
  unfold put
  by_cases h : 1 ≤ n ∧ n ≤ 8 ∧ 0 ≤ a ∧ a + n ≤ (l.length : Int)
  · rw [if_pos h]
    simp only [if_true]
    obtain ⟨a, rfl⟩ := Int.eq_ofNat_of_zero_le h.2.2.1
    obtain ⟨n, rfl⟩ := Int.eq_ofNat_of_zero_le (by omega : 0 ≤ n)
    simp only [Int.toNat_natCast]
    rw [get_lay l a n x hB (by omega) (by omega) (by omega)]
    simp only [Option.bind_some, if_true]
    by_cases h8 : n = 8
    · subst h8
      rw [if_pos (show ((8 : Nat) : Int) = 8 from rfl), if_pos]
      show x % 18446744073709551616 = x
      omega
    · rw [if_neg (by omega), if_pos (by omega), if_pos, mask_to x n (by omega) (by omega) hx2.1 (by omega)]
      · simp
      · rw [wrap_u64]; omega
  · rw [if_neg h]
    rfl
end Go.Proofs.Ytdppnkgblklmmaa.Pure
