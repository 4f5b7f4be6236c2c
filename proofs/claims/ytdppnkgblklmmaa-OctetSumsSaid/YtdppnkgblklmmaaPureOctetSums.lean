/- OctetSums: the sum of any parts is what their words make, wherever parts begin, and the check is 65535 less. No condition. -/
import Derived.Test.YtdppnkgblklmmaaPureLib3
import Derived.Test.YtdppnkgblklmmaaPbailiwicklaw1OctetSums
namespace Go.Proofs.Ytdppnkgblklmmaa.Pure
open Go.RowKit Go.Proofs.Ytdppnkgblklmmaa.P Go.Proofs.YtdppnkgblklmmaaW.PrintWords Go.Proofs.YtdppnkgblklmmaaW.PrintLast
set_option linter.unusedVariables false
set_option linter.unusedSimpArgs false
theorem flatten_take_succ (x0 : List (List Int)) (i : Nat) (hi : i < x0.length) : (x0.take (i + 1)).flatten = (x0.take i).flatten ++ x0.getD i [] := by
  rw [List.take_succ_eq_append_getElem hi, List.flatten_append]
  simp [hi]
theorem sums_loop (x0 : List (List Int)) (hx : x0.length ≤ 140737488351232) (hb : Bytes x0.flatten) (rem : Nat) : ∀ (k i : Nat), i + rem = x0.length → (x0.take i).flatten.length ≤ 200000 → rem + 200000 + 2 * x0.length + 10 ≤ k →
    bailiwicklaw1_OctetSums.l0 k x0 (x0.take i).flatten i = some true := by
  induction rem with
  | zero =>
    intro k i h hl hk
    obtain ⟨k, rfl⟩ : ∃ q, k = q + 1 := ⟨k - 1, by omega⟩
    rw [bailiwicklaw1_OctetSums.l0, if_neg (by omega)]
    rw [List.take_of_length_le (by omega)] at hl ⊢
    rw [refSum_to x0 (by omega) hb (by omega) k (by rw [cost_le]; omega), sum_to x0 hb (by omega), sum_one _ hb (by omega), check_to x0 hb (by omega), check_one _ hb (by omega)]
    have := sumOf_bound x0.flatten
    simp only [Option.bind_some, if_true]
    rw [w64 (by omega) (by omega)]
    simp
  | succ rem ih =>
    intro k i h hl hk
    obtain ⟨k, rfl⟩ : ∃ q, k = q + 1 := ⟨k - 1, by omega⟩
    rw [bailiwicklaw1_OctetSums.l0, if_pos (by omega)]
    by_cases h1 : (((x0.take i).flatten.length : Nat) : Int) > 100000
    · rw [if_pos h1]
    rw [if_neg h1, if_pos (by omega), rdL_rd]
    simp only [Int.toNat_natCast]
    by_cases h2 : (((x0.getD i []).length : Nat) : Int) > 100000
    · rw [if_pos h2]
    rw [if_neg h2, if_pos (by omega), show wrap64 ((i : Int) + 1) = ((i + 1 : Nat) : Int) by rw [w64 (by omega) (by omega)]; simp, ← flatten_take_succ x0 i (by omega)]
    refine ih k (i + 1) (by omega) ?_ (by omega)
    rw [flatten_take_succ x0 i (by omega), List.length_append]
    omega
theorem OctetSums : bailiwicklaw1_OctetSums.Pure := by
  intro x0 hx
  obtain ⟨h1, h2, h3⟩ := hx
  have hb : Bytes x0.flatten := by
    intro c hc
    obtain ⟨b, hb, hcb⟩ := List.mem_flatten.1 hc
    exact bytes_of (h3 b hb).2.2 c hcb
  refine ⟨3 * x0.length + 200010, ?_⟩
  unfold bailiwicklaw1_OctetSums.f
  rw [awake1]
  simp only [Option.bind_some, if_true]
  have := sums_loop x0 (by omega) hb x0.length (3 * x0.length + 200010) 0 (by omega) (by simp) (by omega)
  simpa using this
end Go.Proofs.Ytdppnkgblklmmaa.Pure
