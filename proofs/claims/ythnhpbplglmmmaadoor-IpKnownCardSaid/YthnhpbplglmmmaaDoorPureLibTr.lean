/- What the document's own text of an end comes to. No statement of its own. -/
import Derived.Test.YthnhpbplglmmmaaDoorPbailiwickref2
import Derived.Test.YthnhpbplglmmmaaDoorPureLibTt
namespace Go.Proofs.YthnhpbplglmmmaaDoor.Pure
open Go.RowKit Go.Proofs.YthnhpbplglmmmaaDoor.P Go.Proofs.YthnhpbplglmmmaaDoorW.PrintWords Go.Proofs.YthnhpbplglmmmaaDoorW.PrintLast
set_option linter.unusedVariables false
set_option linter.unusedSimpArgs false
theorem toS_size (l : List UInt8) : (toS l).size = l.length := by show l.toArray.size = _; simp
theorem toS_nil : (⟨#[]⟩ : ByteArray) = toS [] := rfl
theorem dd_small (n : Nat) (h : n < 10) : Lib.decDigits n = [UInt8.ofNat (48 + n)] := by rw [Lib.decDigits, dif_pos h]
theorem dd_big (n : Nat) (h : ¬ n < 10) : Lib.decDigits n = Lib.decDigits (n / 10) ++ [UInt8.ofNat (48 + n % 10)] := by rw [Lib.decDigits, dif_neg h]
theorem dec_loop : ∀ (d n k : Nat) (s : List UInt8), n < 10 ^ d → d ≤ k → 0 < k → n < 4294967296 → s.length + d ≤ 1000 → bailiwickref2_Dec.l0 k (n : Int) (toS s) = some (toS (Lib.decDigits n ++ s)) := by
  intro d
  induction d with
  | zero =>
    intro n k s h hk h0 _ hs
    obtain ⟨k, rfl⟩ : ∃ q, k = q + 1 := ⟨k - 1, by omega⟩
    have e : n = 0 := by simpa using h
    subst e
    rw [dd_small 0 (by decide)]
    simp only [bailiwickref2_Dec.l0, Option.bind_some]
    rw [show strOfNums [IntKind.u64.wrap (48 + Int.tmod ((0 : Nat) : Int) 10) % 256] = toS [48] from by decide, if_pos (by rw [toS_size, toS_size]; simp; omega), if_pos (by decide), toS_app]
    rfl
  | succ d ih =>
    intro n k s h hk h0 hn hs
    obtain ⟨k, rfl⟩ : ∃ q, k = q + 1 := ⟨k - 1, by omega⟩
    have e1 : Int.tmod (n : Int) 10 = ((n % 10 : Nat) : Int) := by rw [Int.tmod_eq_emod_of_nonneg (by omega)]; rfl
    have e2 : IntKind.u64.wrap (Int.tdiv (n : Int) 10) = ((n / 10 : Nat) : Int) := by rw [Int.tdiv_eq_ediv_of_nonneg (by omega)]; show ((n : Int) / 10) % 18446744073709551616 = _; omega
    have e3 : strOfNums [IntKind.u64.wrap (48 + Int.tmod (n : Int) 10) % 256] = toS [UInt8.ofNat (48 + n % 10)] := by
      rw [e1, show IntKind.u64.wrap (48 + ((n % 10 : Nat) : Int)) % 256 = ((48 + n % 10 : Nat) : Int) from by
        show ((48 + ((n % 10 : Nat) : Int)) % 18446744073709551616) % 256 = _
        omega]
      rfl
    simp only [bailiwickref2_Dec.l0, Option.bind_some]
    rw [e3, e2, if_pos (by rw [toS_size, toS_size]; simp; omega), toS_app]
    by_cases h10 : n < 10
    · rw [if_pos (by omega), dd_small n h10, show n % 10 = n by omega]
    · rw [if_neg (by omega), ih (n / 10) k _ (by rw [Nat.pow_succ] at h; omega) (by omega) (by
        rcases Nat.eq_zero_or_pos k with rfl | h
        · exfalso
          have : d = 0 := by omega
          subst this
          simp at h
          omega
        · exact h) (by omega) (by simp; omega), dd_big n h10]
      simp
theorem dec_to (k : Nat) (hk : 8 ≤ k) (x : Int) (h : 0 ≤ x ∧ x < 65536) : bailiwickref2_Dec.f k x = some (toS (Lib.itoa x)) := by
  obtain ⟨n, rfl⟩ : ∃ n : Nat, x = n := ⟨x.toNat, by omega⟩
  unfold bailiwickref2_Dec.f Lib.itoa
  rw [if_neg (by omega), toS_nil, dec_loop 5 n k [] (by omega) (by omega) (by omega) (by omega) (by decide)]
  simp
theorem wrapu64 (x : Int) (h : 0 ≤ x ∧ x < 65536) : IntKind.u64.wrap x = x := by show x % 18446744073709551616 = x; omega
theorem itoa_le (x : Int) (h : 0 ≤ x ∧ x < 65536) : (Lib.itoa x).length ≤ 5 := itoa_len5 x ⟨h.1, by omega⟩
theorem showL_app (a : Int) : showL a = Lib.itoa (a / 16777216 % 256) ++ ([46] ++ Lib.itoa (a / 65536 % 256) ++ ([46] ++ Lib.itoa (a / 256 % 256) ++ ([46] ++ Lib.itoa (a % 256)))) := by
  unfold showL octs
  simp only [List.map_cons, List.map_nil]
  rw [Lib.join_cons]
  simp [Lib.joinTail]
theorem show_to (k : Nat) (hk : 8 ≤ k) (a : Int) (h : 0 ≤ a ∧ a < 4294967296) : bailiwickref2_Show.f k a = some (toS (showL a)) := by
  have i0 := itoa_le (a / 16777216 % 256) (by omega)
  have i1 := itoa_le (a / 65536 % 256) (by omega)
  have i2 := itoa_le (a / 256 % 256) (by omega)
  have i3 := itoa_le (a % 256) (by omega)
  unfold bailiwickref2_Show.f
  rw [and255, and255, and255, show a / 16777216 = a / 16777216 % 256 by omega, wrapu64 _ (by omega), wrapu64 _ (by omega), wrapu64 _ (by omega), wrapu64 _ (by omega),
    dec_to k hk _ (by omega), dec_to k hk _ (by omega), dec_to k hk _ (by omega), dec_to k hk _ (by omega), show (⟨#[46]⟩ : ByteArray) = toS [46] from rfl]
  simp only [Option.bind_some, toS_app, toS_size, List.length_append, List.length_cons, List.length_nil]
  rw [if_pos (by omega), if_pos (by omega), if_pos (by omega), if_pos (by omega), if_pos (by omega), if_pos (by omega), showL_app]
  simp
theorem dd_nodot : ∀ (n : Nat) (m : Nat), m ≤ n → (46 : UInt8) ∉ Lib.decDigits m
  | n, m, h => by
    have d : ∀ q, q < 10 → (46 : UInt8) ≠ UInt8.ofNat (48 + q) := by decide
    by_cases h10 : m < 10
    · rw [dd_small m h10, List.mem_singleton]
      exact d m h10
    · rw [dd_big m h10, List.mem_append, List.mem_singleton, not_or]
      obtain ⟨q, rfl⟩ : ∃ q, n = q + 1 := ⟨n - 1, by omega⟩
      exact ⟨dd_nodot q (m / 10) (by omega), d _ (by omega)⟩
theorem itoa_nodot (x : Int) (h : 0 ≤ x) : (46 : UInt8) ∉ Lib.itoa x := by
  unfold Lib.itoa
  rw [if_neg (by omega)]
  exact dd_nodot _ _ (Nat.le_refl _)
theorem comma_show (a : Int) (h : 0 ≤ a) : Lib.replaceAll (showL a) [46] [44] = Lib.itoa (a / 16777216 % 256) ++ ([44] ++ Lib.itoa (a / 65536 % 256) ++ ([44] ++ Lib.itoa (a / 256 % 256) ++ ([44] ++ Lib.itoa (a % 256)))) := by
  rw [replace_dots, showL_app]
  simp only [List.map_append]
  rw [map_no _ (itoa_nodot _ (by omega)), map_no _ (itoa_nodot _ (by omega)), map_no _ (itoa_nodot _ (by omega)), map_no _ (itoa_nodot _ (by omega))]
  rfl
end Go.Proofs.YthnhpbplglmmmaaDoor.Pure
