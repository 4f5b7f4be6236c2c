/- Plain lemmas on icmp and its reference: both build the same bytes and read the same message. No program in sight. -/
import Derived.Test.YtdppnkgblklmmaaPureLib5
import Derived.Test.YtdppnkgblklmmaaPbailiwicklaw5
import Derived.Test.YtdppnkgblklmmaaPbailiwickref3B
import Derived.Test.YtdppnkgblklmmaaPicmp
namespace Go.Proofs.Ytdppnkgblklmmaa.Pure
open Go.RowKit Go.Proofs.Ytdppnkgblklmmaa.P Go.Proofs.YtdppnkgblklmmaaW.PrintWords Go.Proofs.YtdppnkgblklmmaaW.PrintLast Go.Proofs.YtdppnkgblklmmaaW.PrintMore
set_option linter.unusedVariables false
set_option linter.unusedSimpArgs false
theorem awake5 (m : Nat) (h : 40 ≤ m) : bailiwicklaw5_awake.f m = some true :=
  up bailiwicklaw5_awake.mono 40 (by decide +kernel) m h
def iMsg (t c r : Int) (d : List Int) : List Int := [t % 256, c % 256, 0, 0, r / 16777216 % 256, r / 65536 % 256, r / 256 % 256, r % 256] ++ d
def iBytes (t c r : Int) (d : List Int) : List Int := ((iMsg t c r d).set 2 ((65535 - sumOf (iMsg t c r d)) / 256 % 256)).set 3 ((65535 - sumOf (iMsg t c r d)) % 256)
def iBuild (t c r : Int) (d : List Int) : List Int × Int := if 0 ≤ t ∧ t ≤ 255 ∧ 0 ≤ c ∧ c ≤ 255 then (if (d.length : Int) > 2020 then ([], 3) else (iBytes t c r d, 0)) else ([], 1)
theorem iMsg_len (t c r : Int) (d : List Int) : (iMsg t c r d).length = d.length + 8 := by simp [iMsg]
theorem iMsg_bytes (t c r : Int) (d : List Int) (h : Bytes d) : Bytes (iMsg t c r d) := by
  intro x hx
  unfold iMsg at hx
  rcases List.mem_append.1 hx with hx | hx
  · simp only [List.mem_cons, List.not_mem_nil, or_false] at hx
    rcases hx with rfl | rfl | rfl | rfl | rfl | rfl | rfl | rfl <;> omega
  · exact h x hx
theorem iBuild_to (t c r : Int) (d : List Int) (hb : Bytes d) (hd : d.length ≤ 5000) (k : Nat) (hk : 1 ≤ k) : icmp_Build.f k t c r d = some (iBuild t c r d) := by
  obtain ⟨k, rfl⟩ : ∃ q, k = q + 1 := ⟨k - 1, by omega⟩
  unfold icmp_Build.f iBuild
  by_cases h1 : t < 0
  · rw [if_pos h1, if_neg (by omega), icmp_Build.j0, if_pos rfl]
  by_cases h2 : t > 255
  · rw [if_neg h1, if_pos h2, if_neg (by omega), icmp_Build.j0, if_pos rfl]
  by_cases h3 : c < 0
  · rw [if_neg h1, if_neg h2, if_pos h3, if_neg (by omega), icmp_Build.j0, if_pos rfl]
  rw [if_neg h1, if_neg h2, if_neg h3]
  by_cases h4 : c > 255
  · rw [if_neg (by omega), icmp_Build.j0, if_pos (by simpa using h4)]
  rw [if_pos (by omega), icmp_Build.j0, if_neg (by simpa using h4)]
  by_cases h5 : (d.length : Int) > 2020
  · rw [if_pos h5, if_pos h5]
  rw [if_neg h5, if_neg h5]
  have e : ([t % 256, c % 256, 0, 0, r / 16777216 % 256, r / 65536 % 256, r / 256 % 256, r % 256] : List Int) ++ d = iMsg t c r d := rfl
  rw [Option.bind_some, if_pos (by simp; omega), Option.bind_some, e, check_one _ (iMsg_bytes t c r d hb) (by rw [iMsg_len]; omega), Option.bind_some, if_pos (by rw [iMsg_len]; omega), if_pos (by rw [iMsg_len]; omega)]
  rfl
theorem refBuild_loop (t c r : Int) (d : List Int) (hd : d.length ≤ 5000) (hb : Bytes d) (rem : Nat) : ∀ (k j : Nat), j + rem = d.length → rem + 5100 ≤ k →
    bailiwickref3_BuildWord.l0 k (iMsg t c r (d.take j)) j t c r d = some (iBytes t c r d, 0) := by
  induction rem with
  | zero =>
    intro k j h hk
    obtain ⟨k, rfl⟩ : ∃ q, k = q + 1 := ⟨k - 1, by omega⟩
    rw [bailiwickref3_BuildWord.l0, if_neg (by omega), List.take_of_length_le (by omega), one_to _ (iMsg_bytes t c r d hb) (by rw [iMsg_len]; omega) k (by rw [iMsg_len]; omega), Option.bind_some,
      if_pos (by rw [iMsg_len]; omega), if_pos (by rw [iMsg_len]; omega)]
    have := sumOf_bound (iMsg t c r d)
    rw [w64 (by omega) (by omega)]
    rfl
  | succ rem ih =>
    intro k j h hk
    obtain ⟨k, rfl⟩ : ∃ q, k = q + 1 := ⟨k - 1, by omega⟩
    rw [bailiwickref3_BuildWord.l0, if_pos (by omega), if_pos (by omega), if_pos (by rw [iMsg_len]; simp; omega), show wrap64 ((j : Int) + 1) = ((j + 1 : Nat) : Int) by rw [w64 (by omega) (by omega)]; simp]
    have e : iMsg t c r (d.take j) ++ [rd d (j : Int)] = iMsg t c r (d.take (j + 1)) := by
      unfold iMsg
      rw [List.append_assoc, List.take_succ_eq_append_getElem (by omega : j < d.length), rd_nat d j (by omega)]
    rw [e]
    exact ih k (j + 1) (by omega) (by omega)
theorem refBuildWord_to (t c r : Int) (d : List Int) (hb : Bytes d) (hd : d.length ≤ 5000) (hr0 : 0 ≤ r) (hr1 : r < 4294967296) (k : Nat) (hk : 11000 ≤ k) : bailiwickref3_BuildWord.f k t c r d = some (iBuild t c r d) := by
  obtain ⟨k, rfl⟩ : ∃ q, k = q + 1 := ⟨k - 1, by omega⟩
  unfold bailiwickref3_BuildWord.f iBuild bailiwickref3_in.f
  have tail : 0 ≤ t ∧ t ≤ 255 ∧ 0 ≤ c ∧ c ≤ 255 → ∀ b : Bool, b = false → bailiwickref3_BuildWord.j0 (k + 1) b t c r d = some (if (d.length : Int) > 2020 then (([] : List Int), (3 : Int)) else (iBytes t c r d, 0)) := by
    rintro hr b rfl
    rw [bailiwickref3_BuildWord.j0, if_neg (by decide)]
    by_cases h5 : (d.length : Int) > 2020
    · rw [if_pos h5, if_pos h5]
    have ew : IntKind.u64.wrap r = r := by rw [wrap_u64, Int.emod_eq_of_lt (by omega) (by omega)]
    rw [if_neg h5, if_neg h5, ew, refLay4 _ _ (by simp) k (by omega), Option.bind_some]
    have := refBuild_loop t c r d hd hb d.length k 0 (by omega) (by omega)
    simp only [List.take_zero] at this
    exact this
  by_cases h1 : t ≥ 0
  · rw [if_pos h1, Option.bind_some]
    by_cases h2 : t ≤ 255
    · rw [if_pos (decide_eq_true h2)]
      by_cases h3 : c ≥ 0
      · rw [if_pos h3, Option.bind_some]
        by_cases h4 : c ≤ 255
        · rw [if_pos (by omega), tail (by omega) _ (by simpa using h4)]
        · rw [if_neg (by omega), bailiwickref3_BuildWord.j0, if_pos (by simpa using h4)]
      · rw [if_neg h3, Option.bind_some, if_neg (by omega), bailiwickref3_BuildWord.j0, if_pos (by decide)]
    · rw [if_neg (by simpa using h2), if_neg (by omega), bailiwickref3_BuildWord.j0, if_pos rfl]
  · rw [if_neg h1, Option.bind_some, if_neg (by decide), if_neg (by omega), bailiwickref3_BuildWord.j0, if_pos rfl]
def iParse (l : List Int) : Int × Int × Int × List Int × Int := if (l.length : Int) < 8 then (0, 0, 0, [], 2) else (if sumOf l = 65535 then (rd l 0, rd l 1, four l 4, l.drop 8, 0) else (0, 0, 0, [], 5))
theorem iParse_to (l : List Int) (hb : Bytes l) (hl : l.length ≤ 100000) : icmp_Parse.f l = some (iParse l) := by
  unfold icmp_Parse.f iParse
  by_cases h : (l.length : Int) < 8
  · rw [if_pos h, if_pos h]
  rw [if_neg h, if_neg h, sum_one l hb (by omega), Option.bind_some]
  by_cases hs : sumOf l = 65535
  · have g0 := hb.get 0 (by omega)
    have g1 := hb.get 1 (by omega)
    have gf := get4_to l 4 hb (by omega)
    rw [show ((4 : Nat) : Int) = 4 from rfl] at gf
    rw [show ((0 : Nat) : Int) = 0 from rfl] at g0
    rw [show ((1 : Nat) : Int) = 1 from rfl] at g1
    have gb := four_bound l 4 hb (by omega)
    rw [if_pos hs, if_pos hs, gf, Option.bind_some, if_pos (by omega), if_pos (by omega), if_pos (by omega), if_pos (by simp; omega), w64 (by omega) (by omega), w64 (by omega) (by omega)]
    simp only [List.nil_append]
    rw [Int.emod_eq_of_lt gb.1 gb.2]
  · rw [if_neg hs, if_neg hs]
theorem refWord_to (l : List Int) (hb : Bytes l) (hl : l.length ≤ 100000) (k : Nat) (hk : 100100 ≤ k) : bailiwickref3_Word.f k l = some (iParse l) := by
  unfold bailiwickref3_Word.f iParse
  by_cases h : (l.length : Int) < 8
  · rw [if_pos h, if_pos h]
  rw [if_neg h, if_neg h, one_to l hb (by omega) k (by omega), Option.bind_some]
  by_cases hs : sumOf l = 65535
  · have g0 := hb.get 0 (by omega)
    have g1 := hb.get 1 (by omega)
    have gf := long_to l 4 hb (by omega) (by omega)
    have gp := part_to l 8 l.length (by omega) (by omega) (by omega) k (by omega)
    rw [show ((4 : Nat) : Int) = 4 from rfl] at gf
    rw [show ((8 : Nat) : Int) = 8 from rfl, List.take_of_length_le (Nat.le_refl _)] at gp
    rw [show ((0 : Nat) : Int) = 0 from rfl] at g0
    rw [show ((1 : Nat) : Int) = 1 from rfl] at g1
    rw [if_pos hs, if_pos hs, if_pos (by omega), if_pos (by omega), gf, Option.bind_some, gp, Option.bind_some, w64 (by omega) (by omega), w64 (by omega) (by omega)]
  · rw [if_neg hs, if_neg hs]
theorem sameWord_to (t c r : Int) (d : List Int) (hd : d.length ≤ 1000000) (k : Nat) (hk : 1000001 ≤ k) : bailiwickref3_SameWord.f k t c r d t c r d = some true := by
  unfold bailiwickref3_SameWord.f
  rw [if_pos rfl, if_pos rfl, if_pos rfl, same_to d (by omega) k (by omega)]
  rfl
end Go.Proofs.Ytdppnkgblklmmaa.Pure
