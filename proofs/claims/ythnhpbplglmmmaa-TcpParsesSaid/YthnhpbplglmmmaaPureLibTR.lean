/- Plain lemmas on the reference for tcp. No program in sight. -/
import Derived.Test.YthnhpbplglmmmaaPureLibT
import Derived.Test.YthnhpbplglmmmaaPureLibUR
import Derived.Test.YthnhpbplglmmmaaPbailiwickref3B
import Derived.Test.YthnhpbplglmmmaaPbailiwickref3
namespace Go.Proofs.Ythnhpbplglmmmaa.Pure
open Go.RowKit Go.Proofs.Ythnhpbplglmmmaa.P Go.Proofs.YthnhpbplglmmmaaW.PrintWords Go.Proofs.YthnhpbplglmmmaaW.PrintLast Go.Proofs.YthnhpbplglmmmaaW.PrintMore
set_option linter.unusedVariables false
set_option linter.unusedSimpArgs false
theorem refPiece_l1 (s d sp dp seq ack fl wi ur : Int) (opts data : List Int) (hs : 0 ≤ s ∧ s < 4294967296) (hd : 0 ≤ d ∧ d < 4294967296) (ho : Bytes opts) (hb : Bytes data) (hol : opts.length ≤ 40) (hl : data.length ≤ 2008) (rem : Nat) : ∀ (k j : Nat), j + rem = data.length → rem + 5100 ≤ k →
    bailiwickref3_BuildPiece.l1 k s d (tHead sp dp seq ack opts.length fl wi 0 ur ++ opts ++ data.take j) j sp dp seq ack fl wi ur opts data = some (tBytes s d sp dp seq ack fl wi ur opts data, 0) := by
  induction rem with
  | zero =>
    intro k j h hk
    obtain ⟨k, rfl⟩ : ∃ q, k = q + 1 := ⟨k - 1, by omega⟩
    rw [bailiwickref3_BuildPiece.l1, if_neg (by omega), List.take_of_length_le (by omega)]
    have e : tHead sp dp seq ack opts.length fl wi 0 ur ++ opts ++ data = tMsg sp dp seq ack fl wi ur 0 opts data := rfl
    have hB := (pseudo_bytes s d 6 ((tMsg sp dp seq ack fl wi ur 0 opts data).length : Int)).append (tMsg_bytes sp dp seq ack fl wi ur 0 opts data ho hb)
    have hsb := sumOf_bound (pseudo s d 6 ((tMsg sp dp seq ack fl wi ur 0 opts data).length : Int) ++ tMsg sp dp seq ack fl wi ur 0 opts data)
    have hlen := tMsg_len sp dp seq ack fl wi ur 0 opts data
    rw [e, refPseudo_to s d 6 _ hs hd k (by omega), Option.bind_some, refSum_to _ (by simp) (by rw [two_flat]; exact hB) (by rw [two_flat, List.length_append, tMsg_len]; simp [pseudo]; omega) k (by simp [cost, tMsg_len, pseudo]; omega), two_flat, Option.bind_some,
      w64 (by omega) (by omega), if_pos (by omega), if_pos (by omega)]
    rfl
  | succ rem ih =>
    intro k j h hk
    obtain ⟨k, rfl⟩ : ∃ q, k = q + 1 := ⟨k - 1, by omega⟩
    rw [bailiwickref3_BuildPiece.l1, if_pos (by omega), if_pos (by omega), if_pos (by rw [List.length_append, List.length_append, tHead_len]; simp; omega), show wrap64 ((j : Int) + 1) = ((j + 1 : Nat) : Int) by rw [w64 (by omega) (by omega)]; simp]
    have e : tHead sp dp seq ack opts.length fl wi 0 ur ++ opts ++ data.take j ++ [rd data (j : Int)] = tHead sp dp seq ack opts.length fl wi 0 ur ++ opts ++ data.take (j + 1) := by
      rw [List.append_assoc _ _ [_], List.take_succ_eq_append_getElem (by omega : j < data.length), rd_nat data j (by omega)]
    rw [e]
    exact ih k (j + 1) (by omega) (by omega)
theorem refPiece_l0 (s d sp dp seq ack fl wi ur : Int) (opts data : List Int) (hs : 0 ≤ s ∧ s < 4294967296) (hd : 0 ≤ d ∧ d < 4294967296) (ho : Bytes opts) (hb : Bytes data) (hol : opts.length ≤ 40) (hl : data.length ≤ 2008) (rem : Nat) : ∀ (k j : Nat), j + rem = opts.length → rem + 7200 ≤ k →
    bailiwickref3_BuildPiece.l0 k s d (tHead sp dp seq ack opts.length fl wi 0 ur ++ opts.take j) j sp dp seq ack fl wi ur opts data = some (tBytes s d sp dp seq ack fl wi ur opts data, 0) := by
  induction rem with
  | zero =>
    intro k j h hk
    obtain ⟨k, rfl⟩ : ∃ q, k = q + 1 := ⟨k - 1, by omega⟩
    rw [bailiwickref3_BuildPiece.l0, if_neg (by omega), List.take_of_length_le (by omega)]
    have := refPiece_l1 s d sp dp seq ack fl wi ur opts data hs hd ho hb hol hl data.length k 0 (by omega) (by omega)
    simp only [List.take_zero, List.append_nil] at this
    exact this
  | succ rem ih =>
    intro k j h hk
    obtain ⟨k, rfl⟩ : ∃ q, k = q + 1 := ⟨k - 1, by omega⟩
    rw [bailiwickref3_BuildPiece.l0, if_pos (by omega), if_pos (by omega), if_pos (by rw [List.length_append, tHead_len]; simp; omega), show wrap64 ((j : Int) + 1) = ((j + 1 : Nat) : Int) by rw [w64 (by omega) (by omega)]; simp]
    have e : tHead sp dp seq ack opts.length fl wi 0 ur ++ opts.take j ++ [rd opts (j : Int)] = tHead sp dp seq ack opts.length fl wi 0 ur ++ opts.take (j + 1) := by
      rw [List.append_assoc, List.take_succ_eq_append_getElem (by omega : j < opts.length), rd_nat opts j (by omega)]
    rw [e]
    exact ih k (j + 1) (by omega) (by omega)
theorem refIn_to (x m : Int) : bailiwickref3_in.f x m = some (decide (0 ≤ x ∧ x ≤ m)) := by
  unfold bailiwickref3_in.f
  by_cases h : x ≥ 0
  · rw [if_pos h]
    congr 1
    rw [decide_eq_decide]
    omega
  · rw [if_neg h, decide_eq_false (by omega)]
theorem refBuildPiece_to (s d sp dp seq ack fl wi ur : Int) (opts data : List Int) (hs : 0 ≤ s ∧ s < 4294967296) (hd : 0 ≤ d ∧ d < 4294967296) (hseq : 0 ≤ seq ∧ seq < 4294967296) (hack : 0 ≤ ack ∧ ack < 4294967296) (ho : Bytes opts) (hb : Bytes data) (hol : opts.length ≤ 5000) (hl : data.length ≤ 5000) (k : Nat) (hk : 12000 ≤ k) :
    bailiwickref3_BuildPiece.f k s d sp dp seq ack fl wi ur opts data = some (tBuild s d sp dp seq ack fl wi ur opts data) := by
  obtain ⟨k, rfl⟩ : ∃ q, k = q + 1 := ⟨k - 1, by omega⟩
  have bad : ¬ tOk sp dp fl wi ur opts → bailiwickref3_BuildPiece.j0 (k + 1) s d true sp dp seq ack fl wi ur opts data = some (tBuild s d sp dp seq ack fl wi ur opts data) := by
    intro h
    unfold tBuild
    rw [bailiwickref3_BuildPiece.j0, if_pos rfl, if_neg h]
  have good : tOk sp dp fl wi ur opts → ∀ b, b = false → bailiwickref3_BuildPiece.j0 (k + 1) s d b sp dp seq ack fl wi ur opts data = some (tBuild s d sp dp seq ack fl wi ur opts data) := by
    rintro h b rfl
    have h4 : opts.length ≤ 40 := h.2.2.2.2.2.1
    unfold tBuild
    rw [bailiwickref3_BuildPiece.j0, if_neg (by decide), if_pos h, w64 (x := 20 + (opts.length : Int)) (by omega) (by omega), w64 (by omega) (by omega)]
    by_cases h5 : (data.length : Int) > 2008 - (opts.length : Int)
    · rw [if_pos (by omega), if_pos h5]
    have es : IntKind.u64.wrap sp = sp := by rw [wrap_u64, Int.emod_eq_of_lt (by have := h.1; omega) (by have := h.1; omega)]
    have ed : IntKind.u64.wrap dp = dp := by rw [wrap_u64, Int.emod_eq_of_lt (by have := h.2.1; omega) (by have := h.2.1; omega)]
    have eq' : IntKind.u64.wrap seq = seq := by rw [wrap_u64, Int.emod_eq_of_lt (by omega) (by omega)]
    have ea : IntKind.u64.wrap ack = ack := by rw [wrap_u64, Int.emod_eq_of_lt (by omega) (by omega)]
    have ew : IntKind.u64.wrap wi = wi := by rw [wrap_u64, Int.emod_eq_of_lt (by have := h.2.2.1; omega) (by have := h.2.2.1; omega)]
    have eu : IntKind.u64.wrap ur = ur := by rw [wrap_u64, Int.emod_eq_of_lt (by have := h.2.2.2.1; omega) (by have := h.2.2.2.1; omega)]
    rw [if_neg (by omega), if_neg h5, es, ed, eq', ea, ew, eu, refLay2 _ _ (by simp) k (by omega), Option.bind_some, refLay2 _ _ (by simp) k (by omega), Option.bind_some, refLay4 _ _ (by simp) k (by omega), Option.bind_some, refLay4 _ _ (by simp) k (by omega), Option.bind_some, Option.bind_some, if_pos (by simp), refLay2 _ _ (by simp) k (by omega), Option.bind_some, Option.bind_some, if_pos (by simp), refLay2 _ _ (by simp) k (by omega), Option.bind_some]
    rw [Int.tdiv_eq_ediv_of_nonneg (by omega), w64 (x := (20 + (opts.length : Int)) / 4) (by omega) (by omega)]
    have e12 : (20 + (opts.length : Int)) / 4 % 256 * 16 % 256 = (20 + (opts.length : Int)) / 4 * 16 % 256 := by omega
    rw [e12]
    have := refPiece_l0 s d sp dp seq ack fl wi ur opts data hs hd ho hb h4 (by omega) opts.length k 0 (by omega) (by omega)
    simp only [List.take_zero, List.append_nil] at this
    exact this
  unfold bailiwickref3_BuildPiece.f
  rw [refIn_to, Option.bind_some]
  by_cases h1 : 0 ≤ sp ∧ sp ≤ 65535
  case neg => rw [if_neg (by simpa using h1), bad (fun h => h1 h.1)]
  rw [if_pos (decide_eq_true h1), refIn_to, Option.bind_some]
  by_cases h2 : 0 ≤ dp ∧ dp ≤ 65535
  case neg => rw [if_neg (by simpa using h2), bad (fun h => h2 h.2.1)]
  rw [if_pos (decide_eq_true h2), refIn_to, Option.bind_some]
  by_cases h3 : 0 ≤ wi ∧ wi ≤ 65535
  case neg => rw [if_neg (by simpa using h3), bad (fun h => h3 h.2.2.1)]
  rw [if_pos (decide_eq_true h3), refIn_to, Option.bind_some]
  by_cases h4 : 0 ≤ ur ∧ ur ≤ 65535
  case neg => rw [if_neg (by simpa using h4), bad (fun h => h4 h.2.2.2.1)]
  rw [if_pos (decide_eq_true h4), refIn_to, Option.bind_some]
  by_cases h5 : 0 ≤ fl ∧ fl ≤ 255
  case neg => rw [if_neg (by simpa using h5), bad (fun h => h5 h.2.2.2.2.1)]
  rw [if_pos (decide_eq_true h5)]
  by_cases h6 : (opts.length : Int) > 40
  · rw [if_pos h6, bad (fun h => by have := h.2.2.2.2.2.1; omega)]
  rw [if_neg h6]
  by_cases h7 : (opts.length : Int) % 4 = 0
  · rw [good ⟨h1, h2, h3, h4, h5, by omega, by omega⟩ _ (by rw [h7]; rfl)]
  · rw [show ((opts.length : Int) % 4 != 0) = true from bne_iff_ne.2 h7, bad (fun h => by have := h.2.2.2.2.2.2; omega)]
theorem refPiece_to (s d : Int) (l : List Int) (hs : 0 ≤ s ∧ s < 4294967296) (hd : 0 ≤ d ∧ d < 4294967296) (hb : Bytes l) (hl : l.length ≤ 1000000) (k : Nat) (hk : 1000100 ≤ k) : bailiwickref3_Piece.f k s d l = some (tParse s d l) := by
  obtain ⟨k, rfl⟩ : ∃ q, k = q + 1 := ⟨k - 1, by omega⟩
  unfold bailiwickref3_Piece.f tParse
  by_cases h : (l.length : Int) < 20
  · rw [if_pos h, if_pos h]
  have b12 := hb.get 12 (by omega)
  have b13 := hb.get 13 (by omega)
  rw [show ((12 : Nat) : Int) = 12 from rfl] at b12
  rw [show ((13 : Nat) : Int) = 13 from rfl] at b13
  have ew : wrap64 (wrap64 (rd l 12 / 16) * 4) = rd l 12 / 16 * 4 := by rw [w64 (x := rd l 12 / 16) (by omega) (by omega), w64 (by omega) (by omega)]
  have ea : Go.bits .and .u8 (rd l 12) 15 = rd l 12 % 16 := by
    have := and_mask .u8 4 (by decide) (rd l 12)
    rw [show ((2 : Int) ^ 4 - 1) = 15 by decide, show ((2 : Int) ^ 4) = 16 by decide] at this
    rw [this, IntKind.wrap_u8]
    omega
  rw [if_neg h, if_neg h, if_pos (by omega), ew, ea]
  by_cases h1 : rd l 12 / 16 * 4 < 20
  · rw [if_pos h1, if_pos (.inl h1), bailiwickref3_Piece.j0, if_pos rfl]
  by_cases h2 : rd l 12 % 16 ≠ 0
  · rw [if_neg h1, if_pos (.inr h2), bailiwickref3_Piece.j0, if_pos (bne_iff_ne.2 h2)]
  rw [if_neg h1, if_neg (show ¬ (rd l 12 / 16 * 4 < 20 ∨ rd l 12 % 16 ≠ 0) by omega), bailiwickref3_Piece.j0, if_neg (by rw [bne_iff_ne]; exact h2)]
  by_cases h3 : rd l 12 / 16 * 4 > (l.length : Int)
  · rw [if_pos h3, if_pos h3]
  have hB := (pseudo_bytes s d 6 (l.length : Int)).append hb
  rw [if_neg h3, if_neg h3, refPseudo_to s d 6 _ hs hd k (by omega), Option.bind_some, refSum_to _ (by simp) (by rw [two_flat]; exact hB) (by rw [two_flat, List.length_append]; simp [pseudo]; omega) k (by simp [cost, pseudo]; omega), two_flat, Option.bind_some]
  unfold tSum
  by_cases hq : sumOf (pseudo s d 6 (l.length : Int) ++ l) = 65535
  · have g0 := word_to l 0 hb (by omega) (by omega)
    have g2 := word_to l 2 hb (by omega) (by omega)
    have g4 := long_to l 4 hb (by omega) (by omega)
    have g8 := long_to l 8 hb (by omega) (by omega)
    have g14 := word_to l 14 hb (by omega) (by omega)
    have g18 := word_to l 18 hb (by omega) (by omega)
    rw [show ((0 : Nat) : Int) = 0 from rfl] at g0
    rw [show ((2 : Nat) : Int) = 2 from rfl] at g2
    rw [show ((4 : Nat) : Int) = 4 from rfl] at g4
    rw [show ((8 : Nat) : Int) = 8 from rfl] at g8
    rw [show ((14 : Nat) : Int) = 14 from rfl] at g14
    rw [show ((18 : Nat) : Int) = 18 from rfl] at g18
    have p1 := part_to l 20 (rd l 12 / 16 * 4).toNat (by omega) (by omega) (by omega) k (by omega)
    have p2 := part_to l (rd l 12 / 16 * 4).toNat l.length (by omega) (by omega) (by omega) k (by omega)
    rw [show ((20 : Nat) : Int) = 20 from rfl, Int.toNat_of_nonneg (by omega)] at p1
    rw [Int.toNat_of_nonneg (by omega), List.take_length] at p2
    rw [if_pos hq, if_pos hq, g0, Option.bind_some, g2, Option.bind_some, g4, Option.bind_some, g8, Option.bind_some, if_pos (by omega), g14, Option.bind_some, g18, Option.bind_some, p1, Option.bind_some, p2, Option.bind_some, w64 (by omega) (by omega)]
  · rw [if_neg hq, if_neg hq]
end Go.Proofs.Ythnhpbplglmmmaa.Pure
