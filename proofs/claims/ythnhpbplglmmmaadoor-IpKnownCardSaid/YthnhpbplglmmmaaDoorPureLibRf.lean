/- What the document's own reader of an address answers: plain. No statement of its own. -/
import Derived.Test.YthnhpbplglmmmaaDoorPbailiwickref2
import Derived.Test.YthnhpbplglmmmaaDoorPureLibRd
import Derived.Test.YthnhpbplglmmmaaDoorPureLibRe
namespace Go.Proofs.YthnhpbplglmmmaaDoor.Pure
open Go.RowKit Go.Proofs.YthnhpbplglmmmaaDoor.P Go.Proofs.YthnhpbplglmmmaaDoorW.PrintWords Go.Proofs.YthnhpbplglmmmaaDoorW.PrintLast Go.Proofs.YthnhpbplglmmmaaDoorW.PrintMore
set_option linter.unusedVariables false
set_option linter.unusedSimpArgs false
/-- the end of the reader's loop -/
def rdEnd (s : ByteArray) : Option (Int × Int × Int) → Int × Bool
  | none => (0, false)
  | some (a, p, n) => if n = 3 then (if (s.size : Int) > 15 then (0, false) else if toS (showL (a * 256 % 4294967296 + p)) = s then (a * 256 % 4294967296 + p, true) else (0, false)) else (0, false)
theorem bt_list (s : ByteArray) (i : Nat) (h : i < s.size) : ∃ c : UInt8, bt s (i : Int) = (c.toNat : Int) ∧ s.data.toList.drop i = c :: s.data.toList.drop (i + 1) := by
  have h' : i < s.data.toList.length := by
    rw [Array.length_toList]
    exact h
  refine ⟨s.data.toList[i], ?_, List.drop_eq_getElem_cons h'⟩
  rw [← bt_at s (i : Int) (by simpa using h)]
  rfl
theorem or_part2 (a p : Int) (ha : 0 ≤ a ∧ a < 4294967296) (hp : 0 ≤ p ∧ p ≤ 255) : Go.bits .or .u32 (a * 256 % 4294967296) (p % 4294967296) = a * 256 % 4294967296 + p := by
  rw [show p % 4294967296 = p by omega]
  exact or_part a p hp
theorem rd_end (k : Nat) (hk : 10 ≤ k) (s : ByteArray) (a p n i : Int) (ha : 0 ≤ a ∧ a < 4294967296) (hp : 0 ≤ p ∧ p ≤ 255) : bailiwickref2_Read.j1 k s a p n i false = some (rdEnd s (some (a, p, n))) := by
  obtain ⟨k, rfl⟩ : ∃ q, k = q + 1 := ⟨k - 1, by omega⟩
  rw [bailiwickref2_Read.j1, if_neg (by decide), or_part2 a p ha hp]
  simp only [rdEnd]
  by_cases h3 : n = 3
  · rw [if_pos h3, if_pos h3]
    by_cases h15 : (s.size : Int) > 15
    · rw [if_pos h15, if_pos h15]
    · rw [if_neg h15, if_neg h15, show_to k (by omega) _ (by omega), Option.bind_some]
      by_cases h : toS (showL (a * 256 % 4294967296 + p)) = s
      · rw [if_pos (by rw [h]), if_pos h]
      · rw [if_neg (fun e => h (toList_inj e)), if_neg h]
  · rw [if_neg h3, if_neg h3]
theorem rd_loop : ∀ (d k i : Nat) (s : ByteArray) (a p n : Int), i + d = 16 → 3 * d + 20 ≤ k → i ≤ s.size → s.size ≤ 100000 → (0 ≤ a ∧ a < 4294967296) → (0 ≤ p ∧ p ≤ 255) → (0 ≤ n ∧ n ≤ 16 - (d : Int)) →
    bailiwickref2_Read.l0 k s a p n (i : Int) = some (rdEnd s (rda ((s.data.toList.drop i).take d) a p n)) := by
  intro d
  induction d with
  | zero =>
    intro k i s a p n hd hk hi hs ha hp hn
    obtain ⟨k, rfl⟩ : ∃ q, k = q + 1 := ⟨k - 1, by omega⟩
    rw [bailiwickref2_Read.l0, List.take_zero, rda, show decide ((i : Int) < 16) = false from decide_eq_false (by omega)]
    split
    · exact rd_end k (by omega) s a p n _ ha hp
    · exact rd_end k (by omega) s a p n _ ha hp
  | succ d ih =>
    intro k i s a p n hd hk hi hs ha hp hn
    obtain ⟨k, rfl⟩ : ∃ q, k = q + 1 := ⟨k - 1, by omega⟩
    by_cases hlt : i < s.size
    · obtain ⟨c, hbt, hdr⟩ := bt_list s i hlt
      have hc := c.toNat_lt
      rw [bailiwickref2_Read.l0, if_pos (by omega), show decide ((i : Int) < 16) = true from decide_eq_true (by omega), hdr, List.take_succ_cons]
      obtain ⟨k, rfl⟩ : ∃ q, k = q + 1 := ⟨k - 1, by omega⟩
      rw [bailiwickref2_Read.j1, if_pos rfl, if_pos (by omega), if_pos (by omega), hbt, rda]
      have ei : wrap64 ((i : Int) + 1) = ((i + 1 : Nat) : Int) := by unfold wrap64; omega
      by_cases h46 : c.toNat = 46
      · rw [if_pos (by omega), if_pos h46, or_part2 a p ha hp, ei, show wrap64 (n + 1) = n + 1 by unfold wrap64; omega]
        exact ih k (i + 1) s _ _ _ (by omega) (by omega) (by omega) hs (by omega) (by omega) (by omega)
      · rw [if_neg (by omega), if_neg h46]
        obtain ⟨k, rfl⟩ : ∃ q, k = q + 1 := ⟨k - 1, by omega⟩
        by_cases h48 : c.toNat < 48
        · rw [if_pos (by omega), if_pos (Or.inl h48), bailiwickref2_Read.j2, if_pos rfl]
          rfl
        · rw [if_neg (by omega)]
          by_cases h57 : 57 < c.toNat
          · rw [if_pos (Or.inr h57), show decide ((c.toNat : Int) > 57) = true from decide_eq_true (by omega), bailiwickref2_Read.j2, if_pos rfl]
            rfl
          · have ev : wrap64 (wrap64 (p * 10) + ((c.toNat : Int) - 48) % 256) = p * 10 + ((c.toNat : Int) - 48) := by unfold wrap64; omega
            rw [if_neg (by omega), show decide ((c.toNat : Int) > 57) = false from decide_eq_false (by omega), bailiwickref2_Read.j2, if_neg (by decide), if_pos (by omega), if_pos (by omega), hbt, ev, ei]
            by_cases h255 : 255 < p * 10 + ((c.toNat : Int) - 48)
            · rw [if_pos (by omega), if_pos h255]
              rfl
            · rw [if_neg (by omega), if_neg h255]
              exact ih k (i + 1) s _ _ _ (by omega) (by omega) (by omega) hs ha (by omega) (by omega)
    · have e : i = s.size := by omega
      rw [bailiwickref2_Read.l0, if_neg (by omega), List.drop_of_length_le (by rw [Array.length_toList]; show s.size ≤ i; omega), List.take_nil, rda]
      exact rd_end k (by omega) s a p n _ ha hp
/-- what the document's reader answers -/
def rreadL (s : ByteArray) : Int × Bool := rdEnd s (rda (s.data.toList.take 16) 0 0 0)
theorem rread_to (s : ByteArray) (hs : s.size ≤ 100000) : bailiwickref2_Read.f 80 s = some (rreadL s) := by
  unfold bailiwickref2_Read.f rreadL
  have h := rd_loop 16 80 0 s 0 0 0 (by omega) (by omega) (by omega) hs (by decide) (by decide) (by decide)
  rw [List.drop_zero] at h
  exact h
theorem rread_show (a : Int) (h : 0 ≤ a ∧ a < 4294967296) : rreadL (toS (showL a)) = (a, true) := by
  have hl := show_len a
  have e : (toS (showL a)).data.toList.take 16 = showL a := by
    rw [show (toS (showL a)).data.toList = showL a by simp [toS]]
    exact List.take_of_length_le (by omega)
  unfold rreadL
  rw [e, rda_show a h]
  have e2 : a / 256 * 256 % 4294967296 + a % 256 = a := by omega
  have e3 : ¬ ((toS (showL a)).size : Int) > 15 := by rw [toS_size]; omega
  rw [rdEnd, e2]
  rw [if_neg e3, if_pos rfl]
  exact if_pos rfl
theorem rread_cases (s : ByteArray) : (∃ a, (0 ≤ a ∧ a < 4294967296) ∧ rreadL s = (a, true) ∧ toS (showL a) = s) ∨ rreadL s = (0, false) := by
  unfold rreadL
  cases hr : rda (s.data.toList.take 16) 0 0 0 with
  | none => exact Or.inr rfl
  | some r =>
    obtain ⟨a, p, n⟩ := r
    have hg := rda_range _ _ _ _ (by decide) (by decide) hr
    simp only [rdEnd]
    split
    · split
      · exact Or.inr rfl
      · split
        · refine Or.inl ⟨_, by omega, rfl, by assumption⟩
        · exact Or.inr rfl
    · exact Or.inr rfl
theorem show_inj {a b : Int} (ha : 0 ≤ a ∧ a < 4294967296) (hb : 0 ≤ b ∧ b < 4294967296) (h : toS (showL a) = toS (showL b)) : a = b := by
  have h1 := read_show a ha
  rw [h, read_show b hb] at h1
  exact (congrArg Prod.fst h1).symm
/-- both readers answer the same -/
theorem reads_same (s : ByteArray) : readL s = rreadL s := by
  rcases rread_cases s with ⟨a, ha, h1, h2⟩ | h1
  · rw [h1, ← h2, read_show a ha]
  · rcases read_cases s with ⟨b, h3, h4⟩ | h3
    · have hb := read_range s
      rw [h3] at hb
      rw [← h4, rread_show b hb] at h1
      exact Bool.noConfusion (congrArg Prod.snd h1)
    · rw [h1, h3]
end Go.Proofs.YthnhpbplglmmmaaDoor.Pure
