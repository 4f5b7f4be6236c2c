/- A walk of line.Text over the shelf's contracts. No statement of its own. -/
import Derived.Test.YthnhpbplglmmmaaDoorPureLibTx
namespace Go.Proofs.YthnhpbplglmmmaaDoor.P
open Go.RowKit Go.Proofs.YthnhpbplglmmmaaDoorW.PrintWords Go.Proofs.YthnhpbplglmmmaaDoorW.PrintLast Go.Proofs.YthnhpbplglmmmaaDoorW.PrintMore
set_option linter.unusedVariables false
set_option linter.unusedSimpArgs false
def toS (l : List UInt8) : ByteArray := ⟨l.toArray⟩
theorem toS_app (l m : List UInt8) : toS l ++ toS m = toS (l ++ m) := by
  apply ByteArray.ext
  rw [ByteArray.data_append]
  simp [toS]
def textL (kind a p : Int) : List UInt8 :=
  if p < 1 ∨ p > 65535 then [] else if kind = 1 ∨ kind = 3 then Lib.replaceAll (showL a) [46] [44] ++ [44] ++ Lib.itoa (p / 256) ++ [44] ++ Lib.itoa (p % 256) else if kind = 2 then [124, 49, 124] ++ showL a ++ [124] ++ Lib.itoa p ++ [124] else if kind = 4 then [124, 124, 124] ++ Lib.itoa p ++ [124] else []
def textE (kind p : Int) : Int := if p < 1 ∨ p > 65535 then 1 else if kind = 1 ∨ kind = 3 ∨ kind = 2 ∨ kind = 4 then 0 else 1
theorem dd_len5 (u : Nat) (h : u < 100000) : (Lib.decDigits u).length ≤ 5 := by
  rw [Lib.decDigits]
  split
  · simp
  · rw [List.length_append, Lib.decDigits]
    split
    · simp
    · rw [List.length_append]
      have := dd_len (u / 10 / 10) (by omega)
      simp only [List.length_cons, List.length_nil]
      omega
theorem itoa_len5 (x : Int) (h : 0 ≤ x ∧ x ≤ 65535) : (Lib.itoa x).length ≤ 5 := by
  unfold Lib.itoa
  rw [if_neg (by omega)]
  exact dd_len5 _ (by omega)
def dotC (c : UInt8) : UInt8 := if c = 46 then 44 else c
theorem index_mid (pre post : List UInt8) (h : (46 : UInt8) ∉ pre) : Lib.indexByte (pre ++ 46 :: post) 46 = (pre.length : Int) := by
  induction pre with
  | nil => rfl
  | cons x pre ih =>
    rw [List.mem_cons, not_or] at h
    show (if (x == 46) = true then (0 : Int) else if (Lib.indexByte (pre ++ 46 :: post) 46 == -1) = true then -1 else Lib.indexByte (pre ++ 46 :: post) 46 + 1) = _
    rw [ih h.2, if_neg (by rw [beq_iff_eq]; exact fun e => h.1 e.symm), if_neg (by rw [beq_iff_eq]; omega), List.length_cons]
    omega
theorem map_no (s : List UInt8) (h : (46 : UInt8) ∉ s) : s.map dotC = s := by
  conv => rhs; rw [← List.map_id s]
  refine List.map_congr_left fun x hx => ?_
  show (if x = 46 then 44 else x) = x
  rw [if_neg (fun e => h (by rw [← e]; exact hx))]
theorem replaceK_dots : ∀ (n : Nat) (s : List UInt8), s.length ≤ n → Lib.replaceK [46] [44] (s.count 46) s = s.map dotC
  | n, s, hn => by
    by_cases hm : (46 : UInt8) ∈ s
    · obtain ⟨pre, post, rfl, hp⟩ := List.eq_append_cons_of_mem hm
      have hc : (pre ++ 46 :: post).count 46 = post.count 46 + 1 := by
        rw [List.count_append, List.count_cons_self, List.count_eq_zero.mpr hp]
        omega
      rw [hc, Lib.replaceK_hit [46] [44] _ _ pre.length (by rw [Lib.index_one]; exact index_mid pre post hp)]
      have e1 : (pre ++ 46 :: post).take pre.length = pre := by simp
      have e2 : (pre ++ 46 :: post).drop (pre.length + ([46] : List UInt8).length) = post := by
        rw [← List.drop_drop]
        simp
      rw [List.length_append, List.length_cons] at hn
      match n, hn with
      | n + 1, hn =>
        rw [e1, e2, replaceK_dots n post (by omega), List.map_append, List.map_cons, map_no pre hp]
        simp [dotC]
    · rw [List.count_eq_zero.mpr hm, map_no s hm]
      rfl
theorem replace_dots (s : List UInt8) : Lib.replaceAll s [46] [44] = s.map dotC := by
  unfold Lib.replaceAll Lib.replace
  rw [if_neg (by decide)]
  unfold Lib.replaceNum
  rw [if_pos (.inl (by decide)), Lib.count_one]
  exact replaceK_dots s.length s (Nat.le_refl _)
end Go.Proofs.YthnhpbplglmmmaaDoor.P
