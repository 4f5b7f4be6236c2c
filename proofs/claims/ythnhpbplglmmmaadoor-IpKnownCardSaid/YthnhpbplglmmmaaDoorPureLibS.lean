/- Plain lemmas: one byte of a row changed, and its sum; a number laid and read. No program in sight. -/
import Derived.Test.YthnhpbplglmmmaaDoorPoctet
import Derived.Test.YthnhpbplglmmmaaDoorPureLib4
namespace Go.Proofs.YthnhpbplglmmmaaDoor.Pure
open Go.RowKit Go.Proofs.YthnhpbplglmmmaaDoor.P Go.Proofs.YthnhpbplglmmmaaDoorW.PrintWords Go.Proofs.YthnhpbplglmmmaaDoorW.PrintLast
set_option linter.unusedVariables false
set_option linter.unusedSimpArgs false
def wt (o : Bool) (i : Nat) : Int := if (i % 2 = 0) = (o = true) then 1 else 256
theorem wsum_set (l : List Int) : ∀ (o : Bool) (i : Nat) (v : Int), i < l.length → wsum o (l.set i v) = wsum o l + wt o i * (v - l.getD i 0) := by
  induction l with
  | nil => intro o i v h; simp at h
  | cons c l ih =>
    intro o i v h
    cases i with
    | zero =>
      simp only [List.set_cons_zero, wsum, List.getD_cons_zero, wt]
      cases o <;> simp <;> omega
    | succ i =>
      simp only [List.set_cons_succ, wsum, List.getD_cons_succ]
      rw [ih (!o) i v (by simpa using h)]
      have : wt (!o) i = wt o (i + 1) := by
        unfold wt
        cases o <;> by_cases hi : i % 2 = 0
        · rw [if_pos (by simp [hi]), if_pos (by simp; omega)]
        · rw [if_neg (by simp; omega), if_neg (by simp; omega)]
        · rw [if_neg (by simp [hi]), if_neg (by simp; omega)]
        · rw [if_pos (by simp; omega), if_pos (by simp; omega)]
      rw [this]
      omega
theorem wsum_zero (l : List Int) : ∀ o, Bytes l → (wsum o l = 0 ↔ ∀ c ∈ l, c = 0) := by
  induction l with
  | nil => intro o _; simp [wsum]
  | cons c l ih =>
    intro o h
    obtain ⟨hc, hl⟩ := h.cons
    have hb := wsum_bound l (!o) hl
    have := ih (!o) hl
    constructor
    · intro hs
      have hc0 : c = 0 := by cases o <;> simp [wsum] at hs hb <;> omega
      have hl0 : wsum (!o) l = 0 := by cases o <;> simp [wsum] at hs hb ⊢ <;> omega
      intro d hd
      rcases List.mem_cons.1 hd with rfl | hd
      · exact hc0
      · exact this.1 hl0 d hd
    · intro hz
      have h1 := this.2 (fun d hd => hz d (by simp [hd]))
      have h2 := hz c (by simp)
      subst h2
      simp only [wsum, h1]
      cases o <;> simp
theorem getD_set (l : List Int) (i j : Nat) (v : Int) (h : i < l.length) : (l.set i v).getD j 0 = if i = j then v else l.getD j 0 := by
  by_cases hij : i = j
  · subst hij; simp [h]
  · rw [if_neg hij]; simp [List.getElem?_set, hij]
theorem getD_set' (l : List Int) (i j : Nat) (v : Int) (h : i < l.length) : (l.set i v).getD j 0 = if i = j then v else l.getD j 0 := by
  by_cases hij : i = j
  · subst hij; simp [h]
  · rw [if_neg hij]; simp [hij]
theorem lay_get (a : Nat) : ∀ (n : Nat) (l : List Int) (x : Int) (i : Nat), a + n ≤ l.length → a + n ≤ i → (lay l a n x).getD i 0 = l.getD i 0
  | 0, _, _, _, _, _ => rfl
  | n + 1, l, x, i, h, hi => by
    rw [lay, lay_get a n _ _ i (by simp; omega) (by omega), getD_set' _ _ _ _ (by omega), if_neg (by omega)]
theorem lay_bytes (a : Nat) : ∀ (n : Nat) (l : List Int) (x : Int), Bytes l → Bytes (lay l a n x)
  | 0, _, _, h => h
  | n + 1, l, x, h => by
    rw [lay]
    refine lay_bytes a n _ _ (fun c hc => ?_)
    rcases List.mem_or_eq_of_mem_set hc with h2 | rfl
    · exact h c h2
    · omega
theorem lay_read (a : Nat) : ∀ (n : Nat) (l : List Int) (x : Int), a + n ≤ l.length → beVal 0 (((lay l a n x).take (a + n)).drop a) = x % 256 ^ n
  | 0, l, x, h => by
    rw [List.drop_of_length_le (by simp; omega)]
    simp [beVal, Int.emod_one]
  | n + 1, l, x, h => by
    have hl := lay_length a (n + 1) l x
    have e : ((lay l a (n + 1) x).take (a + (n + 1))).drop a = ((lay l a (n + 1) x).take (a + n)).drop a ++ [(lay l a (n + 1) x).getD (a + n) 0] := by
      rw [show a + (n + 1) = (a + n) + 1 by omega, List.take_succ_eq_append_getElem (by omega), List.drop_append_of_le_length (by simp; omega)]
      simp [hl, show a + n < l.length by omega]
    rw [e]
    have e2 : (lay l a (n + 1) x).getD (a + n) 0 = x % 256 := by
      rw [lay, lay_get a n _ _ _ (by simp; omega) (by omega), getD_set' _ _ _ _ (by omega), if_pos rfl]
    rw [e2]
    have ih := lay_read a n (l.set (a + n) (x % 256)) (x / 256) (by simp; omega)
    have hf : beVal 0 (((lay l a (n + 1) x).take (a + n)).drop a ++ [x % 256]) = beVal 0 (((lay l a (n + 1) x).take (a + n)).drop a) * 256 + x % 256 := by
      unfold beVal; rw [List.foldl_append]; rfl
    rw [hf]
    rw [lay, ih]
    have hp : (256 : Int) ^ (n + 1) = 256 ^ n * 256 := Int.pow_succ ..
    have hq : (0 : Int) < 256 ^ n := Int.pow_pos (by decide)
    rw [hp, Int.mul_comm (256 ^ n) 256]
    have := Int.emod_def x (256 * 256 ^ n)
    have h3 := Int.emod_def (x / 256) (256 ^ n)
    rw [Int.ediv_ediv, if_neg (fun h => by omega), Int.sub_zero] at h3
    rw [this, h3, Int.sub_mul, Int.mul_assoc 256]
    have h4 : 256 ^ n * (x / (256 * 256 ^ n)) * 256 = 256 * (256 ^ n * (x / (256 * 256 ^ n))) := Int.mul_comm ..
    rw [h4]
    omega
theorem get_two (l : List Int) (a : Nat) (hb : Bytes l) (h : a + 2 ≤ l.length) : octet_Get.f l a 2 = some (l.getD a 0 * 256 + l.getD (a + 1) 0, true) := by
  unfold octet_Get.f
  rw [if_pos (by omega), show ((a : Int) + 2).toNat = a + 2 by omega, Int.toNat_natCast]
  have e : (l.take (a + 2)).drop a = [l.getD a 0, l.getD (a + 1) 0] := by
    rw [drop_rd _ a (by simp; omega), drop_rd _ (a + 1) (by simp; omega), List.drop_of_length_le (by simp; omega), rd_getD, rd_getD]
    simp [List.getD, List.getElem?_take]
  rw [e]
  have g : ∀ q, q < l.length → 0 ≤ l.getD q 0 ∧ l.getD q 0 < 256 := fun q hq => by
    have : l.getD q 0 = l[q] := by simp [hq]
    rw [this]; exact hb _ (List.getElem_mem hq)
  have := (be_val [l.getD a 0, l.getD (a + 1) 0] 0 (by
    intro c hc
    simp only [List.mem_cons, List.not_mem_nil, or_false] at hc
    rcases hc with rfl | rfl
    · exact g _ (by omega)
    · exact g _ (by omega)) (by omega) (by simp)).1
  rw [this]
  simp [beVal]
end Go.Proofs.YthnhpbplglmmmaaDoor.Pure
