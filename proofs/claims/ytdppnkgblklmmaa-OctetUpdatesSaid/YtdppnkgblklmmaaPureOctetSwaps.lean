/- OctetSwaps: with two words changed about the sum of any bytes stays; with the bytes of all words turned round it is turned round itself. No condition. -/
import Derived.Test.YtdppnkgblklmmaaPureLib3
import Derived.Test.YtdppnkgblklmmaaPbailiwicklaw1OctetSwaps
namespace Go.Proofs.Ytdppnkgblklmmaa.Pure
open Go.RowKit Go.Proofs.Ytdppnkgblklmmaa.P Go.Proofs.YtdppnkgblklmmaaW.PrintWords Go.Proofs.YtdppnkgblklmmaaW.PrintLast
set_option linter.unusedVariables false
set_option linter.unusedSimpArgs false
def wt (o : Bool) (i : Nat) : Int := if (i % 2 = 0) = (o = true) then 1 else 256
theorem wsum_set (l : List Int) : ∀ (o : Bool) (i : Nat) (v : Int), i < l.length → wsum o (l.set i v) = wsum o l + wt o i * (v - l.getD i 0) := by
  induction l with
  | nil => intro o i v h; simp at h
  | cons c l ih =>
    intro o i v h
    cases i with
    | zero =>
      simp only [List.set_cons_zero, wsum, List.getD_cons_zero, wt]
      cases o <;> simp <;> omega
    | succ i =>
      simp only [List.set_cons_succ, wsum, List.getD_cons_succ]
      rw [ih (!o) i v (by simpa using h)]
      have : wt (!o) i = wt o (i + 1) := by
        unfold wt
        cases o <;> by_cases hi : i % 2 = 0
        · rw [if_pos (by simp [hi]), if_pos (by simp; omega)]
        · rw [if_neg (by simp; omega), if_neg (by simp; omega)]
        · rw [if_neg (by simp [hi]), if_neg (by simp; omega)]
        · rw [if_pos (by simp; omega), if_pos (by simp; omega)]
      rw [this]
      omega
theorem wsum_flip (l : List Int) (h : l.length % 2 = 0) : ∀ (d : List Int), d.length = l.length → (∀ j, 2 * j + 1 < l.length → d.getD (2 * j) 0 = l.getD (2 * j + 1) 0 ∧ d.getD (2 * j + 1) 0 = l.getD (2 * j) 0) → ∃ q, wsum false d = 256 * wsum false l - 65535 * q := by
  match l with
  | [] =>
    intro d hd _
    match d, hd with
    | [], _ => exact ⟨0, by simp [wsum]⟩
  | [a] => simp at h
  | a :: b :: l =>
    intro d hd hj
    match d, hd with
    | x :: y :: d, hd =>
      have h0 := hj 0 (by simp)
      simp at h0
      obtain ⟨rfl, rfl⟩ := h0
      obtain ⟨q, hq⟩ := wsum_flip l (by simp at h; omega) d (by simpa using hd) (fun j hjl => by
        have := hj (j + 1) (by simp; omega)
        simpa [Nat.mul_add] using this)
      refine ⟨q + y, ?_⟩
      simp only [wsum, Bool.not_false, Bool.not_true, if_true, Bool.false_eq_true, if_false, hq]
      omega
termination_by l.length
theorem or_comm_ (k : IntKind) (a b : Int) : Go.bits .or k a b = Go.bits .or k b a := by
  simp only [Go.bits, BitVec.or_comm]
theorem and_255 (x : Int) : Go.bits .and .i64 x 255 = x % 256 := by
  have h := and_mask .i64 8 (by decide) x
  rw [show ((2 : Int) ^ 8 - 1) = 255 from rfl, show ((2 : Int) ^ 8) = 256 from rfl] at h
  rw [h, IntKind.wrap_i64]
  omega
theorem or_i64 (x y : Int) (hx : 0 ≤ x) (hx1 : x < 65536) (hxm : x % 256 = 0) (hy : 0 ≤ y) (hy1 : y < 256) : Go.bits .or .i64 y x = x + y := by
  rw [or_comm_]
  exact bits_join .i64 63 (by decide) (fun n h0 h1 => by rw [IntKind.wrap_i64]; omega) 8 x y hx (by simpa using hxm) (by omega) hy (by omega) (by omega)
theorem turned_round (s q : Int) (h0 : 0 ≤ s) (h1 : 0 ≤ 256 * s - 65535 * q) (hz : s = 0 ↔ 256 * s - 65535 * q = 0) : fold16 (256 * s - 65535 * q) = (fold16 s % 256) * 256 + fold16 s / 256 := by
  unfold fold16
  by_cases h : s = 0
  · rw [if_pos (hz.1 h), if_pos h]; rfl
  · rw [if_neg (fun e => h (hz.2 e)), if_neg h]
    omega
theorem wsum_zero (l : List Int) : ∀ o, Bytes l → (wsum o l = 0 ↔ ∀ c ∈ l, c = 0) := by
  induction l with
  | nil => intro o _; simp [wsum]
  | cons c l ih =>
    intro o h
    obtain ⟨hc, hl⟩ := h.cons
    have hb := wsum_bound l (!o) hl
    have := ih (!o) hl
    constructor
    · intro hs
      have hc0 : c = 0 := by cases o <;> simp [wsum] at hs hb <;> omega
      have hl0 : wsum (!o) l = 0 := by cases o <;> simp [wsum] at hs hb ⊢ <;> omega
      intro d hd
      rcases List.mem_cons.1 hd with rfl | hd
      · exact hc0
      · exact this.1 hl0 d hd
    · intro hz
      have h1 := this.2 (fun d hd => hz d (by simp [hd]))
      have h2 := hz c (by simp)
      subst h2
      simp only [wsum, h1]
      cases o <;> simp
/-- d is l with the bytes of all words turned round. -/
def Turned (l d : List Int) : Prop := d.length = l.length ∧ ∀ j, 2 * j + 1 < l.length → d.getD (2 * j) 0 = l.getD (2 * j + 1) 0 ∧ d.getD (2 * j + 1) 0 = l.getD (2 * j) 0
theorem Turned.bytes {l d : List Int} (h : Turned l d) (he : l.length % 2 = 0) (hb : Bytes l) : Bytes d := by
  intro c hc
  obtain ⟨i, hi, rfl⟩ := List.getElem_of_mem hc
  have hil : i < l.length := h.1 ▸ hi
  have e : d[i] = d.getD i 0 := by simp [hi]
  have get : ∀ q, q < l.length → 0 ≤ l.getD q 0 ∧ l.getD q 0 < 256 := fun q hq => by
    have : l.getD q 0 = l[q] := by simp [hq]
    rw [this]; exact hb _ (List.getElem_mem hq)
  rw [e]
  by_cases hp : i % 2 = 0
  · have := (h.2 (i / 2) (by omega)).1
    rw [show 2 * (i / 2) = i by omega] at this
    rw [this]; exact get _ (by omega)
  · have := (h.2 (i / 2) (by omega)).2
    rw [show 2 * (i / 2) + 1 = i by omega] at this
    rw [this]; exact get _ (by omega)
theorem Turned.sum {l d : List Int} (h : Turned l d) (he : l.length % 2 = 0) (hb : Bytes l) : sumOf d = (sumOf l % 256) * 256 + sumOf l / 256 := by
  obtain ⟨q, hq⟩ := wsum_flip l he d h.1 h.2
  have hd := h.bytes he hb
  unfold sumOf
  rw [hq]
  have b1 := wsum_bound l false hb
  have b2 := wsum_bound d false hd
  refine turned_round _ _ b1.1 (by omega) ?_
  rw [← hq, wsum_zero l false hb, wsum_zero d false hd]
  constructor
  · intro hz c hc
    obtain ⟨i, hi, rfl⟩ := List.getElem_of_mem hc
    have hil : i < l.length := h.1 ▸ hi
    have e : d[i] = d.getD i 0 := by simp [hi]
    have get : ∀ q, q < l.length → l.getD q 0 = 0 := fun q hq => by simp [hq]; exact hz _ (List.getElem_mem hq)
    rw [e]
    by_cases hp : i % 2 = 0
    · have := (h.2 (i / 2) (by omega)).1
      rw [show 2 * (i / 2) = i by omega] at this
      rw [this]; exact get _ (by omega)
    · have := (h.2 (i / 2) (by omega)).2
      rw [show 2 * (i / 2) + 1 = i by omega] at this
      rw [this]; exact get _ (by omega)
  · intro hz c hc
    obtain ⟨i, hi, rfl⟩ := List.getElem_of_mem hc
    have e : l[i] = l.getD i 0 := by simp [hi]
    have get : ∀ q, q < l.length → d.getD q 0 = 0 := fun q hq => by
      have hq' : q < d.length := h.1.symm ▸ hq
      simp [hq']; exact hz _ (List.getElem_mem hq')
    rw [e]
    by_cases hp : i % 2 = 0
    · have := (h.2 (i / 2) (by omega)).2
      rw [show 2 * (i / 2) = i by omega] at this
      rw [← this]; exact get _ (by omega)
    · have := (h.2 (i / 2) (by omega)).1
      rw [show 2 * (i / 2) + 1 = i by omega] at this
      rw [← this]; exact get _ (by omega)
theorem getD_set (l : List Int) (i j : Nat) (v : Int) (h : i < l.length) : (l.set i v).getD j 0 = if i = j then v else l.getD j 0 := by
  by_cases hij : i = j
  · subst hij; simp [h]
  · rw [if_neg hij]; simp [List.getElem?_set, hij]
theorem swaps_loop (l x8 : List Int) (hl : l.length ≤ 100000) (he : l.length % 2 = 0) (hb : Bytes l) (hb8 : Bytes x8) (hl8 : x8.length = l.length) (hs : sumOf x8 = sumOf l) (rem : Nat) : ∀ (k j : Nat) (m : List Int), j + rem = l.length / 2 → m.length = l.length →
    (∀ q, q < j → m.getD (2 * q) 0 = l.getD (2 * q + 1) 0 ∧ m.getD (2 * q + 1) 0 = l.getD (2 * q) 0) → (∀ q, 2 * j ≤ q → m.getD q 0 = l.getD q 0) → rem < k → bailiwicklaw1_OctetSwaps.l0 k l x8 m ((2 * j : Nat) : Int) = some true := by
  induction rem with
  | zero =>
    intro k j m h hm h1 h2 hk
    obtain ⟨k, rfl⟩ : ∃ q, k = q + 1 := ⟨k - 1, by omega⟩
    have ht : Turned l m := ⟨hm, fun q hq => h1 q (by omega)⟩
    have hsb := sumOf_bound l
    rw [bailiwicklaw1_OctetSwaps.l0, if_neg (by omega), sum_one l hb (by omega), sum_one x8 hb8 (by omega), sum_one m (ht.bytes he hb) (by omega), ht.sum he hb, hs]
    simp only [Option.bind_some, if_true]
    rw [and_255, w64 (by omega) (by omega), or_i64 _ _ (by omega) (by omega) (by omega) (by omega) (by omega)]
    simp
  | succ rem ih =>
    intro k j m h hm h1 h2 hk
    obtain ⟨k, rfl⟩ : ∃ q, k = q + 1 := ⟨k - 1, by omega⟩
    have e1 : wrap64 (((2 * j : Nat) : Int) + 1) = ((2 * j + 1 : Nat) : Int) := by rw [w64 (by omega) (by omega)]; simp
    have e2 : wrap64 (((2 * j : Nat) : Int) + 2) = ((2 * (j + 1) : Nat) : Int) := by rw [w64 (by omega) (by omega)]; omega
    rw [bailiwicklaw1_OctetSwaps.l0, e1, e2, if_pos (by omega), if_pos (by omega), if_pos (by omega), if_pos (by omega)]
    simp only [Int.toNat_natCast]
    have r0 : rd m ((2 * j : Nat) : Int) = l.getD (2 * j) 0 := by rw [← h2 (2 * j) (by omega), rd_getD]
    have r1 : rd m ((2 * j + 1 : Nat) : Int) = l.getD (2 * j + 1) 0 := by rw [← h2 (2 * j + 1) (by omega), rd_getD]
    rw [r0, r1]
    refine ih k (j + 1) _ (by omega) (by simp [hm]) ?_ ?_ (by omega)
    · intro q hq
      rw [getD_set _ _ _ _ (by simp; omega), getD_set _ _ _ _ (by omega), getD_set _ _ _ _ (by simp; omega), getD_set _ _ _ _ (by omega)]
      by_cases hqj : q = j
      · subst hqj
        rw [if_neg (by omega), if_pos rfl, if_pos rfl]
        exact ⟨rfl, rfl⟩
      · rw [if_neg (by omega), if_neg (by omega), if_neg (by omega), if_neg (by omega)]
        exact h1 q (by omega)
    · intro q hq
      rw [getD_set _ _ _ _ (by simp; omega), getD_set _ _ _ _ (by omega), if_neg (by omega), if_neg (by omega)]
      exact h2 q (by omega)
theorem place_of (a : Int) (n : Nat) (hn : 0 < n) (hn2 : n ≤ 50000) (_h0 : -9223372036854775808 ≤ a) (_h1 : a ≤ 9223372036854775807) : ∃ p : Nat, p < n ∧ wrap64 ((Int.tmod (wrap64 ((Int.tmod a (n : Int)) + (n : Int))) (n : Int)) * 2) = ((2 * p : Nat) : Int) := by
  have h1 := Int.tmod_lt_of_pos a (by omega : (0 : Int) < n)
  have h2 : -(n : Int) < Int.tmod a n := by
    rw [Int.tmod_eq_emod]
    have := Int.emod_nonneg a (by omega : (n : Int) ≠ 0)
    split <;> omega
  rw [w64 (x := Int.tmod a n + n) (by omega) (by omega)]
  have h3 := Int.tmod_nonneg (n : Int) (by omega : 0 ≤ Int.tmod a n + n)
  have h4 := Int.tmod_lt_of_pos (Int.tmod a n + n) (by omega : (0 : Int) < n)
  refine ⟨(Int.tmod (Int.tmod a n + n) n).toNat, by omega, ?_⟩
  rw [w64 (by omega) (by omega)]
  omega
theorem swap_sum (l : List Int) (p q : Nat) (hb : Bytes l) (hp : 2 * p + 1 < l.length) (hq : 2 * q + 1 < l.length) :
    Bytes ((((l.set (2 * p) (l.getD (2 * q) 0)).set (2 * p + 1) (l.getD (2 * q + 1) 0)).set (2 * q) (l.getD (2 * p) 0)).set (2 * q + 1) (l.getD (2 * p + 1) 0)) ∧
    sumOf ((((l.set (2 * p) (l.getD (2 * q) 0)).set (2 * p + 1) (l.getD (2 * q + 1) 0)).set (2 * q) (l.getD (2 * p) 0)).set (2 * q + 1) (l.getD (2 * p + 1) 0)) = sumOf l := by
  have get : ∀ q, q < l.length → 0 ≤ l.getD q 0 ∧ l.getD q 0 < 256 := fun q hq => by
    have : l.getD q 0 = l[q] := by simp [hq]
    rw [this]; exact hb _ (List.getElem_mem hq)
  have hset : ∀ (m : List Int) (i : Nat) (v : Int), Bytes m → 0 ≤ v ∧ v < 256 → Bytes (m.set i v) := fun m i v hm hv c hc => by
    rcases List.mem_or_eq_of_mem_set hc with h | rfl
    · exact hm c h
    · exact hv
  refine ⟨hset _ _ _ (hset _ _ _ (hset _ _ _ (hset _ _ _ hb (get _ (by omega))) (get _ (by omega))) (get _ (by omega))) (get _ (by omega)), ?_⟩
  unfold sumOf
  congr 1
  have w0 : ∀ i, wt false (2 * i) = 256 := fun i => by unfold wt; rw [if_neg (by simp)]
  have w1 : ∀ i, wt false (2 * i + 1) = 1 := fun i => by unfold wt; rw [if_pos (by first | (simp; done) | (simp; omega))]
  have l1 : (l.set (2 * p) (l.getD (2 * q) 0)).length = l.length := by simp
  have l2 : ((l.set (2 * p) (l.getD (2 * q) 0)).set (2 * p + 1) (l.getD (2 * q + 1) 0)).length = l.length := by simp
  have l3 : (((l.set (2 * p) (l.getD (2 * q) 0)).set (2 * p + 1) (l.getD (2 * q + 1) 0)).set (2 * q) (l.getD (2 * p) 0)).length = l.length := by simp
  have g1 : (l.set (2 * p) (l.getD (2 * q) 0)).getD (2 * p + 1) 0 = l.getD (2 * p + 1) 0 := by rw [getD_set _ _ _ _ (by omega), if_neg (by omega)]
  have g2 : ((l.set (2 * p) (l.getD (2 * q) 0)).set (2 * p + 1) (l.getD (2 * q + 1) 0)).getD (2 * q) 0 = l.getD (2 * q) 0 := by
    rw [getD_set _ _ _ _ (by omega), if_neg (by omega), getD_set _ _ _ _ (by omega)]
    split <;> rfl
  have g3 : (((l.set (2 * p) (l.getD (2 * q) 0)).set (2 * p + 1) (l.getD (2 * q + 1) 0)).set (2 * q) (l.getD (2 * p) 0)).getD (2 * q + 1) 0 = l.getD (2 * q + 1) 0 := by
    rw [getD_set _ _ _ _ (by omega), if_neg (by omega), getD_set _ _ _ _ (by omega)]
    split
    · rfl
    · rw [getD_set _ _ _ _ (by omega), if_neg (by omega)]
  rw [wsum_set _ _ _ _ (by omega), g3, wsum_set _ _ _ _ (by omega), g2, wsum_set _ _ _ _ (by omega), g1, wsum_set _ _ _ _ (by omega), w0, w1, w0, w1]
  omega
theorem OctetSwaps : bailiwicklaw1_OctetSwaps.Pure := by
  intro l a b hl ha hb
  obtain ⟨h1, h2, h3⟩ := hl
  have hB := bytes_of h3
  simp [Lit.wf, IntKind.min, IntKind.max, IntKind.bits, IntKind.signed] at ha hb
  refine ⟨100010, ?_⟩
  unfold bailiwicklaw1_OctetSwaps.f
  rw [awake1]
  simp only [Option.bind_some, if_true]
  by_cases g1 : (l.length : Int) > 100000
  · rw [if_pos g1]; rfl
  rw [if_neg g1]
  by_cases g2 : (l.length : Int) % 2 = 0
  · rw [if_pos g2]
    by_cases g3 : l.length = 0
    · rw [show ((l.length : Int) == 0) = true from beq_iff_eq.2 (by omega)]; rfl
    · rw [show ((l.length : Int) == 0) = false from beq_eq_false_iff_ne.2 (by omega)]
      rw [bailiwicklaw1_OctetSwaps.j0, if_neg (by decide)]
      have e0 : wrap64 ((l.length : Int) / 2) = ((l.length / 2 : Nat) : Int) := by rw [w64 (by omega) (by omega)]; simp
      obtain ⟨p, hp, ep⟩ := place_of a (l.length / 2) (by omega) (by omega) ha.1 ha.2
      obtain ⟨q, hq, eq⟩ := place_of b (l.length / 2) (by omega) (by omega) hb.1 hb.2
      have ep1 : wrap64 (((2 * p : Nat) : Int) + 1) = ((2 * p + 1 : Nat) : Int) := by rw [w64 (by omega) (by omega)]; simp
      have eq1 : wrap64 (((2 * q : Nat) : Int) + 1) = ((2 * q + 1 : Nat) : Int) := by rw [w64 (by omega) (by omega)]; simp
      rw [e0, if_neg (by omega), copy_to l (by omega) _ (by omega)]
      simp only [Option.bind_some]
      rw [ep, eq, ep1, eq1, if_pos (by omega), if_pos (by omega), if_pos (by omega), if_pos (by omega), if_pos (by omega), if_pos (by omega), if_pos (by omega), if_pos (by omega)]
      simp only [Int.toNat_natCast]
      have r : ∀ i : Nat, rd l (i : Int) = l.getD i 0 := fun i => rd_getD l i
      rw [r, r, r, r]
      obtain ⟨s1, s2⟩ := swap_sum l p q hB (by omega) (by omega)
      exact swaps_loop l _ (by omega) (by omega) hB s1 (by simp) s2 (l.length / 2) _ 0 l (by omega) rfl (fun q hq => by omega) (fun q _ => rfl) (by omega)
  · rw [if_neg g2]; rfl
end Go.Proofs.Ytdppnkgblklmmaa.Pure
