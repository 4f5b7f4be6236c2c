/- Plain lemmas: the document's rows of numbers, ends, brackets. No statement of its own. -/
import Derived.Test.YtnbanjbhjjhkdaaDoorPbailiwickref23
import Derived.Test.YtnbanjbhjjhkdaaDoorPureLibLR
namespace Go.Proofs.YtnbanjbhjjhkdaaDoor.Pure
open Go.RowKit Go.Proofs.YtnbanjbhjjhkdaaDoor.P Go.Proofs.YtnbanjbhjjhkdaaDoorW.PrintWords Go.Proofs.YtnbanjbhjjhkdaaDoorW.PrintLast
set_option linter.unusedVariables false
set_option linter.unusedSimpArgs false
def rowP (l : List Int) (c : Int) : Nat → Bool → List Int → Nat → Option (List Int × Nat)
  | 0, _, acc, k => some (acc, k)
  | n + 1, first, acc, k => match (if first = true then some k else if lineAt l k = c ∧ k < l.length then some (k + 1) else none) with
    | none => none
    | some k1 => match lineNumber l k1 3 255 with
      | none => none
      | some (v, k2) => rowP l c n false (acc ++ [v]) k2
theorem rowP_no (l : List Int) (c : Int) (n : Nat) (f : Bool) (acc : List Int) (k : Nat) (h : (if f = true then some k else if lineAt l k = c ∧ k < l.length then some (k + 1) else none) = none) : rowP l c (n + 1) f acc k = none := by
  show (match (if f = true then some k else if lineAt l k = c ∧ k < l.length then some (k + 1) else none) with
    | none => none
    | some k1 => match lineNumber l k1 3 255 with
      | none => none
      | some (v, k2) => rowP l c n false (acc ++ [v]) k2) = none
  rw [h]
theorem rowP_num (l : List Int) (c : Int) (n : Nat) (f : Bool) (acc : List Int) (k k1 : Nat) (h : (if f = true then some k else if lineAt l k = c ∧ k < l.length then some (k + 1) else none) = some k1) : rowP l c (n + 1) f acc k = match lineNumber l k1 3 255 with
      | none => none
      | some (v, k2) => rowP l c n false (acc ++ [v]) k2 := by
  show (match (if f = true then some k else if lineAt l k = c ∧ k < l.length then some (k + 1) else none) with
    | none => none
    | some k1 => match lineNumber l k1 3 255 with
      | none => none
      | some (v, k2) => rowP l c n false (acc ++ [v]) k2) = _
  rw [h]
def rowO : Option (List Int × Nat) → List Int × Int
  | some (acc, k) => (acc, (k : Int))
  | none => ([], -1)
/-- What stands behind a number in the document's loop. -/
theorem row_num (l : List Int) (hl : l.length ≤ 100000) (c : Int) (n : Nat) (k : Nat) (hk : 2 * l.length + 4 ≤ k) (k1 : Nat) (hk1 : k1 ≤ l.length) (acc : List Int) (hacc : acc.length ≤ 100) (X : Int → List Int → Option (List Int × Int))
    (hX : ∀ v k2, lineNumber l k1 3 255 = some (v, k2) → X (k2 : Int) (acc ++ [v]) = some (rowO (rowP l c n false (acc ++ [v]) k2))) :
    ((bailiwickref23_number.f k l k1 3).bind fun bt => (if bt.2 < 0 then (some (([] : List Int), (-1))) else (if bt.1 > 255 then (some (([] : List Int), (-1))) else (if acc.length < 17592186044416 then X bt.2 (acc ++ [bt.1]) else (none))))) = some (rowO (match lineNumber l k1 3 255 with
      | none => none
      | some (v, k2) => rowP l c n false (acc ++ [v]) k2)) := by
  have hn := number_to l (by omega) k1 3 (by omega) hk1 k hk
  have hok := number_ok l k1 3 255 (by omega)
  rw [show ((3 : Nat) : Int) = 3 from rfl] at hn
  rw [hn, Option.bind_some]
  generalize numP 3 k1 (lineNum 3 (l.drop k1) 0 0) = r at *
  obtain ⟨v, x⟩ := r
  simp only at hok ⊢
  by_cases h1 : x < 0
  · rw [if_pos h1] at hok
    rw [if_pos h1, hok]
    rfl
  · rw [if_neg h1] at hok
    rw [if_neg h1]
    by_cases h2 : v > 255
    · rw [if_pos h2] at hok
      rw [if_pos h2, hok]
      rfl
    · rw [if_neg h2] at hok
      rw [if_neg h2, if_pos (by omega), hok]
      have := hX v x.toNat hok
      rw [Int.toNat_of_nonneg (by omega)] at this
      exact this
theorem row_loop (l : List Int) (hl : l.length ≤ 100000) (c : Int) (many : Nat) (hm : many ≤ 10) (n : Nat) : ∀ (k i : Nat) (acc : List Int) (at_ : Nat), i + n = many → acc.length = i → at_ ≤ l.length → 2 * l.length + 6 + 2 * n ≤ k →
    bailiwickref23_row.l0 k l at_ many c acc i = some (rowO (rowP l c n (decide (i = 0)) acc at_)) := by
  induction n with
  | zero =>
    intro k i acc a hi hacc ha hk
    obtain ⟨k, rfl⟩ : ∃ q, k = q + 1 := ⟨k - 1, by omega⟩
    simp only [bailiwickref23_row.l0]
    rw [if_neg (by omega)]
    rfl
  | succ n ih =>
    intro k i acc a hi hacc ha hk
    obtain ⟨k, rfl⟩ : ∃ q, k = q + 2 := ⟨k - 2, by omega⟩
    have hstep : ∀ (K : Nat), 2 * l.length + 6 + 2 * n ≤ K → ∀ k1 v k2, k1 ≤ l.length → lineNumber l k1 3 255 = some (v, k2) → bailiwickref23_row.l0 K l (k2 : Int) many c (acc ++ [v]) (wrap64 ((i : Int) + 1)) = some (rowO (rowP l c n false (acc ++ [v]) k2)) := fun K hK k1 v k2 hk1 hv => by
      have h := ih K (i + 1) (acc ++ [v]) k2 (by omega) (by simp [hacc]) (number_len hk1 hv).2 hK
      rw [show decide (i + 1 = 0) = false from by simp] at h
      rw [lw64 (by omega) (by omega)]
      exact h
    simp only [bailiwickref23_row.l0]
    rw [if_pos (by omega)]
    by_cases h0 : i = 0
    · rw [if_neg (by omega), rowP_num l c n (decide (i = 0)) acc a a (by rw [decide_eq_true h0]; rfl)]
      exact row_num l hl c n (k + 1) (by omega) a ha acc (by omega) (fun x y => bailiwickref23_row.l0 (k + 1) l x many c y (wrap64 ((i : Int) + 1))) (fun v k2 hv => hstep (k + 1) (by omega) a v k2 ha hv)
    · rw [if_pos (by omega), decide_eq_false h0]
      have hno : lineAt l a ≠ c ∨ l.length ≤ a → rowP l c (n + 1) false acc a = none := fun hh => rowP_no l c n false acc a (by rw [if_neg (by simp), if_neg (fun hq => hh.elim (fun e => e hq.1) (fun e => by omega))])
      by_cases h1 : (a : Int) ≥ (l.length : Int)
      · rw [if_pos h1, hno (.inr (by omega))]
        simp only [bailiwickref23_row.j1]
        rw [if_pos trivial]
        rfl
      · rw [if_neg h1, if_pos (by omega), if_pos (by omega), lrd]
        simp only [bailiwickref23_row.j1]
        by_cases h2 : lineAt l a = c
        · rw [show (lineAt l a != c) = false from by rw [h2]; simp, if_neg (by simp), rowP_num l c n false acc a (a + 1) (by rw [if_neg (by simp), if_pos ⟨h2, by omega⟩]), lw64 (x := (a : Int) + 1) (by omega) (by omega), show (a : Int) + 1 = ((a + 1 : Nat) : Int) by omega]
          exact row_num l hl c n k (by omega) (a + 1) (by omega) acc (by omega) (fun x y => bailiwickref23_row.l0 k l x many c y (wrap64 ((i : Int) + 1))) (fun v k2 hv => hstep k (by omega) (a + 1) v k2 (by omega) hv)
        · rw [show (lineAt l a != c) = true from bne_iff_ne.mpr h2, if_pos rfl, hno (.inl h2)]
          rfl
theorem row_to (l : List Int) (hl : l.length ≤ 100000) (c : Int) (many : Nat) (hm : many ≤ 10) (a : Nat) (ha : a ≤ l.length) (k : Nat) (hk : 2 * l.length + 30 ≤ k) : bailiwickref23_row.f k l a many c = some (rowO (rowP l c many true [] a)) := by
  unfold bailiwickref23_row.f
  exact row_loop l hl c many hm many k 0 [] a (by omega) rfl ha (by omega)
def bev (acc : List Int) : Int := acc.foldl (fun x v => x * 256 + v) 0
theorem bev_snoc (acc : List Int) (v : Int) : bev (acc ++ [v]) = bev acc * 256 + v := by unfold bev; rw [List.foldl_append]; rfl
theorem bytes_row (l : List Int) (c : Int) (h1 : ¬ (65 ≤ c ∧ c ≤ 90)) (h2 : ¬ (97 ≤ c ∧ c ≤ 122)) : ∀ (n : Nat) (f : Bool) (acc : List Int) (k : Nat), lineBytes l [c] n f (bev acc) k = (rowP l c n f acc k).map (fun r => (bev r.1, r.2))
  | 0, f, acc, k => rfl
  | n + 1, f, acc, k => by
    rw [lineBytes_step, skip_one l c k h1 h2]
    cases hs : (if f = true then some k else if lineAt l k = c ∧ k < l.length then some (k + 1) else none) with
    | none => rw [rowP_no l c n f acc k hs]; rfl
    | some k1 =>
      rw [rowP_num l c n f acc k k1 hs]
      simp only
      cases hn : lineNumber l k1 3 255 with
      | none => rfl
      | some r =>
        obtain ⟨v, k2⟩ := r
        simp only
        rw [← bev_snoc]
        exact bytes_row l c h1 h2 n false (acc ++ [v]) k2
/-- A row's numbers are bytes, as many as are asked for. -/
theorem row_bytes (l : List Int) (c : Int) : ∀ (n : Nat) (f : Bool) (acc r : List Int) (k k' : Nat), (∀ v ∈ acc, 0 ≤ v ∧ v ≤ 255) → k ≤ l.length → rowP l c n f acc k = some (r, k') → r.length = acc.length + n ∧ (∀ v ∈ r, 0 ≤ v ∧ v ≤ 255) ∧ k ≤ k' ∧ k' ≤ l.length
  | 0, f, acc, r, k, k', ha, hk, h => by
    cases h
    exact ⟨rfl, ha, Nat.le_refl _, hk⟩
  | n + 1, f, acc, r, k, k', ha, hk, h => by
    cases hs : (if f = true then some k else if lineAt l k = c ∧ k < l.length then some (k + 1) else none) with
    | none => rw [rowP_no l c n f acc k hs] at h; cases h
    | some k1 =>
      have hk1 : k ≤ k1 ∧ k1 ≤ l.length := by
        split at hs
        · cases hs; exact ⟨Nat.le_refl _, hk⟩
        · split at hs
          · rename_i hh; cases hs; omega
          · cases hs
      rw [rowP_num l c n f acc k k1 hs] at h
      cases hn : lineNumber l k1 3 255 with
      | none => rw [hn] at h; cases h
      | some q =>
        obtain ⟨v, k2⟩ := q
        rw [hn] at h
        have hl := number_len hk1.2 hn
        have hv : 0 ≤ v ∧ v ≤ 255 := ⟨lineNumber_pos hn, lineNumber_le hn⟩
        have := row_bytes l c n false (acc ++ [v]) r k2 k' (fun y hy => (List.mem_append.mp hy).elim (ha y) (fun h1 => by rw [List.mem_singleton] at h1; subst h1; exact hv)) hl.2 h
        rw [List.length_append, List.length_cons, List.length_nil] at this
        exact ⟨by omega, this.2.1, by omega, this.2.2.2⟩
theorem or32L (i : Nat) (x y : Int) (hx0 : 0 ≤ x) (hx : x < 4294967296) (hm : x % 2 ^ i = 0) (hi : i < 32) (hy0 : 0 ≤ y) (hy : y < 2 ^ i) (hs : x + y < 4294967296) : Go.bits .or .u32 x y = x + y := by
  exact bits_join .u32 32 (by decide) (fun n h0 h1 => by simp [IntKind.wrap, IntKind.bits, IntKind.signed]; omega) i x y hx0 hm hx hy0 hy (by simp; omega)
theorem or64L (x y : Int) (h0 : 0 ≤ x) (h1 : x < 256) (hc : 0 ≤ y) (hc1 : y < 256) : Go.bits .or .i64 (wrap64 (x * 256)) y = x * 256 + y := by
  rw [lw64 (by omega) (by omega)]
  exact bits_join .i64 63 (by decide) (fun n h0 h1 => by rw [IntKind.wrap_i64]; omega) 8 (x * 256) y (by omega) (by simp) (by omega) hc (by omega) (by omega)
theorem addr_to (a b c d : Int) (r : List Int) (ha : 0 ≤ a ∧ a ≤ 255) (hb : 0 ≤ b ∧ b ≤ 255) (hc : 0 ≤ c ∧ c ≤ 255) (hd : 0 ≤ d ∧ d ≤ 255) : bailiwickref23_addr.f (a :: b :: c :: d :: r) = some (((a * 256 + b) * 256 + c) * 256 + d) := by
  unfold bailiwickref23_addr.f
  have e0 : rd (a :: b :: c :: d :: r) 0 = a := rfl
  have e1 : rd (a :: b :: c :: d :: r) 1 = b := rfl
  have e2 : rd (a :: b :: c :: d :: r) 2 = c := rfl
  have e3 : rd (a :: b :: c :: d :: r) 3 = d := rfl
  simp only [List.length_cons]
  rw [if_pos (by omega), if_pos (by omega), if_pos (by omega), if_pos (by omega), e0, e1, e2, e3]
  have f0 : a % 4294967296 * 16777216 % 4294967296 = a * 16777216 := by omega
  have f1 : b % 4294967296 * 65536 % 4294967296 = b * 65536 := by omega
  have f2 : c % 4294967296 * 256 % 4294967296 = c * 256 := by omega
  have f3 : d % 4294967296 = d := by omega
  rw [f0, f1, f2, f3, or32L 24 (a * 16777216) (b * 65536) (by omega) (by omega) (by omega) (by omega) (by omega) (by omega) (by omega),
    or32L 16 (a * 16777216 + b * 65536) (c * 256) (by omega) (by omega) (by omega) (by omega) (by omega) (by omega) (by omega),
    or32L 8 (a * 16777216 + b * 65536 + c * 256) d (by omega) (by omega) (by omega) (by omega) (by omega) (by omega) (by omega)]
  congr 1
  omega
theorem len4 (r : List Int) (h : r.length = 4) : ∃ a b c d, r = [a, b, c, d] := by
  match r, h with
  | [a, b, c, d], _ => exact ⟨a, b, c, d, rfl⟩
theorem len6 (r : List Int) (h : r.length = 6) : ∃ a b c d e f, r = [a, b, c, d, e, f] := by
  match r, h with
  | [a, b, c, d, e, f], _ => exact ⟨a, b, c, d, e, f, rfl⟩
def sixO : Option (Int × Int × Nat) → Int × Int × Int
  | some (a, p, k) => (a, p, (k : Int))
  | none => (0, 0, -1)
theorem six_to (l : List Int) (hl : l.length ≤ 100000) (a : Nat) (ha : a ≤ l.length) (k : Nat) (hk : 2 * l.length + 30 ≤ k) : bailiwickref23_six.f k l a = some (sixO (lineSix l a)) := by
  unfold bailiwickref23_six.f lineSix
  have hr := row_to l hl 44 6 (by omega) a ha k hk
  have hb := bytes_row l 44 (by omega) (by omega) 6 true [] a
  rw [show bev [] = 0 from rfl] at hb
  rw [show ((6 : Nat) : Int) = 6 from rfl] at hr
  rw [hr, Option.bind_some, hb]
  cases h : rowP l 44 6 true [] a with
  | none => rfl
  | some q =>
    obtain ⟨r, k'⟩ := q
    obtain ⟨h1, h2, h3⟩ := row_bytes l 44 6 true [] r a k' (by simp) ha h
    obtain ⟨b0, b1, b2, b3, b4, b5, rfl⟩ := len6 r (by simpa using h1)
    have g0 := h2 b0 (by simp)
    have g1 := h2 b1 (by simp)
    have g2 := h2 b2 (by simp)
    have g3 := h2 b3 (by simp)
    have g4 := h2 b4 (by simp)
    have g5 := h2 b5 (by simp)
    have ev : bev [b0, b1, b2, b3, b4, b5] = ((((b0 * 256 + b1) * 256 + b2) * 256 + b3) * 256 + b4) * 256 + b5 := by
      simp [bev]
    show (if ((k' : Nat) : Int) < 0 then (some (0, 0, (-1))) else ((bailiwickref23_addr.f [b0, b1, b2, b3, b4, b5]).bind fun t134 => (if 4 < (([b0, b1, b2, b3, b4, b5] : List Int).length : Int) then (if 5 < (([b0, b1, b2, b3, b4, b5] : List Int).length : Int) then (some (t134, Go.bits .or .i64 (wrap64 ((rd [b0, b1, b2, b3, b4, b5] 4) * 256)) (rd [b0, b1, b2, b3, b4, b5] 5), ((k' : Nat) : Int))) else (none)) else (none)))) = some (bev [b0, b1, b2, b3, b4, b5] / 65536, bev [b0, b1, b2, b3, b4, b5] % 65536, ((k' : Nat) : Int))
    rw [if_neg (by omega), addr_to b0 b1 b2 b3 [b4, b5] g0 g1 g2 g3, Option.bind_some, if_pos (by simp), if_pos (by simp), ev, show rd [b0, b1, b2, b3, b4, b5] 4 = b4 from rfl, show rd [b0, b1, b2, b3, b4, b5] 5 = b5 from rfl, or64L b4 b5 g4.1 (by omega) g5.1 (by omega)]
    congr 2
    · omega
    · congr 1
      omega
theorem six_bound (l : List Int) (a : Nat) (ha : a ≤ l.length) {x p : Int} {k : Nat} (h : lineSix l a = some (x, p, k)) : p < 65536 ∧ k ≤ l.length := by
  unfold lineSix at h
  have hb := bytes_row l 44 (by omega) (by omega) 6 true [] a
  rw [show bev [] = 0 from rfl] at hb
  rw [hb] at h
  cases hr : rowP l 44 6 true [] a with
  | none => rw [hr] at h; cases h
  | some q =>
    obtain ⟨r, k'⟩ := q
    rw [hr] at h
    simp only [Option.map_some, Option.some.injEq, Prod.mk.injEq] at h
    have := row_bytes l 44 6 true [] r a k' (by simp) ha hr
    omega
def openO : Option Nat → Int
  | some k => (k : Int) - 1
  | none => -1
theorem open_loop (l : List Int) (hl : l.length ≤ 100000) (rem : Nat) : ∀ (k i : Nat), i + rem = l.length → rem < k → bailiwickref23_open.l0 k l i = some (openO (lineOpen (l.drop i) i)) := by
  induction rem with
  | zero =>
    intro k i h hk
    obtain ⟨k, rfl⟩ : ∃ q, k = q + 1 := ⟨k - 1, by omega⟩
    simp only [bailiwickref23_open.l0]
    rw [if_neg (by omega), List.drop_of_length_le (by omega)]
    rfl
  | succ rem ih =>
    intro k i h hk
    obtain ⟨k, rfl⟩ : ∃ q, k = q + 1 := ⟨k - 1, by omega⟩
    simp only [bailiwickref23_open.l0]
    rw [if_pos (by omega), if_pos (by omega), lrd, lineOpen_step l i (by omega)]
    by_cases h4 : lineAt l i = 40
    · rw [if_pos h4, if_pos h4]
      simp [openO]
    · rw [if_neg h4, if_neg h4, lw64 (by omega) (by omega)]
      exact ih k (i + 1) (by omega) (by omega)
theorem open_to (l : List Int) (hl : l.length ≤ 100000) (h4 : 4 ≤ l.length) (k : Nat) (hk : l.length < k) : bailiwickref23_open.f k l = some (openO (lineOpen (l.drop 4) 4)) := by
  unfold bailiwickref23_open.f
  exact open_loop l hl (l.length - 4) k 4 (by omega) (by omega)
theorem open_bound : ∀ (l : List Int) (k k' : Nat), lineOpen l k = some k' → k < k' ∧ k' ≤ k + l.length
  | [], k, k', h => by cases h
  | x :: l, k, k', h => by
    unfold lineOpen at h
    split at h
    · cases h
      rw [List.length_cons]
      omega
    · have := open_bound l (k + 1) k' h
      rw [List.length_cons]
      omega
/-- The bracket stands ahead of the place that is told. -/
theorem open_at (l : List Int) : ∀ (n k k' : Nat), l.length - k = n → lineOpen (l.drop k) k = some k' → lineAt l (k' - 1) = 40 ∧ k < k' ∧ k' ≤ l.length
  | 0, k, k', hn, h => by
    rw [List.drop_of_length_le (by omega)] at h
    cases h
  | n + 1, k, k', hn, h => by
    rw [lineOpen_step l k (by omega)] at h
    split at h
    · rename_i h4
      cases h
      exact ⟨h4, by omega, by omega⟩
    · have := open_at l n (k + 1) k' (by omega) h
      exact ⟨this.1, by omega, this.2.2⟩
end Go.Proofs.YtnbanjbhjjhkdaaDoor.Pure
