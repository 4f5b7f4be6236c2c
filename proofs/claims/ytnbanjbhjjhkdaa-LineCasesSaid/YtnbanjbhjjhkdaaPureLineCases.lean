/- LineCases: letters of either case tell the same; with anything behind the line's end nothing is told. No condition. -/
import Derived.Test.YtnbanjbhjjhkdaaPline
import Derived.Test.YtnbanjbhjjhkdaaPbailiwickref1
import Derived.Test.YtnbanjbhjjhkdaaPureLibL
import Derived.Test.YtnbanjbhjjhkdaaPbailiwicklaw23LineCases
namespace Go.Proofs.Ytnbanjbhjjhkdaa.Pure
open Go.RowKit Go.Proofs.Ytnbanjbhjjhkdaa.P Go.Proofs.YtnbanjbhjjhkdaaW.PrintWords Go.Proofs.YtnbanjbhjjhkdaaW.PrintLast
set_option linter.unusedVariables false
set_option linter.unusedSimpArgs false
def LBytes (l : List Int) : Prop := ∀ c ∈ l, 0 ≤ c ∧ c ≤ 255
theorem lbytes_of {l : List Int} (h : ∀ a ∈ l, (Lit.int .u8 a).wf = true) : LBytes l := by
  intro c hc
  have := h c hc
  simp [Lit.wf, IntKind.min, IntKind.max, IntKind.bits, IntKind.signed] at this
  omega
theorem lw64 {x : Int} (h0 : -9223372036854775808 ≤ x) (h1 : x ≤ 9223372036854775807) : wrap64 x = x := by
  unfold wrap64
  omega
theorem lrd (l : List Int) (i : Nat) : rd l (i : Int) = lineAt l i := by
  unfold rd lineAt
  rw [Int.toNat_natCast]
theorem ldrop (l : List Int) (i : Nat) (h : i < l.length) : l.drop i = rd l (i : Int) :: l.drop (i + 1) := by
  have e : rd l (i : Int) = l[i] := by simp [rd, h]
  rw [e, List.drop_eq_getElem_cons h]
theorem lcopy_loop (l : List Int) (hl : l.length ≤ 140737488351232) (rem : Nat) : ∀ (k i : Nat) (m : List Int), i + rem = l.length → m.length = i → rem < k → bailiwickref1_Copy.l0 k l m i = some (m ++ l.drop i) := by
  induction rem with
  | zero =>
    intro k i m h hm hk
    obtain ⟨k, rfl⟩ : ∃ q, k = q + 1 := ⟨k - 1, by omega⟩
    simp only [bailiwickref1_Copy.l0]
    rw [if_neg (by omega), List.drop_of_length_le (by omega), List.append_nil]
  | succ rem ih =>
    intro k i m h hm hk
    obtain ⟨k, rfl⟩ : ∃ q, k = q + 1 := ⟨k - 1, by omega⟩
    simp only [bailiwickref1_Copy.l0]
    rw [if_pos (by omega), if_pos (by omega), if_pos (by omega), show wrap64 ((i : Int) + 1) = ((i + 1 : Nat) : Int) by rw [lw64 (by omega) (by omega)]; simp]
    rw [ih k (i + 1) _ (by omega) (by simp [hm]) (by omega), ldrop l i (by omega)]
    simp
theorem lcopy_to (l : List Int) (hl : l.length ≤ 140737488351232) (k : Nat) (hk : l.length < k) : bailiwickref1_Copy.f k l = some l := by
  unfold bailiwickref1_Copy.f
  have := lcopy_loop l hl l.length k 0 [] (by omega) rfl hk
  simpa using this
def findT (l : List Int) : Int × Int × Int × Int × Int × Bool := match lineFind l with
  | some (k, f, t, a, p) => (k, (f : Int), (t : Int), a, p, true)
  | none => (0, 0, 0, 0, 0, false)
theorem find_to {l : List Int} (h : LBytes l) : line_Find.f l = some (findT l) := by
  unfold line_Find.f findT
  rw [if_pos (show ∀ x ∈ l, 0 ≤ x ∧ x ≤ 255 from h)]
  cases lineFind l with
  | none => rfl
  | some r => rfl
theorem lawake : bailiwicklaw23_awake.f = some true := rfl
/-! The letters of the first four. -/
def Letter (x : Int) : Prop := (65 ≤ x ∧ x ≤ 90) ∨ (97 ≤ x ∧ x ≤ 122)
structure Flip (c b : List Int) : Prop where
  len : c.length = b.length
  at_ : ∀ k, lineAt c k = lineAt b k ∨ (k < 4 ∧ Letter (lineAt c k) ∧ Letter (lineAt b k) ∧ lineUp (lineAt c k) = lineUp (lineAt b k))
theorem Flip.refl (b : List Int) : Flip b b := ⟨rfl, fun _ => .inl rfl⟩
theorem Flip.up {c b : List Int} (h : Flip c b) (k : Nat) : lineUp (lineAt c k) = lineUp (lineAt b k) := by
  rcases h.at_ k with h | h
  · rw [h]
  · exact h.2.2.2
theorem Flip.drop {c b : List Int} (h : Flip c b) (k : Nat) (hk : 4 ≤ k) : c.drop k = b.drop k := by
  refine List.ext_getElem (by rw [List.length_drop, List.length_drop, h.len]) fun i h1 h2 => ?_
  rw [List.getElem_drop, List.getElem_drop]
  rw [List.length_drop] at h1 h2
  have e : ∀ (l : List Int) (j : Nat) (hj : j < l.length), l[j] = lineAt l j := fun l j hj => by simp [lineAt, hj]
  rw [e c (k + i) (by omega), e b (k + i) (by omega)]
  rcases h.at_ (k + i) with h | h
  · exact h
  · omega
theorem lineAt_mem {l : List Int} {x : Int} (h : x ∈ l) : ∃ k, k < l.length ∧ lineAt l k = x := by
  obtain ⟨k, hk, rfl⟩ := List.getElem_of_mem h
  exact ⟨k, hk, by simp [lineAt, hk]⟩
theorem Flip.mem {c b : List Int} (h : Flip c b) (x : Int) (hx : ¬ Letter x) (n : Nat) : x ∈ c.take n → x ∈ b.take n := by
  intro hm
  obtain ⟨k, hk, e⟩ := lineAt_mem hm
  rw [List.length_take] at hk
  have e1 : lineAt c k = x := by
    rw [← e]
    unfold lineAt
    simp [List.getElem?_take, show k < n by omega]
  rcases h.at_ k with h2 | h2
  · have hb : k < b.length := by have := h.len; omega
    have e2 : b[k] = x := by
      rw [← e1, h2]
      simp [lineAt, hb]
    rw [← e2]
    exact List.mem_take_iff_getElem.mpr ⟨k, by omega, rfl⟩
  · rw [e1] at h2
    exact absurd h2.2.1 hx
theorem Flip.symm {c b : List Int} (h : Flip c b) : Flip b c := ⟨h.len.symm, fun k => (h.at_ k).imp (fun e => e.symm) (fun e => ⟨e.1, e.2.2.1, e.2.1, e.2.2.2.symm⟩)⟩
theorem not13 : ¬ Letter 13 := by unfold Letter; omega
theorem not10 : ¬ Letter 10 := by unfold Letter; omega
theorem two_end (l : List Int) (x y : Int) (h : 2 ≤ l.length) : l.drop (l.length - 2) = [x, y] ↔ lineAt l (l.length - 2) = x ∧ lineAt l (l.length - 1) = y := by
  have e : ∀ (j : Nat) (hj : j < l.length), l[j] = lineAt l j := fun j hj => by simp [lineAt, hj]
  rw [List.drop_eq_getElem_cons (by omega : l.length - 2 < l.length), show l.length - 2 + 1 = l.length - 1 by omega, List.drop_eq_getElem_cons (by omega : l.length - 1 < l.length), List.drop_of_length_le (by omega), e _ (by omega), e _ (by omega)]
  simp
theorem Flip.end_ {c b : List Int} (h : Flip c b) (h2 : 2 ≤ b.length) : c.drop (c.length - 2) = [13, 10] → b.drop (b.length - 2) = [13, 10] := by
  intro hh
  rw [two_end c 13 10 (by have := h.len; omega)] at hh
  rw [two_end b 13 10 h2]
  have e := h.len
  rw [e] at hh
  constructor
  · rcases h.at_ (b.length - 2) with h3 | h3
    · rw [← h3]; exact hh.1
    · rw [hh.1] at h3; exact absurd h3.2.1 not13
  · rcases h.at_ (b.length - 1) with h3 | h3
    · rw [← h3]; exact hh.2
    · rw [hh.2] at h3; exact absurd h3.2.1 not10
theorem Flip.take {c b : List Int} (h : Flip c b) (n : Nat) : Flip (c.take n) (b.take n) := by
  refine ⟨by rw [List.length_take, List.length_take, h.len], fun k => ?_⟩
  by_cases hk : k < n
  · have e : ∀ l : List Int, lineAt (l.take n) k = lineAt l k := fun l => by
      unfold lineAt
      simp [List.getElem?_take, hk]
    rw [e, e]
    exact h.at_ k
  · have e : ∀ l : List Int, lineAt (l.take n) k = 0 := fun l => by
      unfold lineAt
      simp [List.getElem?_take, hk]
    rw [e, e]
    exact .inl rfl
theorem Flip.text {c b : List Int} (h : Flip c b) : (lineText c = none ∧ lineText b = none) ∨ ∃ x y, lineText c = some x ∧ lineText b = some y ∧ Flip x y := by
  unfold lineText
  by_cases hb : 2 ≤ b.length ∧ b.drop (b.length - 2) = [13, 10] ∧ 13 ∉ b.take (b.length - 2) ∧ 10 ∉ b.take (b.length - 2)
  · have hc : 2 ≤ c.length ∧ c.drop (c.length - 2) = [13, 10] ∧ 13 ∉ c.take (c.length - 2) ∧ 10 ∉ c.take (c.length - 2) := by
      refine ⟨by rw [h.len]; exact hb.1, h.symm.end_ (by rw [h.len]; exact hb.1) hb.2.1, fun hm => hb.2.2.1 ?_, fun hm => hb.2.2.2 ?_⟩
      · rw [← h.len]; exact h.mem 13 not13 _ hm
      · rw [← h.len]; exact h.mem 10 not10 _ hm
    rw [if_pos hb, if_pos hc]
    refine .inr ⟨_, _, rfl, rfl, ?_⟩
    rw [h.len]
    exact h.take _
  · have hc : ¬ (2 ≤ c.length ∧ c.drop (c.length - 2) = [13, 10] ∧ 13 ∉ c.take (c.length - 2) ∧ 10 ∉ c.take (c.length - 2)) := fun hc => hb (by
      refine ⟨by rw [← h.len]; exact hc.1, h.end_ (by rw [← h.len]; exact hc.1) hc.2.1, fun hm => hc.2.2.1 ?_, fun hm => hc.2.2.2 ?_⟩
      · rw [h.len]; exact h.symm.mem 13 not13 _ hm
      · rw [h.len]; exact h.symm.mem 10 not10 _ hm)
    rw [if_neg hb, if_neg hc]
    exact .inl ⟨rfl, rfl⟩
theorem Flip.skip {c b : List Int} (h : Flip c b) : ∀ (s : List Int) (k : Nat), lineSkip c s k = lineSkip b s k
  | [], k => rfl
  | x :: s, k => by
    unfold lineSkip
    rw [h.up k, h.len, Flip.skip h s (k + 1)]
theorem skip_len (l : List Int) : ∀ (s : List Int) (k k' : Nat), lineSkip l s k = some k' → k' = k + s.length
  | [], k, k', h => by
    unfold lineSkip at h
    cases h
    rfl
  | x :: s, k, k', h => by
    unfold lineSkip at h
    split at h
    · have := skip_len l s (k + 1) k' h
      rw [List.length_cons]
      omega
    · cases h
theorem Flip.number {c b : List Int} (h : Flip c b) (k d : Nat) (m : Int) (hk : 4 ≤ k) : lineNumber c k d m = lineNumber b k d m := by
  unfold lineNumber
  rw [h.drop k hk]
theorem number_ge {l : List Int} {k d k' : Nat} {m n : Int} (h : lineNumber l k d m = some (n, k')) : k ≤ k' := by
  unfold lineNumber at h
  split at h
  · split at h
    · cases h
      omega
    · cases h
  · cases h
theorem Flip.bytes {c b : List Int} (h : Flip c b) (s : List Int) : ∀ (n : Nat) (f : Bool) (x : Int) (k : Nat), 4 ≤ k → lineBytes c s n f x k = lineBytes b s n f x k
  | 0, f, x, k, hk => rfl
  | n + 1, f, x, k, hk => by
    rw [lineBytes_step, lineBytes_step, h.skip s k]
    cases hs : (if f = true then some k else lineSkip b s k) with
    | none => rfl
    | some k1 =>
      have hk1 : 4 ≤ k1 := by
        split at hs
        · cases hs; exact hk
        · have := skip_len b s k k1 hs; omega
      simp only [h.number k1 3 255 hk1]
      cases hn : lineNumber b k1 3 255 with
      | none => rfl
      | some r =>
        obtain ⟨v, k2⟩ := r
        simp only
        exact Flip.bytes h s n false _ k2 (by have := number_ge hn; omega)
theorem Flip.six {c b : List Int} (h : Flip c b) (k : Nat) (hk : 4 ≤ k) : lineSix c k = lineSix b k := by
  unfold lineSix
  rw [h.bytes _ _ _ _ k hk]
theorem open_ge : ∀ (l : List Int) (k k' : Nat), lineOpen l k = some k' → k ≤ k'
  | [], k, k', h => by cases h
  | x :: l, k, k', h => by
    unfold lineOpen at h
    split at h
    · cases h; omega
    · have := open_ge l (k + 1) k' h; omega
theorem bytes_ge (l s : List Int) : ∀ (n : Nat) (f : Bool) (x y : Int) (k k' : Nat), lineBytes l s n f x k = some (y, k') → k ≤ k'
  | 0, f, x, y, k, k', h => by
    unfold lineBytes at h
    cases h
    omega
  | n + 1, f, x, y, k, k', h => by
    rw [lineBytes_step] at h
    cases hs : (if f = true then some k else lineSkip l s k) with
    | none => rw [hs] at h; cases h
    | some k1 =>
      have hk1 : k ≤ k1 := by
        split at hs
        · cases hs; omega
        · have := skip_len l s k k1 hs; omega
      rw [hs] at h
      simp only at h
      cases hn : lineNumber l k1 3 255 with
      | none => rw [hn] at h; cases h
      | some r =>
        obtain ⟨v, k2⟩ := r
        rw [hn] at h
        have := number_ge hn
        have := bytes_ge l s n false _ y k2 k' h
        omega
theorem Flip.port {c b : List Int} (h : Flip c b) : linePort c = linePort b := by
  unfold linePort
  rw [h.skip]
  cases hs : lineSkip b [80, 79, 82, 84, 32] 0 with
  | none => rfl
  | some k =>
    have hk := skip_len b _ 0 k hs
    simp only [List.length_cons, List.length_nil] at hk
    simp only [h.six k (by omega), h.len]
theorem Flip.eprt {c b : List Int} (h : Flip c b) : lineEprt c = lineEprt b := by
  unfold lineEprt
  rw [h.skip]
  cases hs : lineSkip b [69, 80, 82, 84, 32] 0 with
  | none => rfl
  | some k =>
    have hk := skip_len b _ 0 k hs
    simp only [List.length_cons, List.length_nil] at hk
    simp only [h.skip]
    cases hs1 : lineSkip b [124, 49, 124] k with
    | none => rfl
    | some k1 =>
      have hk1 := skip_len b _ k k1 hs1
      simp only [h.bytes [46] 4 true 0 k1 (by omega)]
      cases hb : lineBytes b [46] 4 true 0 k1 with
      | none => rfl
      | some r =>
        obtain ⟨a, k2⟩ := r
        have hk2 := bytes_ge b _ _ _ _ _ _ _ hb
        simp only
        cases hs3 : lineSkip b [124] k2 with
        | none => rfl
        | some k3 =>
          have hk3 := skip_len b _ k2 k3 hs3
          simp only [h.number k3 5 65535 (by omega), h.len]
theorem Flip.pasv {c b : List Int} (h : Flip c b) : linePasv c = linePasv b := by
  unfold linePasv
  rw [h.skip]
  cases hs : lineSkip b [50, 50, 55, 32] 0 with
  | none => rfl
  | some k =>
    have hk := skip_len b _ 0 k hs
    simp only [List.length_cons, List.length_nil] at hk
    simp only [h.drop k (by omega)]
    cases ho : lineOpen (b.drop k) k with
    | none => rfl
    | some k1 =>
      have hk1 := open_ge _ _ _ ho
      simp only [h.six k1 (by omega), h.skip]
theorem Flip.epsv {c b : List Int} (h : Flip c b) : lineEpsv c = lineEpsv b := by
  unfold lineEpsv
  rw [h.skip]
  cases hs : lineSkip b [50, 50, 57, 32] 0 with
  | none => rfl
  | some k =>
    have hk := skip_len b _ 0 k hs
    simp only [List.length_cons, List.length_nil] at hk
    simp only [h.drop k (by omega)]
    cases ho : lineOpen (b.drop k) k with
    | none => rfl
    | some k1 =>
      have hk1 := open_ge _ _ _ ho
      simp only [h.skip]
      cases hs2 : lineSkip b [124, 124, 124] k1 with
      | none => rfl
      | some k2 =>
        have hk2 := skip_len b _ k1 k2 hs2
        simp only [h.number k2 5 65535 (by omega)]
theorem Flip.find {c b : List Int} (h : Flip c b) : findT c = findT b := by
  have e : lineFind c = lineFind b := by
    unfold lineFind
    rcases h.text with ⟨h1, h2⟩ | ⟨x, y, h1, h2, hf⟩
    · rw [h1, h2]
    · rw [h1, h2]
      have e : ∀ k, lineRead x k = lineRead y k := fun k => by
        unfold lineRead
        rw [hf.port, hf.eprt, hf.pasv, hf.epsv]
      simp only [e]
  unfold findT
  rw [e]
theorem more_none (b : List Int) (x : Int) (h : (findT b).2.2.2.2.2 = true) : (findT (b ++ [x])).2.2.2.2.2 = false := by
  have hb : ∃ l, lineText b = some l := by
    cases ht : lineText b with
    | none => unfold findT lineFind at h; rw [ht] at h; cases h
    | some l => exact ⟨l, rfl⟩
  obtain ⟨l, hl⟩ := hb
  unfold lineText at hl
  split at hl
  case isFalse => cases hl
  rename_i hh
  have h13 : (13 : Int) ∈ (b ++ [x]).take ((b ++ [x]).length - 2) := by
    rw [List.length_append, List.length_cons, List.length_nil, List.take_append_of_le_length (by omega)]
    have h2 := ((two_end b 13 10 hh.1).mp hh.2.1).1
    have hlt : b.length - 2 < b.length := by have := hh.1; omega
    have e2 : b[b.length - 2] = 13 := by rw [← h2]; simp [lineAt, hlt]
    rw [← e2]
    exact List.mem_take_iff_getElem.mpr ⟨b.length - 2, by have := hh.1; omega, rfl⟩
  have ht : lineText (b ++ [x]) = none := by
    unfold lineText
    rw [if_neg (fun hc => hc.2.2.1 h13)]
  unfold findT lineFind
  rw [ht]
theorem xor_flip (x : Int) (h : Letter x) : Letter (Go.bits .xor .u8 x 32) ∧ lineUp (Go.bits .xor .u8 x 32) = lineUp x := by
  have key1 : ∀ j : Fin 26, Go.bits .xor .u8 (65 + (j.val : Int)) 32 = 97 + (j.val : Int) := by decide +kernel
  have key2 : ∀ j : Fin 26, Go.bits .xor .u8 (97 + (j.val : Int)) 32 = 65 + (j.val : Int) := by decide +kernel
  rcases h with h | h
  · have k : Go.bits .xor .u8 (65 + (((x - 65).toNat : Nat) : Int)) 32 = 97 + (((x - 65).toNat : Nat) : Int) := key1 ⟨(x - 65).toNat, by omega⟩
    rw [show 65 + (((x - 65).toNat : Nat) : Int) = x by omega] at k
    rw [k, show 97 + (((x - 65).toNat : Nat) : Int) = x + 32 by omega]
    unfold Letter lineUp
    rw [if_pos (by omega), if_neg (by omega)]
    omega
  · have k : Go.bits .xor .u8 (97 + (((x - 97).toNat : Nat) : Int)) 32 = 65 + (((x - 97).toNat : Nat) : Int) := key2 ⟨(x - 97).toNat, by omega⟩
    rw [show 97 + (((x - 97).toNat : Nat) : Int) = x by omega] at k
    rw [k, show 65 + (((x - 97).toNat : Nat) : Int) = x - 32 by omega]
    unfold Letter lineUp
    rw [if_neg (by omega), if_pos (by omega)]
    omega
theorem lineAt_set (c : List Int) (i k : Nat) (v : Int) (h : i < c.length) : lineAt (c.set i v) k = if k = i then v else lineAt c k := by
  unfold lineAt
  by_cases hk : k = i
  · subst hk
    simp [h]
  · rw [if_neg hk]
    simp [List.getElem?_set, Ne.symm hk]
theorem Flip.set {c b : List Int} (h : Flip c b) (i : Nat) (hi : i < 4) (hc : i < c.length) (hl : Letter (lineAt c i)) : Flip (c.set i (Go.bits .xor .u8 (lineAt c i) 32)) b := by
  refine ⟨by rw [List.length_set]; exact h.len, fun k => ?_⟩
  rw [lineAt_set c i k _ hc]
  by_cases hk : k = i
  · subst hk
    rw [if_pos rfl]
    have hx := xor_flip _ hl
    refine .inr ⟨hi, hx.1, ?_, hx.2.trans (h.up k)⟩
    rcases h.at_ k with h2 | h2
    · rw [← h2]; exact hl
    · exact h2.2.2.1
  · rw [if_neg hk]
    exact h.at_ k
theorem lbytes_set {c : List Int} (h : LBytes c) (i : Nat) (v : Int) (hv : Letter v) : LBytes (c.set i v) := by
  intro x hx
  rcases List.mem_or_eq_of_mem_set hx with h1 | h1
  · exact h x h1
  · subst h1
    unfold Letter at hv
    omega
theorem cases_fin (l : List Int) (fl : List Bool) (a : Int) (hl : LBytes l) (hn : l.length ≤ 100000) (ha : 0 ≤ a ∧ a ≤ 255) (c : List Int) (hf : Flip c l) (hc : LBytes c) (i : Int) (k : Nat) (hk : l.length < k) :
    bailiwicklaw23_LineCases.j1 (k + 1) l fl a (findT l).2.2.2.2.2 c i false (findT l).1 (findT l).2.1 (findT l).2.2.1 (findT l).2.2.2.1 (findT l).2.2.2.2.1 = some true := by
  have hb2 : LBytes (l ++ [a]) := by
    intro x hx
    rcases List.mem_append.mp hx with h1 | h1
    · exact hl x h1
    · rw [List.mem_singleton] at h1
      subst h1
      exact ha
  have hm := more_none l a
  simp only [bailiwicklaw23_LineCases.j1]
  rw [if_neg (by simp), find_to hc, Option.bind_some, lcopy_to l (by omega) k hk, Option.bind_some, if_pos (by omega), find_to hb2, Option.bind_some, hf.find, if_pos (by simp), if_pos (by simp)]
  cases ho : (findT l).2.2.2.2.2 with
  | false => rfl
  | true =>
    rw [if_pos rfl, hm ho]
    rfl
theorem cases_loop (l : List Int) (fl : List Bool) (a : Int) (hl : LBytes l) (hn : l.length ≤ 100000) (ha : 0 ≤ a ∧ a ≤ 255) (n : Nat) : ∀ (i : Nat) (c : List Int) (k : Nat), i + n = 4 → Flip c l → LBytes c → 2 * n + l.length + 3 ≤ k →
    bailiwicklaw23_LineCases.l0 k l fl a (findT l).2.2.2.2.2 c i (findT l).1 (findT l).2.1 (findT l).2.2.1 (findT l).2.2.2.1 (findT l).2.2.2.2.1 = some true := by
  induction n with
  | zero =>
    intro i c k hi hf hc hk
    obtain ⟨k, rfl⟩ : ∃ q, k = q + 2 := ⟨k - 2, by omega⟩
    simp only [bailiwicklaw23_LineCases.l0]
    rw [show decide ((i : Int) < 4) = false from decide_eq_false (by omega)]
    have hq := cases_fin l fl a hl hn ha c hf hc (i : Int) k (by omega)
    split
    · split
      · exact hq
      · exact hq
    · exact hq
  | succ n ih =>
    intro i c k hi hf hc hk
    obtain ⟨k, rfl⟩ : ∃ q, k = q + 2 := ⟨k - 2, by omega⟩
    have hq := cases_fin l fl a hl hn ha c hf hc (i : Int) k (by omega)
    simp only [bailiwicklaw23_LineCases.l0]
    rw [show decide ((i : Int) < 4) = true from decide_eq_true (by omega)]
    by_cases h1 : (i : Int) < (c.length : Int)
    · rw [if_pos h1]
      by_cases h2 : (i : Int) < (fl.length : Int)
      · rw [if_pos h2]
        have hw : wrap64 ((i : Int) + 1) = ((i + 1 : Nat) : Int) := by rw [lw64 (by omega) (by omega)]; simp
        have hstay := ih (i + 1) c k (by omega) hf hc (by omega)
        have hflip : Letter (rd c (i : Int)) → bailiwicklaw23_LineCases.l0 k l fl a (findT l).2.2.2.2.2 (c.set (i : Int).toNat (Go.bits .xor .u8 (rd c (i : Int)) 32)) ((i + 1 : Nat) : Int) (findT l).1 (findT l).2.1 (findT l).2.2.1 (findT l).2.2.2.1 (findT l).2.2.2.2.1 = some true := fun hL => by
          rw [lrd] at hL ⊢
          rw [Int.toNat_natCast]
          exact ih (i + 1) _ k (by omega) (hf.set i (by omega) (by omega) hL) (lbytes_set hc i _ (xor_flip _ hL).1) (by omega)
        simp only [bailiwicklaw23_LineCases.j1]
        rw [if_pos trivial, if_pos (by omega), if_pos h2, hw]
        by_cases h3 : rdOf false fl (i : Int) = true
        · rw [if_pos h3, if_pos h1]
          by_cases h4 : rd c (i : Int) ≥ 97
          · rw [if_pos h4]
            by_cases h5 : rd c (i : Int) ≤ 122
            · rw [if_pos h5]
              exact hflip (.inr ⟨h4, h5⟩)
            · rw [if_neg h5, if_pos (by omega), if_neg (by omega)]
              exact hstay
          · rw [if_neg h4]
            by_cases h6 : rd c (i : Int) ≥ 65
            · rw [if_pos h6]
              by_cases h7 : rd c (i : Int) ≤ 90
              · rw [if_pos h7]
                exact hflip (.inl ⟨h6, h7⟩)
              · rw [if_neg h7]
                exact hstay
            · rw [if_neg h6]
              exact hstay
        · rw [if_neg h3]
          exact hstay
      · rw [if_neg h2]
        exact hq
    · rw [if_neg h1]
      exact hq
theorem LineCases : bailiwicklaw23_LineCases.Pure := by
  intro l fl a hl hfl ha
  refine ⟨200020, ?_⟩
  have hB := lbytes_of hl.2.2
  have hA : 0 ≤ a ∧ a ≤ 255 := lbytes_of (l := [a]) (by simpa using ha) a (by simp)
  unfold bailiwicklaw23_LineCases.f
  rw [lawake, Option.bind_some, if_pos rfl]
  by_cases h : (l.length : Int) > 100000
  · rw [if_pos h]
  rw [if_neg h, find_to hB, Option.bind_some, lcopy_to l (by omega) _ (by omega), Option.bind_some]
  exact cases_loop l fl a hB (by omega) hA 4 0 l 200020 rfl (Flip.refl l) hB (by omega)
end Go.Proofs.Ytnbanjbhjjhkdaa.Pure
