/- Plain: what was put is found. No statement of its own. -/
import Derived.Test.YtnbanjbhjjhkdaaDoorPureLibFb
import Derived.Test.YtnbanjbhjjhkdaaDoorPureLibTp
import Derived.Test.YtnbanjbhjjhkdaaDoorPureLibTr
import Derived.Test.YtnbanjbhjjhkdaaDoorPureLineRef
namespace Go.Proofs.YtnbanjbhjjhkdaaDoor.Pure
open Go.RowKit Go.Proofs.YtnbanjbhjjhkdaaDoor.P Go.Proofs.YtnbanjbhjjhkdaaDoorW.PrintWords Go.Proofs.YtnbanjbhjjhkdaaDoorW.PrintLast
set_option linter.unusedVariables false
set_option linter.unusedSimpArgs false
def ints (l : List UInt8) : List Int := l.map fun c => (c.toNat : Int)
theorem ints_app (l m : List UInt8) : ints (l ++ m) = ints l ++ ints m := List.map_append ..
theorem ints_len (l : List UInt8) : (ints l).length = l.length := List.length_map ..
def NI (m : Int) : List Int := ints (Lib.itoa m)
/-! Places. -/
theorem at_app (A Y : List Int) (j : Nat) (h : j < A.length) : lineAt (A ++ Y) j = lineAt A j := by
  unfold lineAt
  rw [List.getD_eq_getElem?_getD, List.getD_eq_getElem?_getD, List.getElem?_append_left h]
theorem at_here (A : List Int) (c : Int) (Y : List Int) : lineAt (A ++ c :: Y) A.length = c := by
  unfold lineAt
  simp [List.getD_eq_getElem?_getD]
theorem skip_app (A Y Z : List Int) : ∀ (s : List Int) (k : Nat), k + s.length ≤ A.length → lineSkip (A ++ Y) s k = lineSkip (A ++ Z) s k
  | [], k, h => rfl
  | c :: s, k, h => by
    rw [List.length_cons] at h
    unfold lineSkip
    rw [at_app A Y k (by omega), at_app A Z k (by omega), skip_app A Y Z s (k + 1) (by omega)]
    have e1 : k < (A ++ Y).length := by rw [List.length_append]; omega
    have e2 : k < (A ++ Z).length := by rw [List.length_append]; omega
    simp only [e1, e2]
theorem skip_here : ∀ (s A B : List Int), (∀ c ∈ s, lineUp c = c) → lineSkip (A ++ (s ++ B)) s A.length = some (A.length + s.length)
  | [], A, B, h => rfl
  | c :: s, A, B, h => by
    unfold lineSkip
    rw [List.cons_append, at_here, if_pos ⟨h c (by simp), by rw [List.length_append, List.length_cons]; omega⟩]
    have e : A ++ c :: (s ++ B) = (A ++ [c]) ++ (s ++ B) := by simp
    have ih := skip_here s (A ++ [c]) B (fun x hx => h x (by simp [hx]))
    rw [e]
    have e2 : (A ++ [c]).length = A.length + 1 := by simp
    rw [e2] at ih
    rw [ih, List.length_cons]
    congr 1
    omega
/-! Numbers. -/
def decVal (n : Int) (N : List Int) : Int := N.foldl (fun n x => 10 * n + (x - 48)) n
def Stop (B : List Int) : Prop := ∀ c Y, B = c :: Y → lineDig c = false
theorem num_here (d : Nat) : ∀ (N B : List Int) (i : Nat) (n : Int), (∀ c ∈ N, lineDig c = true) → Stop B → i + N.length ≤ d → lineNum d (N ++ B) i n = some (decVal n N, i + N.length)
  | [], [], i, n, hN, hB, h => rfl
  | [], c :: B, i, n, hN, hB, h => by
    show lineNum d (c :: B) i n = _
    unfold lineNum
    rw [hB c B rfl, if_neg (by decide)]
    rfl
  | x :: N, B, i, n, hN, hB, h => by
    rw [List.length_cons] at h
    show lineNum d (x :: (N ++ B)) i n = _
    unfold lineNum
    rw [hN x (by simp), if_pos rfl, if_pos (by omega), num_here d N B (i + 1) _ (fun c hc => hN c (by simp [hc])) hB (by omega), List.length_cons]
    show some (_, _) = some (decVal (10 * n + (x - 48)) N, _)
    congr 2
    omega
theorem dd_ints : ∀ (b m : Nat), m ≤ b → (∀ c ∈ ints (Lib.decDigits m), lineDig c = true) ∧ decVal 0 (ints (Lib.decDigits m)) = (m : Int) ∧ 0 < (Lib.decDigits m).length
  | b, m, h => by
    have dg : ∀ q, q < 10 → lineDig ((UInt8.ofNat (48 + q)).toNat : Int) = true ∧ ((UInt8.ofNat (48 + q)).toNat : Int) - 48 = (q : Int) := by decide
    by_cases h10 : m < 10
    · rw [dd_small m h10]
      refine ⟨fun c hc => ?_, ?_, by simp⟩
      · have : c = ((UInt8.ofNat (48 + m)).toNat : Int) := by simpa [ints] using hc
        rw [this]
        exact (dg m h10).1
      · show 10 * 0 + (((UInt8.ofNat (48 + m)).toNat : Int) - 48) = _
        rw [(dg m h10).2]
        omega
    · obtain ⟨q, rfl⟩ : ∃ q, b = q + 1 := ⟨b - 1, by omega⟩
      obtain ⟨i1, i2, i3⟩ := dd_ints q (m / 10) (by omega)
      rw [dd_big m h10]
      refine ⟨fun c hc => ?_, ?_, by simp⟩
      · rw [ints_app, List.mem_append] at hc
        rcases hc with hc | hc
        · exact i1 c hc
        · have : c = ((UInt8.ofNat (48 + m % 10)).toNat : Int) := by simpa [ints] using hc
          rw [this]
          exact (dg _ (by omega)).1
      · rw [ints_app]
        unfold decVal at i2 ⊢
        rw [List.foldl_append, i2]
        show 10 * ((m / 10 : Nat) : Int) + (((UInt8.ofNat (48 + m % 10)).toNat : Int) - 48) = _
        rw [(dg _ (by omega)).2]
        omega
theorem NI_facts (m : Int) (h : 0 ≤ m) : (∀ c ∈ NI m, lineDig c = true) ∧ decVal 0 (NI m) = m ∧ 0 < (NI m).length := by
  obtain ⟨n, rfl⟩ : ∃ n : Nat, m = n := ⟨m.toNat, by omega⟩
  have := dd_ints n n (Nat.le_refl _)
  unfold NI Lib.itoa
  rw [if_neg (by omega), Int.toNat_natCast, ints_len]
  exact this
theorem number_here (A B : List Int) (m most : Int) (d : Nat) (h : 0 ≤ m ∧ m ≤ most) (hd : (NI m).length ≤ d) (hB : Stop B) : lineNumber (A ++ (NI m ++ B)) A.length d most = some (m, A.length + (NI m).length) := by
  obtain ⟨h1, h2, h3⟩ := NI_facts m h.1
  unfold lineNumber
  rw [List.drop_left, num_here d (NI m) B 0 0 h1 hB (by omega), h2]
  show (if 0 < 0 + (NI m).length ∧ m ≤ most then some (m, A.length + (0 + (NI m).length)) else none) = _
  rw [if_pos ⟨by omega, h.2⟩, Nat.zero_add]
/-! Numbers with a byte between. -/
def bodyF (c : Int) : List Int → List Int
  | [] => []
  | m :: ms => c :: (NI m ++ bodyF c ms)
theorem stop_body (c : Int) (hc : lineDig c = false) : ∀ (ms B : List Int), Stop B → Stop (bodyF c ms ++ B)
  | [], B, h => h
  | m :: ms, B, h => fun x Y e => by
    simp only [bodyF, List.cons_append, List.cons.injEq] at e
    rw [← e.1]
    exact hc
theorem NI_len3 (m : Int) (h : 0 ≤ m ∧ m ≤ 255) : (NI m).length ≤ 3 := by unfold NI; rw [ints_len]; exact itoa_len m h
theorem NI_len5 (m : Int) (h : 0 ≤ m ∧ m ≤ 65535) : (NI m).length ≤ 5 := by unfold NI; rw [ints_len]; exact itoa_len5 m h
theorem bytes_body (c : Int) (hc : lineDig c = false) (hu : lineUp c = c) : ∀ (ms A B : List Int) (x : Int), (∀ m ∈ ms, 0 ≤ m ∧ m ≤ 255) → Stop B →
    lineBytes (A ++ (bodyF c ms ++ B)) [c] ms.length false x A.length = some (ms.foldl (fun x m => x * 256 + m) x, A.length + (bodyF c ms).length)
  | [], A, B, x, hm, hB => rfl
  | m :: ms, A, B, x, hm, hB => by
    have e1 : A ++ (bodyF c (m :: ms) ++ B) = A ++ ([c] ++ (NI m ++ (bodyF c ms ++ B))) := by simp [bodyF]
    have s1 := skip_here [c] A (NI m ++ (bodyF c ms ++ B)) (by simpa using hu)
    have e2 : A ++ ([c] ++ (NI m ++ (bodyF c ms ++ B))) = (A ++ [c]) ++ (NI m ++ (bodyF c ms ++ B)) := by simp
    have e3 : (A ++ [c]) ++ (NI m ++ (bodyF c ms ++ B)) = (A ++ [c] ++ NI m) ++ (bodyF c ms ++ B) := by simp
    have l1 : (A ++ [c]).length = A.length + [c].length := by simp
    have l2 : (A ++ [c] ++ NI m).length = A.length + [c].length + (NI m).length := by simp; omega
    have n1 := number_here (A ++ [c]) (bodyF c ms ++ B) m 255 3 (hm m (by simp)) (NI_len3 m (hm m (by simp))) (stop_body c hc ms B hB)
    have ih := bytes_body c hc hu ms (A ++ [c] ++ NI m) B (x * 256 + m) (fun q hq => hm q (by simp [hq])) hB
    rw [l1] at n1
    rw [l2] at ih
    rw [e1, List.length_cons]
    unfold lineBytes
    rw [if_neg (by decide), s1]
    simp only
    rw [e2, n1]
    simp only
    rw [e3, ih, List.foldl_cons]
    congr 2
    simp [bodyF]
    omega
theorem bytes_here (c : Int) (hc : lineDig c = false) (hu : lineUp c = c) (m : Int) (ms A B : List Int) (hm : 0 ≤ m ∧ m ≤ 255) (hms : ∀ m ∈ ms, 0 ≤ m ∧ m ≤ 255) (hB : Stop B) :
    lineBytes (A ++ (NI m ++ (bodyF c ms ++ B))) [c] (ms.length + 1) true 0 A.length = some (ms.foldl (fun x m => x * 256 + m) m, A.length + (NI m ++ bodyF c ms).length) := by
  have n1 := number_here A (bodyF c ms ++ B) m 255 3 hm (NI_len3 m hm) (stop_body c hc ms B hB)
  have e3 : A ++ (NI m ++ (bodyF c ms ++ B)) = (A ++ NI m) ++ (bodyF c ms ++ B) := by simp
  have l2 : (A ++ NI m).length = A.length + (NI m).length := by simp
  have ih := bytes_body c hc hu ms (A ++ NI m) B (0 * 256 + m) hms hB
  rw [l2] at ih
  unfold lineBytes
  rw [if_pos rfl]
  simp only
  rw [n1]
  simp only
  rw [e3, ih, List.length_append]
  congr 2
  · rw [Int.zero_mul, Int.zero_add]
  · omega
/-! The texts. -/
def quads (a : Int) : List Int := [a / 65536 % 256, a / 256 % 256, a % 256]
theorem ints_cons (c : UInt8) (l : List UInt8) : ints (c :: l) = (c.toNat : Int) :: ints l := rfl
theorem ints_nil : ints [] = [] := rfl
theorem text_six (kind a p : Int) (h0 : 0 ≤ a) (hk : kind = 1 ∨ kind = 3) (hp : 1 ≤ p ∧ p ≤ 65535) : ints (textL kind a p) = NI (a / 16777216 % 256) ++ bodyF 44 (quads a ++ [p / 256, p % 256]) := by
  unfold textL
  rw [if_neg (by omega), if_pos hk, comma_show a h0]
  simp only [NI, quads, bodyF, ints_app, ints_cons, ints_nil, List.cons_append, List.nil_append, List.append_assoc, List.append_nil]
  rfl
theorem text_eprt (a p : Int) (hp : 1 ≤ p ∧ p ≤ 65535) : ints (textL 2 a p) = [124, 49, 124] ++ (NI (a / 16777216 % 256) ++ (bodyF 46 (quads a) ++ ([124] ++ (NI p ++ [124])))) := by
  unfold textL
  rw [if_neg (by omega), if_neg (by decide), if_pos rfl, showL_app]
  simp only [NI, quads, bodyF, ints_app, ints_cons, ints_nil, List.cons_append, List.nil_append, List.append_assoc, List.append_nil]
  rfl
theorem text_epsv (a p : Int) (hp : 1 ≤ p ∧ p ≤ 65535) : ints (textL 4 a p) = [124, 124, 124] ++ (NI p ++ [124]) := by
  unfold textL
  rw [if_neg (by omega), if_neg (by decide), if_neg (by decide), if_pos rfl]
  simp only [NI, ints_app, ints_cons, ints_nil, List.cons_append, List.nil_append, List.append_assoc, List.append_nil]
  rfl
theorem stop_nil : Stop [] := fun _ _ e => by cases e
theorem stop_cons (c : Int) (Y : List Int) (h : lineDig c = false) : Stop (c :: Y) := fun x Z e => by
  cases e
  exact h
theorem six_val (a p : Int) (h : 0 ≤ a ∧ a < 4294967296) (hp : 1 ≤ p ∧ p ≤ 65535) :
    ((quads a ++ [p / 256, p % 256]).foldl (fun x m => x * 256 + m) (a / 16777216 % 256)) / 65536 = a ∧ ((quads a ++ [p / 256, p % 256]).foldl (fun x m => x * 256 + m) (a / 16777216 % 256)) % 65536 = p := by
  simp only [quads, List.cons_append, List.nil_append, List.foldl_cons, List.foldl_nil]
  omega
theorem four_val (a : Int) (h : 0 ≤ a ∧ a < 4294967296) : (quads a).foldl (fun x m => x * 256 + m) (a / 16777216 % 256) = a := by
  simp only [quads, List.foldl_cons, List.foldl_nil]
  omega
theorem quads_byte (a : Int) : ∀ m ∈ quads a, 0 ≤ m ∧ m ≤ 255 := by
  intro m hm
  simp only [quads, List.mem_cons, List.not_mem_nil, or_false] at hm
  rcases hm with rfl | rfl | rfl <;> omega
theorem six_here (A B : List Int) (kind a p : Int) (h : 0 ≤ a ∧ a < 4294967296) (hk : kind = 1 ∨ kind = 3) (hp : 1 ≤ p ∧ p ≤ 65535) (hB : Stop B) :
    lineSix (A ++ (ints (textL kind a p) ++ B)) A.length = some (a, p, A.length + (ints (textL kind a p)).length) := by
  rw [text_six kind a p h.1 hk hp]
  have hb := bytes_here 44 (by decide) (by decide) (a / 16777216 % 256) (quads a ++ [p / 256, p % 256]) A B (by omega) (by
    intro m hm
    rw [List.mem_append] at hm
    rcases hm with hm | hm
    · exact quads_byte a m hm
    · simp only [List.mem_cons, List.not_mem_nil, or_false] at hm
      rcases hm with rfl | rfl <;> omega) hB
  rw [show (quads a ++ [p / 256, p % 256]).length + 1 = 6 from rfl] at hb
  unfold lineSix
  rw [List.append_assoc (NI _), hb]
  simp only
  rw [(six_val a p h hp).1, (six_val a p h hp).2]
theorem skip_eq (L Y s : List Int) (F : Nat) (h5 : 5 ≤ F) (hF : F ≤ L.length) (hs : s.length ≤ 5) : lineSkip (L.take F ++ Y) s 0 = lineSkip L s 0 := by
  have e : L = L.take F ++ L.drop F := (List.take_append_drop F L).symm
  conv => rhs; rw [e]
  exact skip_app _ _ _ s 0 (by rw [List.length_take]; omega)
theorem open_app : ∀ (M : List Int) (j k : Nat), lineOpen M j = some k → ∀ Y, lineOpen (M.take (k - j) ++ Y) j = some k
  | [], j, k, h, Y => by cases h
  | x :: M, j, k, h, Y => by
    have hb := open_bound (x :: M) j k h
    unfold lineOpen at h
    split at h
    · rename_i hx
      cases h
      rw [show j + 1 - j = 1 by omega]
      show lineOpen (x :: ([] ++ Y)) j = _
      unfold lineOpen
      rw [if_pos hx]
    · rename_i hx
      have ih := open_app M (j + 1) k h Y
      rw [show k - j = (k - (j + 1)) + 1 by omega]
      show lineOpen (x :: (M.take (k - (j + 1)) ++ Y)) j = _
      unfold lineOpen
      rw [if_neg hx]
      exact ih
theorem open_again (L Y : List Int) (k : Nat) (h : lineOpen (L.drop 4) 4 = some k) (hk : k ≤ L.length) : lineOpen ((L.take k ++ Y).drop 4) 4 = some k := by
  have hb := open_bound _ _ _ h
  rw [List.drop_append_of_le_length (by rw [List.length_take]; omega), List.drop_take]
  exact open_app _ 4 k h Y
/-! Each kind. -/
theorem port_is {L : List Int} {k : Int} {F T : Nat} {a p : Int} (h : linePort L = some (k, F, T, a, p)) : k = 1 ∧ F = 5 ∧ T = L.length ∧ lineSkip L [80, 79, 82, 84, 32] 0 = some 5 ∧ 5 ≤ L.length := by
  unfold linePort at h
  split at h
  · cases h
  rename_i k0 h1
  have e1 := skip_len _ _ _ _ h1
  have l1 := skip_le _ _ _ _ (Nat.zero_le _) h1
  simp only [List.length_cons, List.length_nil] at e1
  split at h
  · cases h
  split at h
  · rename_i hc
    cases h
    exact ⟨rfl, by omega, hc.1, h1.trans (by rw [e1]), by omega⟩
  · cases h
theorem port_again (L : List Int) (h5 : lineSkip L [80, 79, 82, 84, 32] 0 = some 5) (hl : 5 ≤ L.length) (ea ep : Int) (h : 0 ≤ ea ∧ ea < 4294967296) (hp : 1 ≤ ep ∧ ep ≤ 65535) :
    linePort (L.take 5 ++ (ints (textL 1 ea ep) ++ [])) = some (1, 5, 5 + (ints (textL 1 ea ep)).length, ea, ep) := by
  have e := skip_eq L (ints (textL 1 ea ep) ++ []) [80, 79, 82, 84, 32] 5 (by omega) hl (by decide)
  have s := six_here (L.take 5) [] 1 ea ep h (.inl rfl) hp stop_nil
  have hA : (L.take 5).length = 5 := by rw [List.length_take]; omega
  rw [hA] at s
  unfold linePort
  rw [e, h5]
  simp only
  rw [s]
  simp only
  rw [if_pos ⟨by rw [List.length_append, hA, List.append_nil], by omega⟩]
theorem eprt_is {L : List Int} {k : Int} {F T : Nat} {a p : Int} (h : lineEprt L = some (k, F, T, a, p)) : k = 2 ∧ F = 5 ∧ T = L.length ∧ lineSkip L [69, 80, 82, 84, 32] 0 = some 5 ∧ 5 ≤ L.length := by
  unfold lineEprt at h
  split at h
  · cases h
  rename_i k0 h1
  have e1 := skip_len _ _ _ _ h1
  have l1 := skip_le _ _ _ _ (Nat.zero_le _) h1
  simp only [List.length_cons, List.length_nil] at e1
  split at h
  · cases h
  split at h
  · cases h
  split at h
  · cases h
  split at h
  · cases h
  split at h
  · cases h
  split at h
  · rename_i hc
    cases h
    exact ⟨rfl, by omega, hc.1, h1.trans (by rw [e1]), by omega⟩
  · cases h
theorem eprt_again (L : List Int) (h5 : lineSkip L [69, 80, 82, 84, 32] 0 = some 5) (hl : 5 ≤ L.length) (ea ep : Int) (h : 0 ≤ ea ∧ ea < 4294967296) (hp : 1 ≤ ep ∧ ep ≤ 65535) :
    lineEprt (L.take 5 ++ (ints (textL 2 ea ep) ++ [])) = some (2, 5, 5 + (ints (textL 2 ea ep)).length, ea, ep) := by
  have e := skip_eq L (ints (textL 2 ea ep) ++ []) [69, 80, 82, 84, 32] 5 (by omega) hl (by decide)
  have hA : (L.take 5).length = 5 := by rw [List.length_take]; omega
  obtain ⟨A, hAA⟩ : ∃ A, A = L.take 5 := ⟨_, rfl⟩
  rw [← hAA] at e hA ⊢
  obtain ⟨Q, hQ⟩ : ∃ Q, Q = NI (ea / 16777216 % 256) ++ bodyF 46 (quads ea) := ⟨_, rfl⟩
  have et : ints (textL 2 ea ep) = [124, 49, 124] ++ (Q ++ ([124] ++ (NI ep ++ [124]))) := by
    rw [text_eprt ea ep hp, hQ]
    simp only [List.append_assoc]
  obtain ⟨n, hn⟩ : ∃ n, n = (NI ep).length := ⟨_, rfl⟩
  obtain ⟨q, hq⟩ : ∃ n, n = Q.length := ⟨_, rfl⟩
  obtain ⟨X, hX⟩ : ∃ X, X = A ++ (ints (textL 2 ea ep) ++ []) := ⟨_, rfl⟩
  have hlen : (ints (textL 2 ea ep)).length = 3 + q + 1 + n + 1 := by
    rw [et, hq, hn]
    simp only [List.length_append, List.length_cons, List.length_nil]
    omega
  have s1 : lineSkip X [124, 49, 124] 5 = some 8 := by
    have z := skip_here [124, 49, 124] A (Q ++ ([124] ++ (NI ep ++ [124]))) (by decide)
    rw [hA] at z
    rw [hX, et, List.append_nil]
    exact z
  have s2 : lineBytes X [46] 4 true 0 8 = some (ea, 8 + q) := by
    have z := bytes_here 46 (by decide) (by decide) (ea / 16777216 % 256) (quads ea) (A ++ [124, 49, 124]) ([124] ++ (NI ep ++ [124])) (by omega) (quads_byte ea) (stop_cons _ _ (by decide))
    rw [four_val ea h, show (quads ea).length + 1 = 4 from rfl, ← List.append_assoc (NI _), ← hQ, ← hq, List.length_append, hA] at z
    rw [hX, et, List.append_nil]
    simp only [List.append_assoc] at z ⊢
    exact z
  have s3 : lineSkip X [124] (8 + q) = some (8 + q + 1) := by
    have z := skip_here [124] (A ++ [124, 49, 124] ++ Q) (NI ep ++ [124]) (by decide)
    rw [List.length_append, List.length_append, hA, ← hq] at z
    rw [hX, et, List.append_nil]
    simp only [List.append_assoc] at z ⊢
    exact z
  have s4 : lineNumber X (8 + q + 1) 5 65535 = some (ep, 8 + q + 1 + n) := by
    have z := number_here (A ++ [124, 49, 124] ++ Q ++ [124]) [124] ep 65535 5 (by omega) (NI_len5 ep (by omega)) (stop_cons _ _ (by decide))
    rw [List.length_append, List.length_append, List.length_append, hA, ← hq, ← hn] at z
    rw [hX, et, List.append_nil]
    simp only [List.append_assoc] at z ⊢
    exact z
  have s5 : lineSkip X [124] (8 + q + 1 + n) = some (8 + q + 1 + n + 1) := by
    have z := skip_here [124] (A ++ [124, 49, 124] ++ Q ++ [124] ++ NI ep) [] (by decide)
    rw [List.length_append, List.length_append, List.length_append, List.length_append, hA, ← hq, ← hn] at z
    rw [hX, et, List.append_nil]
    simp only [List.append_assoc, List.append_nil] at z ⊢
    exact z
  have hXl : X.length = 8 + q + 1 + n + 1 := by
    rw [hX, List.append_nil, List.length_append, hA, hlen]
    omega
  rw [← hX] at e ⊢
  unfold lineEprt
  rw [e, h5]
  simp only
  rw [s1]
  simp only
  rw [s2]
  simp only
  rw [s3]
  simp only
  rw [s4]
  simp only
  rw [s5]
  simp only
  rw [if_pos ⟨hXl.symm, by omega⟩, hlen]
  congr 4
  omega
theorem pasv_is {L : List Int} {k : Int} {F T : Nat} {a p : Int} (h : linePasv L = some (k, F, T, a, p)) : k = 3 ∧ lineSkip L [50, 50, 55, 32] 0 = some 4 ∧ lineOpen (L.drop 4) 4 = some F ∧ (∃ Y, L.drop T = 41 :: Y) := by
  unfold linePasv at h
  split at h
  · cases h
  rename_i k0 h1
  have e1 := skip_len _ _ _ _ h1
  simp only [List.length_cons, List.length_nil] at e1
  subst e1
  split at h
  · cases h
  rename_i k1 h2
  split at h
  · cases h
  rename_i a' p' k2 h3
  split at h
  · cases h
  rename_i k3 h4
  split at h
  · cases h
    rw [skip_one L 41 _ (by omega) (by omega)] at h4
    split at h4
    · rename_i hc
      refine ⟨rfl, h1, h2, L.drop (T + 1), ?_⟩
      rw [ldrop L _ hc.2, lrd, hc.1]
    · cases h4
  · cases h
theorem pasv_again (L Y : List Int) (F : Nat) (h4 : lineSkip L [50, 50, 55, 32] 0 = some 4) (ho : lineOpen (L.drop 4) 4 = some F) (hF : F ≤ L.length) (ea ep : Int) (h : 0 ≤ ea ∧ ea < 4294967296) (hp : 1 ≤ ep ∧ ep ≤ 65535) :
    linePasv (L.take F ++ (ints (textL 3 ea ep) ++ 41 :: Y)) = some (3, F, F + (ints (textL 3 ea ep)).length, ea, ep) := by
  have hb := open_bound _ _ _ ho
  have e := skip_eq L (ints (textL 3 ea ep) ++ 41 :: Y) [50, 50, 55, 32] F (by omega) hF (by decide)
  have o := open_again L (ints (textL 3 ea ep) ++ 41 :: Y) F ho hF
  have s := six_here (L.take F) (41 :: Y) 3 ea ep h (.inr rfl) hp (stop_cons _ _ (by decide))
  have hA : (L.take F).length = F := by rw [List.length_take]; omega
  have s2 := skip_here [41] (L.take F ++ ints (textL 3 ea ep)) Y (by decide)
  rw [hA] at s
  rw [List.length_append, hA, List.append_assoc] at s2
  unfold linePasv
  rw [e, h4]
  simp only
  rw [o]
  simp only
  rw [s]
  simp only
  rw [show (41 : Int) :: Y = [41] ++ Y from rfl, s2]
  simp only
  rw [if_pos (by omega)]
theorem epsv_is {L : List Int} {k : Int} {F T : Nat} {a p : Int} (h : lineEpsv L = some (k, F, T, a, p)) : k = 4 ∧ lineSkip L [50, 50, 57, 32] 0 = some 4 ∧ lineOpen (L.drop 4) 4 = some F ∧ (∃ Y, L.drop T = 41 :: Y) := by
  unfold lineEpsv at h
  split at h
  · cases h
  rename_i k0 h1
  have e1 := skip_len _ _ _ _ h1
  simp only [List.length_cons, List.length_nil] at e1
  subst e1
  split at h
  · cases h
  rename_i k1 h2
  split at h
  · cases h
  rename_i k2 h3
  split at h
  · cases h
  rename_i p' k3 h4
  split at h
  · cases h
  rename_i k4 h5
  split at h
  · cases h
  rename_i k5 h6
  split at h
  · cases h
    rw [skip_one L 41 _ (by omega) (by omega)] at h6
    split at h6
    · rename_i hc
      refine ⟨rfl, h1, h2, L.drop (T + 1), ?_⟩
      rw [ldrop L _ hc.2, lrd, hc.1]
    · cases h6
  · cases h
theorem epsv_again (L Y : List Int) (F : Nat) (h4 : lineSkip L [50, 50, 57, 32] 0 = some 4) (ho : lineOpen (L.drop 4) 4 = some F) (hF : F ≤ L.length) (ea ep : Int) (hp : 1 ≤ ep ∧ ep ≤ 65535) :
    lineEpsv (L.take F ++ (ints (textL 4 ea ep) ++ 41 :: Y)) = some (4, F, F + (ints (textL 4 ea ep)).length, 0, ep) := by
  have hb := open_bound _ _ _ ho
  have e := skip_eq L (ints (textL 4 ea ep) ++ 41 :: Y) [50, 50, 57, 32] F (by omega) hF (by decide)
  have o := open_again L (ints (textL 4 ea ep) ++ 41 :: Y) F ho hF
  have hA : (L.take F).length = F := by rw [List.length_take]; omega
  obtain ⟨A, hAA⟩ : ∃ A, A = L.take F := ⟨_, rfl⟩
  rw [← hAA] at e o hA ⊢
  have et := text_epsv ea ep hp
  obtain ⟨n, hn⟩ : ∃ n, n = (NI ep).length := ⟨_, rfl⟩
  obtain ⟨X, hX⟩ : ∃ X, X = A ++ (ints (textL 4 ea ep) ++ 41 :: Y) := ⟨_, rfl⟩
  have hlen : (ints (textL 4 ea ep)).length = 3 + n + 1 := by
    rw [et, hn]
    simp only [List.length_append, List.length_cons, List.length_nil]
    omega
  have hX2 : X = A ++ ([124, 124, 124] ++ (NI ep ++ ([124] ++ ([41] ++ Y)))) := by
    rw [hX, et]
    simp only [List.append_assoc]
    rfl
  have s1 : lineSkip X [124, 124, 124] F = some (F + 3) := by
    have z := skip_here [124, 124, 124] A (NI ep ++ ([124] ++ ([41] ++ Y))) (by decide)
    rw [hA] at z
    rw [hX2]
    exact z
  have s2 : lineNumber X (F + 3) 5 65535 = some (ep, F + 3 + n) := by
    have z := number_here (A ++ [124, 124, 124]) ([124] ++ ([41] ++ Y)) ep 65535 5 (by omega) (NI_len5 ep (by omega)) (stop_cons _ _ (by decide))
    rw [List.length_append, hA, ← hn] at z
    rw [hX2]
    simp only [List.append_assoc] at z ⊢
    exact z
  have s3 : lineSkip X [124] (F + 3 + n) = some (F + 3 + n + 1) := by
    have z := skip_here [124] (A ++ [124, 124, 124] ++ NI ep) ([41] ++ Y) (by decide)
    rw [List.length_append, List.length_append, hA, ← hn] at z
    rw [hX2]
    simp only [List.append_assoc] at z ⊢
    exact z
  have s4 : lineSkip X [41] (F + 3 + n + 1) = some (F + 3 + n + 1 + 1) := by
    have z := skip_here [41] (A ++ [124, 124, 124] ++ NI ep ++ [124]) Y (by decide)
    rw [List.length_append, List.length_append, List.length_append, hA, ← hn] at z
    rw [hX2]
    simp only [List.append_assoc] at z ⊢
    exact z
  rw [← hX] at e o ⊢
  unfold lineEpsv
  rw [e, h4]
  simp only
  rw [o]
  simp only
  rw [s1]
  simp only
  rw [s2]
  simp only
  rw [s3]
  simp only
  rw [s4]
  simp only
  rw [if_pos (by omega), hlen]
  congr 4
  omega
end Go.Proofs.YtnbanjbhjjhkdaaDoor.Pure
