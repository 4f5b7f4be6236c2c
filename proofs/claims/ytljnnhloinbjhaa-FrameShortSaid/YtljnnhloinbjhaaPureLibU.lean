/- Plain lemmas on udp and its reference: both build the same bytes and read the same datagram. No program in sight. -/
import Derived.Test.YtljnnhloinbjhaaPureLib5
import Derived.Test.YtljnnhloinbjhaaPudp
namespace Go.Proofs.Ytljnnhloinbjhaa.Pure
open Go.RowKit Go.Proofs.Ytljnnhloinbjhaa.P Go.Proofs.YtljnnhloinbjhaaW.PrintWords Go.Proofs.YtljnnhloinbjhaaW.PrintLast Go.Proofs.YtljnnhloinbjhaaW.PrintMore
set_option linter.unusedVariables false
set_option linter.unusedSimpArgs false
theorem u32_wf {r : Int} (h : (Lit.int .u32 r).wf = true) : 0 ≤ r ∧ r < 4294967296 := by
  simp [Lit.wf, IntKind.min, IntKind.max, IntKind.bits, IntKind.signed] at h
  omega
theorem i64_wf {r : Int} (h : (Lit.int .i64 r).wf = true) : -9223372036854775808 ≤ r ∧ r ≤ 9223372036854775807 := by
  simp [Lit.wf, IntKind.min, IntKind.max, IntKind.bits, IntKind.signed] at h
  omega
def pairs (l : List Int) : List Int := l.flatMap fun x => [x / 256 % 256, x % 256]
theorem pairs_len (l : List Int) : (pairs l).length = 2 * l.length := by
  unfold pairs
  induction l with
  | nil => rfl
  | cons a l ih => rw [List.flatMap_cons, List.length_append, ih]; simp; omega
theorem ulay_loop (l : List Int) (hl : l.length ≤ 1000000) (rem : Nat) : ∀ (k i : Nat) (m : List Int), i + rem = l.length → m.length ≤ 2 * i → rem < k → udp_lay.l0 k m l (l.length : Int) i = some (m ++ pairs (l.drop i)) := by
  induction rem with
  | zero =>
    intro k i m h hm hk
    obtain ⟨k, rfl⟩ : ∃ q, k = q + 1 := ⟨k - 1, by omega⟩
    rw [udp_lay.l0, if_neg (by omega), List.drop_of_length_le (by omega)]
    simp [pairs]
  | succ rem ih =>
    intro k i m h hm hk
    obtain ⟨k, rfl⟩ : ∃ q, k = q + 1 := ⟨k - 1, by omega⟩
    rw [udp_lay.l0, if_pos (by omega), if_pos (by omega), if_pos (by omega), Option.bind_some, if_pos (by simp; omega), show wrap64 ((i : Int) + 1) = ((i + 1 : Nat) : Int) by rw [w64 (by omega) (by omega)]; simp]
    rw [ih k (i + 1) _ (by omega) (by simp; omega) (by omega), drop_rd l i (by omega)]
    simp [pairs]
theorem ulay_to (l : List Int) (hl : l.length ≤ 1000000) (k : Nat) (hk : l.length < k) : udp_lay.f k l = some (pairs l) := by
  unfold udp_lay.f
  have := ulay_loop l hl l.length k 0 [] (by omega) (by simp) hk
  simpa using this
def pseudo (s d p n : Int) : List Int := [s / 16777216 % 256, s / 65536 % 256, s / 256 % 256, s % 256, d / 16777216 % 256, d / 65536 % 256, d / 256 % 256, d % 256, 0, p % 256, n / 256 % 256, n % 256]
theorem pseudo_bytes (s d p n : Int) : Bytes (pseudo s d p n) := by
  intro x hx
  unfold pseudo at hx
  simp only [List.mem_cons, List.not_mem_nil, or_false] at hx
  rcases hx with rfl | rfl | rfl | rfl | rfl | rfl | rfl | rfl | rfl | rfl | rfl | rfl <;> omega
theorem pseudo_to (s d p n : Int) (hs : 0 ≤ s ∧ s < 4294967296) (hd : 0 ≤ d ∧ d < 4294967296) (k : Nat) (hk : 10 ≤ k) : udp_Pseudo.f k s d p n = some (pseudo s d p n) := by
  unfold udp_Pseudo.f
  rw [ulay_to _ (by simp) k (by simp; omega), Option.bind_some, w64 (by omega) (by omega), w64 (by omega) (by omega), w64 (by omega) (by omega), w64 (by omega) (by omega)]
  have e : Go.bits .and .i64 p 255 = p % 256 := by
    have := and_mask .i64 8 (by decide) p
    rw [show ((2 : Int) ^ 8 - 1) = 255 by decide, show ((2 : Int) ^ 8) = 256 by decide] at this
    rw [this, IntKind.wrap_i64]
    omega
  rw [e]
  show some [s / 65536 / 256 % 256, s / 65536 % 256, s / 256 % 256, s % 256, d / 65536 / 256 % 256, d / 65536 % 256, d / 256 % 256, d % 256, p % 256 / 256 % 256, p % 256 % 256, n / 256 % 256, n % 256] = _
  unfold pseudo
  rw [show s / 65536 / 256 % 256 = s / 16777216 % 256 by omega, show d / 65536 / 256 % 256 = d / 16777216 % 256 by omega, show p % 256 / 256 % 256 = 0 by omega, show p % 256 % 256 = p % 256 by omega]
/-- A datagram's bytes, its check c laid in. -/
def uMsg (sp dp n c : Int) (data : List Int) : List Int := [sp / 256 % 256, sp % 256, dp / 256 % 256, dp % 256, n / 256 % 256, n % 256, c / 256 % 256, c % 256] ++ data
theorem uMsg_len (sp dp n c : Int) (data : List Int) : (uMsg sp dp n c data).length = data.length + 8 := by simp [uMsg]
theorem uMsg_bytes (sp dp n c : Int) (data : List Int) (h : Bytes data) : Bytes (uMsg sp dp n c data) := by
  intro x hx
  unfold uMsg at hx
  rcases List.mem_append.1 hx with hx | hx
  · simp only [List.mem_cons, List.not_mem_nil, or_false] at hx
    rcases hx with rfl | rfl | rfl | rfl | rfl | rfl | rfl | rfl <;> omega
  · exact h x hx
def uCheck0 (s d sp dp : Int) (data : List Int) : Int := 65535 - sumOf (pseudo s d 17 (8 + data.length) ++ uMsg sp dp (8 + data.length) 0 data)
def uCheck (s d sp dp : Int) (data : List Int) : Int := if uCheck0 s d sp dp data = 0 then 65535 else uCheck0 s d sp dp data
theorem uCheck_bound (s d sp dp : Int) (data : List Int) : 1 ≤ uCheck s d sp dp data ∧ uCheck s d sp dp data ≤ 65535 := by
  have := sumOf_bound (pseudo s d 17 (8 + data.length) ++ uMsg sp dp (8 + data.length) 0 data)
  unfold uCheck
  unfold uCheck0
  split <;> omega
def uBytes (s d sp dp : Int) (bare : Bool) (data : List Int) : List Int := uMsg sp dp (8 + data.length) (if bare = true then 0 else uCheck s d sp dp data) data
def uBuild (s d sp dp : Int) (bare : Bool) (data : List Int) : List Int × Int := if 0 ≤ sp ∧ sp ≤ 65535 ∧ 0 ≤ dp ∧ dp ≤ 65535 then (if (data.length : Int) > 2020 then ([], 3) else (uBytes s d sp dp bare data, 0)) else ([], 1)
theorem two_flat (a b : List Int) : [a, b].flatten = a ++ b := by simp
/-- Reading. -/
def uParse (s d : Int) (l : List Int) : Int × Int × Bool × List Int × Int :=
  if (l.length : Int) < 8 then (0, 0, false, [], 2)
  else if two l 4 < 8 then (0, 0, false, [], 4)
  else if two l 4 > (l.length : Int) then (0, 0, false, [], 2)
  else if two l 6 = 0 then (two l 0, two l 2, true, (l.take (two l 4).toNat).drop 8, 0)
  else if sumOf (pseudo s d 17 (two l 4) ++ l.take (two l 4).toNat) = 65535 then (two l 0, two l 2, false, (l.take (two l 4).toNat).drop 8, 0)
  else (0, 0, false, [], 5)
theorem rtwo_to (l : List Int) (a : Nat) (hb : Bytes l) (h : a + 2 ≤ l.length) : udp_reader_two.f l a = some (two l a) := by
  unfold udp_reader_two.f
  have := two_bound l a hb h
  rw [get2_to l a hb h, Option.bind_some, w64 (by omega) (by omega)]
theorem Bytes.take {l : List Int} (h : Bytes l) (n : Nat) : Bytes (l.take n) := fun c hc => h c (List.mem_of_mem_take hc)
theorem uParse_to (s d : Int) (l : List Int) (hs : 0 ≤ s ∧ s < 4294967296) (hd : 0 ≤ d ∧ d < 4294967296) (hb : Bytes l) (hl : l.length ≤ 1000000) (k : Nat) (hk : 20 ≤ k) : udp_Parse.f k s d l = some (uParse s d l) := by
  obtain ⟨k, rfl⟩ : ∃ q, k = q + 1 := ⟨k - 1, by omega⟩
  unfold udp_Parse.f uParse
  by_cases h : (l.length : Int) < 8
  · rw [if_pos h, if_pos h]
  have r0 := rtwo_to l 0 hb (by omega)
  have r2 := rtwo_to l 2 hb (by omega)
  have r4 := rtwo_to l 4 hb (by omega)
  have r6 := rtwo_to l 6 hb (by omega)
  have b4 := two_bound l 4 hb (by omega)
  rw [show ((0 : Nat) : Int) = 0 from rfl] at r0
  rw [show ((2 : Nat) : Int) = 2 from rfl] at r2
  rw [show ((4 : Nat) : Int) = 4 from rfl] at r4
  rw [show ((6 : Nat) : Int) = 6 from rfl] at r6
  have tail : 8 ≤ two l 4 → two l 4 ≤ (l.length : Int) → ∀ b c : Bool, b = false → (two l 6 == 0) = c → udp_Parse.j0 (k + 1) l (two l 4) (two l 6) b l = some (two l 0, two l 2, c, (l.take (two l 4).toNat).drop 8, 0) := by
    rintro h8 hn b c rfl rfl
    rw [udp_Parse.j0, if_neg (by decide), r0, Option.bind_some, r2, Option.bind_some, if_pos h8, if_pos hn, if_pos (by simp; omega), List.nil_append]
  rw [if_neg h, if_neg h, r4, Option.bind_some, r6, Option.bind_some]
  by_cases h8 : two l 4 < 8
  · rw [if_pos h8, if_pos h8]
  by_cases hn : two l 4 > (l.length : Int)
  · rw [if_neg h8, if_neg h8, if_pos hn, if_pos hn]
  rw [if_neg h8, if_neg h8, if_neg hn, if_neg hn]
  by_cases h0 : two l 6 = 0
  · rw [if_pos h0, if_pos h0, tail (by omega) (by omega) _ true rfl (beq_iff_eq.2 h0)]
  have hB := (pseudo_bytes s d 17 (two l 4)).append (hb.take (two l 4).toNat)
  rw [if_neg h0, if_neg h0, pseudo_to s d 17 _ hs hd _ (by omega), Option.bind_some, if_pos b4.1, if_pos (by omega),
    sum_to _ (by rw [two_flat]; exact hB) (by rw [two_flat, List.length_append]; simp [pseudo]; omega), two_flat, Option.bind_some]
  by_cases hq : sumOf (pseudo s d 17 (two l 4) ++ l.take (two l 4).toNat) = 65535
  · rw [if_pos hq, tail (by omega) (by omega) _ false (bne_eq_false_iff_eq.2 hq) (beq_eq_false_iff_ne.2 h0)]
  · rw [if_neg hq, udp_Parse.j0, if_pos (bne_iff_ne.2 hq)]
end Go.Proofs.Ytljnnhloinbjhaa.Pure
