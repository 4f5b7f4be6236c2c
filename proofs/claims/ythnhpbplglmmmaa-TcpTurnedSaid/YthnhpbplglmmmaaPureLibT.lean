/- Plain lemmas on tcp: the segment that is built, and what is read of bytes. No program in sight. -/
import Derived.Test.YthnhpbplglmmmaaPureLibU
import Derived.Test.YthnhpbplglmmmaaPtcp
namespace Go.Proofs.Ythnhpbplglmmmaa.Pure
open Go.RowKit Go.Proofs.Ythnhpbplglmmmaa.P Go.Proofs.YthnhpbplglmmmaaW.PrintWords Go.Proofs.YthnhpbplglmmmaaW.PrintLast Go.Proofs.YthnhpbplglmmmaaW.PrintMore
set_option linter.unusedVariables false
set_option linter.unusedSimpArgs false
/-- The twenty bytes of a segment's header, its check c laid in. -/
def tHead (sp dp seq ack n fl wi c ur : Int) : List Int := [sp / 256 % 256, sp % 256, dp / 256 % 256, dp % 256, seq / 16777216 % 256, seq / 65536 % 256, seq / 256 % 256, seq % 256, ack / 16777216 % 256, ack / 65536 % 256, ack / 256 % 256, ack % 256, (20 + n) / 4 * 16 % 256, fl % 256, wi / 256 % 256, wi % 256, c / 256 % 256, c % 256, ur / 256 % 256, ur % 256]
def tMsg (sp dp seq ack fl wi ur c : Int) (opts data : List Int) : List Int := tHead sp dp seq ack opts.length fl wi c ur ++ opts ++ data
theorem tHead_len (sp dp seq ack n fl wi c ur : Int) : (tHead sp dp seq ack n fl wi c ur).length = 20 := rfl
theorem tHead_bytes (sp dp seq ack n fl wi c ur : Int) : Bytes (tHead sp dp seq ack n fl wi c ur) := by
  intro x hx
  unfold tHead at hx
  simp only [List.mem_cons, List.not_mem_nil, or_false] at hx
  rcases hx with rfl | rfl | rfl | rfl | rfl | rfl | rfl | rfl | rfl | rfl | rfl | rfl | rfl | rfl | rfl | rfl | rfl | rfl | rfl | rfl <;> omega
theorem tMsg_len (sp dp seq ack fl wi ur c : Int) (opts data : List Int) : (tMsg sp dp seq ack fl wi ur c opts data).length = 20 + opts.length + data.length := by
  unfold tMsg
  rw [List.length_append, List.length_append, tHead_len]
theorem tMsg_bytes (sp dp seq ack fl wi ur c : Int) (opts data : List Int) (ho : Bytes opts) (hd : Bytes data) : Bytes (tMsg sp dp seq ack fl wi ur c opts data) := Bytes.append (Bytes.append (tHead_bytes _ _ _ _ _ _ _ _ _) ho) hd
def tSum (s d : Int) (m : List Int) : Int := sumOf (pseudo s d 6 m.length ++ m)
def tCheck (s d sp dp seq ack fl wi ur : Int) (opts data : List Int) : Int := 65535 - tSum s d (tMsg sp dp seq ack fl wi ur 0 opts data)
theorem tCheck_bound (s d sp dp seq ack fl wi ur : Int) (opts data : List Int) : 0 ≤ tCheck s d sp dp seq ack fl wi ur opts data ∧ tCheck s d sp dp seq ack fl wi ur opts data ≤ 65535 := by
  have := sumOf_bound (pseudo s d 6 (tMsg sp dp seq ack fl wi ur 0 opts data).length ++ tMsg sp dp seq ack fl wi ur 0 opts data)
  unfold tCheck tSum
  omega
def tBytes (s d sp dp seq ack fl wi ur : Int) (opts data : List Int) : List Int := tMsg sp dp seq ack fl wi ur (tCheck s d sp dp seq ack fl wi ur opts data) opts data
def tOk (sp dp fl wi ur : Int) (opts : List Int) : Prop := (0 ≤ sp ∧ sp ≤ 65535) ∧ (0 ≤ dp ∧ dp ≤ 65535) ∧ (0 ≤ wi ∧ wi ≤ 65535) ∧ (0 ≤ ur ∧ ur ≤ 65535) ∧ (0 ≤ fl ∧ fl ≤ 255) ∧ opts.length ≤ 40 ∧ opts.length % 4 = 0
instance (sp dp fl wi ur : Int) (opts : List Int) : Decidable (tOk sp dp fl wi ur opts) := by unfold tOk; infer_instance
def tBuild (s d sp dp seq ack fl wi ur : Int) (opts data : List Int) : List Int × Int := if tOk sp dp fl wi ur opts then (if (data.length : Int) > 2008 - (opts.length : Int) then ([], 3) else (tBytes s d sp dp seq ack fl wi ur opts data, 0)) else ([], 1)
theorem twithin_loop (m : Int) (l : List Int) (hl : l.length ≤ 1000) (rem : Nat) : ∀ (k i : Nat), i + rem = l.length → rem < k → tcp_within.l0 k m l (l.length : Int) i = some (decide (∀ x ∈ l.drop i, 0 ≤ x ∧ x ≤ m)) := by
  induction rem with
  | zero =>
    intro k i h hk
    obtain ⟨k, rfl⟩ : ∃ q, k = q + 1 := ⟨k - 1, by omega⟩
    rw [tcp_within.l0, if_neg (by omega), List.drop_of_length_le (by omega)]
    simp
  | succ rem ih =>
    intro k i h hk
    obtain ⟨k, rfl⟩ : ∃ q, k = q + 1 := ⟨k - 1, by omega⟩
    rw [tcp_within.l0, if_pos (by omega), if_pos (by omega), if_pos (by omega), drop_rd l i (by omega)]
    by_cases h1 : rd l (i : Int) < 0
    · rw [if_pos h1, decide_eq_false]
      intro hx
      have := hx (rd l (i : Int)) (by simp)
      omega
    by_cases h2 : rd l (i : Int) > m
    · rw [if_neg h1, if_pos h2, decide_eq_false]
      intro hx
      have := hx (rd l (i : Int)) (by simp)
      omega
    rw [if_neg h1, if_neg h2, show wrap64 ((i : Int) + 1) = ((i + 1 : Nat) : Int) by rw [w64 (by omega) (by omega)]; simp, ih k (i + 1) (by omega) (by omega)]
    simp
    omega
theorem twithin_to (m : Int) (l : List Int) (hl : l.length ≤ 8) : tcp_within.f 10 m l = some (decide (∀ x ∈ l, 0 ≤ x ∧ x ≤ m)) := by
  unfold tcp_within.f
  have := twithin_loop m l (by omega) l.length 10 0 (by omega) (by omega)
  simpa using this
theorem tbad_to (sp dp fl wi ur : Int) (opts : List Int) : tcp_Build.bad sp dp fl wi ur opts = some (decide (¬ tOk sp dp fl wi ur opts)) := by
  unfold tcp_Build.bad
  rw [twithin_to _ _ (by simp), Option.bind_some, twithin_to _ _ (by simp)]
  by_cases h1 : (0 ≤ sp ∧ sp ≤ 65535) ∧ (0 ≤ dp ∧ dp ≤ 65535) ∧ (0 ≤ wi ∧ wi ≤ 65535) ∧ (0 ≤ ur ∧ ur ≤ 65535)
  · rw [if_pos (decide_eq_true (by simpa using h1)), Option.bind_some]
    by_cases h2 : 0 ≤ fl ∧ fl ≤ 255
    · rw [if_pos (decide_eq_true (by simpa using h2))]
      have e : Int.tmod (opts.length : Int) 4 = ((opts.length % 4 : Nat) : Int) := by rw [Int.tmod_eq_emod_of_nonneg (by omega)]; simp
      by_cases h3 : (opts.length : Int) > 40
      · rw [if_pos h3, decide_eq_true]
        unfold tOk
        omega
      · rw [if_neg h3, e]
        congr 1
        rw [decide_eq_decide]
        unfold tOk
        omega
    · rw [if_neg (by simpa using h2), decide_eq_true]
      unfold tOk
      omega
  · rw [if_neg (by simpa using h1), decide_eq_true]
    unfold tOk
    omega
theorem u8w (x : Int) : IntKind.u8.wrap x = x % 256 := IntKind.wrap_u8 x
theorem lays1 (x : Int) : tcp_Build.lays 1 x = [x % 256] := by
  simp only [tcp_Build.lays, u8w]
  rw [show (2 : Int) ^ min (8 * ((0 : Nat) : Int)).toNat 64 = 1 by decide, Int.ediv_one]
theorem lays2 (x : Int) : tcp_Build.lays 2 x = [x / 256 % 256, x % 256] := by
  rw [tcp_Build.lays, lays1, u8w, show (2 : Int) ^ min (8 * ((1 : Nat) : Int)).toNat 64 = 256 by decide]
theorem lays4 (x : Int) : tcp_Build.lays 4 x = [x / 16777216 % 256, x / 65536 % 256, x / 256 % 256, x % 256] := by
  rw [tcp_Build.lays, tcp_Build.lays, lays2, u8w, u8w, show (2 : Int) ^ min (8 * ((3 : Nat) : Int)).toNat 64 = 16777216 by decide, show (2 : Int) ^ min (8 * ((2 : Nat) : Int)).toNat 64 = 65536 by decide]
theorem tpre_to (sp dp seq ack fl wi ur : Int) (opts : List Int) (hs : 0 ≤ seq ∧ seq < 4294967296) (ha : 0 ≤ ack ∧ ack < 4294967296) (ho : opts.length ≤ 40) : tcp_Build.pre sp dp seq ack fl wi ur opts = tHead sp dp seq ack opts.length fl wi 0 ur := by
  unfold tcp_Build.pre
  rw [lays2, lays2, lays4, lays4, lays1, lays1, lays2, lays2, lays2, w64 (by omega) (by omega), w64 (by omega) (by omega), Int.tdiv_eq_ediv_of_nonneg (by omega), w64 (x := (20 + (opts.length : Int)) / 4) (by omega) (by omega), w64 (by omega) (by omega)]
  rfl
theorem tMsg_set (sp dp seq ack fl wi ur c : Int) (opts data : List Int) : ((tMsg sp dp seq ack fl wi ur 0 opts data).set 16 (c / 256 % 256)).set 17 (c % 256) = tMsg sp dp seq ack fl wi ur c opts data := rfl
theorem tBuild_to (s d sp dp seq ack fl wi ur : Int) (opts data : List Int) (hs : 0 ≤ s ∧ s < 4294967296) (hd : 0 ≤ d ∧ d < 4294967296) (hseq : 0 ≤ seq ∧ seq < 4294967296) (hack : 0 ≤ ack ∧ ack < 4294967296) (ho : Bytes opts) (hb : Bytes data) :
    tcp_Build.f s d sp dp seq ack fl wi ur opts data = some (tBuild s d sp dp seq ack fl wi ur opts data) := by
  unfold tcp_Build.f tBuild
  rw [tbad_to, Option.bind_some]
  by_cases h : tOk sp dp fl wi ur opts
  · rw [if_neg (by simpa using h), if_pos h]
    by_cases h5 : (data.length : Int) > 2008 - (opts.length : Int)
    · rw [if_pos h5, if_pos h5]
    · have hl : opts.length ≤ 40 := h.2.2.2.2.2.1
      have em : tcp_Build.msg sp dp seq ack fl wi ur opts data = tMsg sp dp seq ack fl wi ur 0 opts data := by
        unfold tcp_Build.msg
        rw [tpre_to _ _ _ _ _ _ _ _ hseq hack hl]
        rfl
      have hB := (pseudo_bytes s d 6 ((tMsg sp dp seq ack fl wi ur 0 opts data).length : Int)).append (tMsg_bytes sp dp seq ack fl wi ur 0 opts data ho hb)
      rw [if_neg h5, if_neg h5, em, pseudo_to s d 6 _ hs hd 20 (by omega), Option.bind_some, check_to _ (by rw [two_flat]; exact hB) (by rw [two_flat, List.length_append, tMsg_len]; simp [pseudo]; omega), two_flat, Option.bind_some]
      rfl
  · rw [if_pos (by simpa using h), if_neg h]
/-- Reading. -/
def tParse (s d : Int) (l : List Int) : Int × Int × Int × Int × Int × Int × Int × List Int × List Int × Int :=
  if (l.length : Int) < 20 then (0, 0, 0, 0, 0, 0, 0, [], [], 2)
  else if rd l 12 / 16 * 4 < 20 ∨ rd l 12 % 16 ≠ 0 then (0, 0, 0, 0, 0, 0, 0, [], [], 4)
  else if rd l 12 / 16 * 4 > (l.length : Int) then (0, 0, 0, 0, 0, 0, 0, [], [], 2)
  else if tSum s d l = 65535 then (two l 0, two l 2, four l 4, four l 8, rd l 13, two l 14, two l 18, (l.take (rd l 12 / 16 * 4).toNat).drop 20, l.drop (rd l 12 / 16 * 4).toNat, 0)
  else (0, 0, 0, 0, 0, 0, 0, [], [], 5)
theorem tget2 (l : List Int) (a : Nat) (hb : Bytes l) (h : a + 2 ≤ l.length) : tcp_get.f l a 2 = some (two l a) := by
  unfold tcp_get.f
  have := two_bound l a hb h
  rw [get2_to l a hb h, Option.bind_some, w64 (by omega) (by omega)]
theorem tget4 (l : List Int) (a : Nat) (hb : Bytes l) (h : a + 4 ≤ l.length) : tcp_get.f l a 4 = some (four l a) := by
  unfold tcp_get.f
  have := four_bound l a hb h
  rw [get4_to l a hb h, Option.bind_some, w64 (by omega) (by omega)]
theorem u32w (x : Int) (h : 0 ≤ x ∧ x < 4294967296) : IntKind.u32.wrap x = x := by rw [IntKind.wrap_u32]; omega
theorem tParse_to (s d : Int) (l : List Int) (hs : 0 ≤ s ∧ s < 4294967296) (hd : 0 ≤ d ∧ d < 4294967296) (hb : Bytes l) (hl : l.length ≤ 1000000) : tcp_Parse.f s d l = some (tParse s d l) := by
  unfold tcp_Parse.f tParse tcp_Parse.zero
  by_cases h : (l.length : Int) < 20
  · rw [if_pos h, if_pos h]
  have b12 := hb.get 12 (by omega)
  have b13 := hb.get 13 (by omega)
  rw [show ((12 : Nat) : Int) = 12 from rfl] at b12
  rw [show ((13 : Nat) : Int) = 13 from rfl] at b13
  rw [if_neg h, if_neg h, if_neg (by omega), if_neg (by omega)]
  by_cases h1 : rd l 12 / 16 * 4 < 20
  · rw [if_pos h1, if_pos (.inl h1)]
  by_cases h2 : rd l 12 % 16 ≠ 0
  · rw [if_neg h1, if_pos h2, if_pos (.inr h2)]
  rw [if_neg h1, if_neg h2, if_neg (show ¬ (rd l 12 / 16 * 4 < 20 ∨ rd l 12 % 16 ≠ 0) by omega)]
  by_cases h3 : rd l 12 / 16 * 4 > (l.length : Int)
  · rw [if_pos h3, if_pos h3]
  have hB := (pseudo_bytes s d 6 (l.length : Int)).append hb
  rw [if_neg h3, if_neg h3, pseudo_to s d 6 _ hs hd 20 (by omega), Option.bind_some, sum_to _ (by rw [two_flat]; exact hB) (by rw [two_flat, List.length_append]; simp [pseudo]; omega), two_flat, Option.bind_some]
  unfold tSum
  by_cases hq : sumOf (pseudo s d 6 (l.length : Int) ++ l) = 65535
  · have g0 := tget2 l 0 hb (by omega)
    have g2 := tget2 l 2 hb (by omega)
    have g4 := tget4 l 4 hb (by omega)
    have g8 := tget4 l 8 hb (by omega)
    have g14 := tget2 l 14 hb (by omega)
    have g18 := tget2 l 18 hb (by omega)
    rw [show ((0 : Nat) : Int) = 0 from rfl] at g0
    rw [show ((2 : Nat) : Int) = 2 from rfl] at g2
    rw [show ((4 : Nat) : Int) = 4 from rfl] at g4
    rw [show ((8 : Nat) : Int) = 8 from rfl] at g8
    rw [show ((14 : Nat) : Int) = 14 from rfl] at g14
    rw [show ((18 : Nat) : Int) = 18 from rfl] at g18
    rw [if_pos hq, if_pos hq, g0, Option.bind_some, g2, Option.bind_some, g4, Option.bind_some, g8, Option.bind_some, g14, Option.bind_some, g18, Option.bind_some, u32w _ (four_bound l 4 hb (by omega)), u32w _ (four_bound l 8 hb (by omega))]
  · rw [if_neg hq, if_neg hq]
end Go.Proofs.Ythnhpbplglmmmaa.Pure
