/- Plain lemmas on tcp: the segment that is built, and what is read of bytes. No program in sight. -/
import Derived.Test.YtljnnhloinbjhaaPtcp
import Derived.Test.YtljnnhloinbjhaaPureLibU
namespace Go.Proofs.Ytljnnhloinbjhaa.Pure
open Go.RowKit Go.Proofs.Ytljnnhloinbjhaa.P Go.Proofs.YtljnnhloinbjhaaW.PrintWords Go.Proofs.YtljnnhloinbjhaaW.PrintLast Go.Proofs.YtljnnhloinbjhaaW.PrintMore
set_option linter.unusedVariables false
set_option linter.unusedSimpArgs false
/-- The twenty bytes of a segment's header, its check c laid in. -/
def tHead (sp dp seq ack n fl wi c ur : Int) : List Int := [sp / 256 % 256, sp % 256, dp / 256 % 256, dp % 256, seq / 16777216 % 256, seq / 65536 % 256, seq / 256 % 256, seq % 256, ack / 16777216 % 256, ack / 65536 % 256, ack / 256 % 256, ack % 256, (20 + n) / 4 * 16 % 256, fl % 256, wi / 256 % 256, wi % 256, c / 256 % 256, c % 256, ur / 256 % 256, ur % 256]
def tMsg (sp dp seq ack fl wi ur c : Int) (opts data : List Int) : List Int := tHead sp dp seq ack opts.length fl wi c ur ++ opts ++ data
theorem tHead_len (sp dp seq ack n fl wi c ur : Int) : (tHead sp dp seq ack n fl wi c ur).length = 20 := rfl
theorem tHead_bytes (sp dp seq ack n fl wi c ur : Int) : Bytes (tHead sp dp seq ack n fl wi c ur) := by
  intro x hx
  unfold tHead at hx
  simp only [List.mem_cons, List.not_mem_nil, or_false] at hx
  rcases hx with rfl | rfl | rfl | rfl | rfl | rfl | rfl | rfl | rfl | rfl | rfl | rfl | rfl | rfl | rfl | rfl | rfl | rfl | rfl | rfl <;> omega
theorem tMsg_len (sp dp seq ack fl wi ur c : Int) (opts data : List Int) : (tMsg sp dp seq ack fl wi ur c opts data).length = 20 + opts.length + data.length := by
  unfold tMsg
  rw [List.length_append, List.length_append, tHead_len]
theorem tMsg_bytes (sp dp seq ack fl wi ur c : Int) (opts data : List Int) (ho : Bytes opts) (hd : Bytes data) : Bytes (tMsg sp dp seq ack fl wi ur c opts data) := Bytes.append (Bytes.append (tHead_bytes _ _ _ _ _ _ _ _ _) ho) hd
def tSum (s d : Int) (m : List Int) : Int := sumOf (pseudo s d 6 m.length ++ m)
def tCheck (s d sp dp seq ack fl wi ur : Int) (opts data : List Int) : Int := 65535 - tSum s d (tMsg sp dp seq ack fl wi ur 0 opts data)
theorem tCheck_bound (s d sp dp seq ack fl wi ur : Int) (opts data : List Int) : 0 ≤ tCheck s d sp dp seq ack fl wi ur opts data ∧ tCheck s d sp dp seq ack fl wi ur opts data ≤ 65535 := by
  have := sumOf_bound (pseudo s d 6 (tMsg sp dp seq ack fl wi ur 0 opts data).length ++ tMsg sp dp seq ack fl wi ur 0 opts data)
  unfold tCheck tSum
  omega
def tBytes (s d sp dp seq ack fl wi ur : Int) (opts data : List Int) : List Int := tMsg sp dp seq ack fl wi ur (tCheck s d sp dp seq ack fl wi ur opts data) opts data
def tOk (sp dp fl wi ur : Int) (opts : List Int) : Prop := (0 ≤ sp ∧ sp ≤ 65535) ∧ (0 ≤ dp ∧ dp ≤ 65535) ∧ (0 ≤ wi ∧ wi ≤ 65535) ∧ (0 ≤ ur ∧ ur ≤ 65535) ∧ (0 ≤ fl ∧ fl ≤ 255) ∧ opts.length ≤ 40 ∧ opts.length % 4 = 0
instance (sp dp fl wi ur : Int) (opts : List Int) : Decidable (tOk sp dp fl wi ur opts) := by unfold tOk; infer_instance
def tBuild (s d sp dp seq ack fl wi ur : Int) (opts data : List Int) : List Int × Int := if tOk sp dp fl wi ur opts then (if (data.length : Int) > 2008 - (opts.length : Int) then ([], 3) else (tBytes s d sp dp seq ack fl wi ur opts data, 0)) else ([], 1)
theorem u8w (x : Int) : IntKind.u8.wrap x = x % 256 := IntKind.wrap_u8 x
theorem tMsg_set (sp dp seq ack fl wi ur c : Int) (opts data : List Int) : ((tMsg sp dp seq ack fl wi ur 0 opts data).set 16 (c / 256 % 256)).set 17 (c % 256) = tMsg sp dp seq ack fl wi ur c opts data := rfl
/-- Reading. -/
def tParse (s d : Int) (l : List Int) : Int × Int × Int × Int × Int × Int × Int × List Int × List Int × Int :=
  if (l.length : Int) < 20 then (0, 0, 0, 0, 0, 0, 0, [], [], 2)
  else if rd l 12 / 16 * 4 < 20 ∨ rd l 12 % 16 ≠ 0 then (0, 0, 0, 0, 0, 0, 0, [], [], 4)
  else if rd l 12 / 16 * 4 > (l.length : Int) then (0, 0, 0, 0, 0, 0, 0, [], [], 2)
  else if tSum s d l = 65535 then (two l 0, two l 2, four l 4, four l 8, rd l 13, two l 14, two l 18, (l.take (rd l 12 / 16 * 4).toNat).drop 20, l.drop (rd l 12 / 16 * 4).toNat, 0)
  else (0, 0, 0, 0, 0, 0, 0, [], [], 5)
theorem tget2 (l : List Int) (a : Nat) (hb : Bytes l) (h : a + 2 ≤ l.length) : tcp_get.f l a 2 = some (two l a) := by
  unfold tcp_get.f
  have := two_bound l a hb h
  rw [get2_to l a hb h, Option.bind_some, w64 (by omega) (by omega)]
theorem tget4 (l : List Int) (a : Nat) (hb : Bytes l) (h : a + 4 ≤ l.length) : tcp_get.f l a 4 = some (four l a) := by
  unfold tcp_get.f
  have := four_bound l a hb h
  rw [get4_to l a hb h, Option.bind_some, w64 (by omega) (by omega)]
theorem u32w (x : Int) (h : 0 ≤ x ∧ x < 4294967296) : IntKind.u32.wrap x = x := by rw [IntKind.wrap_u32]; omega
theorem tParse_to (s d : Int) (l : List Int) (hs : 0 ≤ s ∧ s < 4294967296) (hd : 0 ≤ d ∧ d < 4294967296) (hb : Bytes l) (hl : l.length ≤ 1000000) : tcp_Parse.f s d l = some (tParse s d l) := by
  unfold tcp_Parse.f tParse tcp_Parse.zero
  by_cases h : (l.length : Int) < 20
  · rw [if_pos h, if_pos h]
  have b12 := hb.get 12 (by omega)
  have b13 := hb.get 13 (by omega)
  rw [show ((12 : Nat) : Int) = 12 from rfl] at b12
  rw [show ((13 : Nat) : Int) = 13 from rfl] at b13
  rw [if_neg h, if_neg h, if_neg (by omega), if_neg (by omega)]
  by_cases h1 : rd l 12 / 16 * 4 < 20
  · rw [if_pos h1, if_pos (.inl h1)]
  by_cases h2 : rd l 12 % 16 ≠ 0
  · rw [if_neg h1, if_pos h2, if_pos (.inr h2)]
  rw [if_neg h1, if_neg h2, if_neg (show ¬ (rd l 12 / 16 * 4 < 20 ∨ rd l 12 % 16 ≠ 0) by omega)]
  by_cases h3 : rd l 12 / 16 * 4 > (l.length : Int)
  · rw [if_pos h3, if_pos h3]
  have hB := (pseudo_bytes s d 6 (l.length : Int)).append hb
  rw [if_neg h3, if_neg h3, pseudo_to s d 6 _ hs hd 20 (by omega), Option.bind_some, sum_to _ (by rw [two_flat]; exact hB) (by rw [two_flat, List.length_append]; simp [pseudo]; omega), two_flat, Option.bind_some]
  unfold tSum
  by_cases hq : sumOf (pseudo s d 6 (l.length : Int) ++ l) = 65535
  · have g0 := tget2 l 0 hb (by omega)
    have g2 := tget2 l 2 hb (by omega)
    have g4 := tget4 l 4 hb (by omega)
    have g8 := tget4 l 8 hb (by omega)
    have g14 := tget2 l 14 hb (by omega)
    have g18 := tget2 l 18 hb (by omega)
    rw [show ((0 : Nat) : Int) = 0 from rfl] at g0
    rw [show ((2 : Nat) : Int) = 2 from rfl] at g2
    rw [show ((4 : Nat) : Int) = 4 from rfl] at g4
    rw [show ((8 : Nat) : Int) = 8 from rfl] at g8
    rw [show ((14 : Nat) : Int) = 14 from rfl] at g14
    rw [show ((18 : Nat) : Int) = 18 from rfl] at g18
    rw [if_pos hq, if_pos hq, g0, Option.bind_some, g2, Option.bind_some, g4, Option.bind_some, g8, Option.bind_some, g14, Option.bind_some, g18, Option.bind_some, u32w _ (four_bound l 4 hb (by omega)), u32w _ (four_bound l 8 hb (by omega))]
  · rw [if_neg hq, if_neg hq]
end Go.Proofs.Ytljnnhloinbjhaa.Pure
