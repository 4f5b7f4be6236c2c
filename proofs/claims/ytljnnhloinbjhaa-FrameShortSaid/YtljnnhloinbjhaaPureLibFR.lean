/- What a frame is: the plain answer of frame.Read. No statement of its own. -/
import Derived.Test.YtljnnhloinbjhaaPicmp
import Derived.Test.YtljnnhloinbjhaaPureLibFQ
import Derived.Test.YtljnnhloinbjhaaPureLibIpP
import Derived.Test.YtljnnhloinbjhaaPureLibT
import Derived.Test.YtljnnhloinbjhaaPureLibIa
import Derived.Test.YtljnnhloinbjhaaPframeRead
namespace Go.Proofs.Ytljnnhloinbjhaa.Pure
open Go.RowKit Go.Proofs.Ytljnnhloinbjhaa.P Go.Proofs.YtljnnhloinbjhaaW.PrintWords Go.Proofs.YtljnnhloinbjhaaW.PrintLast Go.Proofs.YtljnnhloinbjhaaW.PrintMore
set_option linter.unusedVariables false
set_option linter.unusedSimpArgs false
def fwhy (e : Int) : Int := if e = 0 then 0 else if e = 5 then 2 else 1
theorem fwhy_to (e : Int) : frame_why.f e = some (fwhy e) := by
  unfold frame_why.f fwhy
  split
  · rfl
  · split <;> rfl
def ikind (t c : Int) : Int := if t = 8 then (if c = 0 then 3 else 0) else if t = 0 then (if c = 0 then 4 else 0) else if t = 3 then 5 else if t = 11 then 5 else if t = 12 then 5 else 0
theorem ikind_to (t c r : Int) (d : List Int) : icmp_Kind.f t c r d = some (ikind t c) := by
  unfold icmp_Kind.f ikind
  repeat' split
  all_goals rfl
def fword (src dst : Int) (p : Int × Int × Int × List Int × Int) : Int × Int × Int × Int × Int × Int × Int × Int × Int × Int × Int × Int :=
  if p.2.2.2.2 ≠ 0 then (0, 0, 0, 0, 0, 0, 0, 0, 0, 0, 0, fwhy p.2.2.2.2)
  else if ikind p.1 p.2.1 = 0 then (0, 0, 0, 0, 0, 0, 0, 0, 0, 0, 0, 4)
  else if ikind p.1 p.2.1 = 5 then
    (if (fquote p.2.2.2.1).2.2.2.2.2 = false then (5, 0, 0, 0, 0, 0, 0, 0, 0, 0, 0, 1)
     else (5, src, 0, dst, 0, 0, (fquote p.2.2.2.1).1, (fquote p.2.2.2.1).2.1, (fquote p.2.2.2.1).2.2.1, (fquote p.2.2.2.1).2.2.2.1, (fquote p.2.2.2.1).2.2.2.2.1, 0))
  else (ikind p.1 p.2.1, src, wrap64 (p.2.2.1 / 65536), dst, wrap64 (p.2.2.1 / 65536), 0, 0, 0, 0, 0, 0, 0)
def fpart (proto src dst : Int) (l : List Int) : Int × Int × Int × Int × Int × Int × Int × Int × Int × Int × Int × Int :=
  if proto = 17 then (1, src, (uParse src dst l).1, dst, (uParse src dst l).2.1, 0, 0, 0, 0, 0, 0, fwhy (uParse src dst l).2.2.2.2)
  else if proto = 6 then (2, src, (tParse src dst l).1, dst, (tParse src dst l).2.1, (tParse src dst l).2.2.2.2.1, 0, 0, 0, 0, 0, fwhy (tParse src dst l).2.2.2.2.2.2.2.2.2)
  else if proto = 1 then fword src dst (iParse l)
  else (0, 0, 0, 0, 0, 0, 0, 0, 0, 0, 0, 4)
theorem fpart_to (proto src dst : Int) (l : List Int) (hs : 0 ≤ src ∧ src < 4294967296) (hd : 0 ≤ dst ∧ dst < 4294967296) (hb : Bytes l) (hl : l.length ≤ 100000) (k : Nat) (hk : 20 ≤ k) : frame_Read.part k proto src dst l = some (fpart proto src dst l) := by
  unfold frame_Read.part fpart
  by_cases c1 : proto = 17
  · rw [if_pos c1, if_pos c1]
    unfold frame_reader_udp.f
    rw [uParse_to src dst l hs hd hb (by omega) k hk, Option.bind_some, fwhy_to, Option.bind_some]
  rw [if_neg c1, if_neg c1]
  by_cases c2 : proto = 6
  · rw [if_pos c2, if_pos c2]
    unfold frame_reader_tcp.f
    rw [tParse_to src dst l hs hd hb (by omega), Option.bind_some, fwhy_to, Option.bind_some]
  rw [if_neg c2, if_neg c2]
  by_cases c3 : proto = 1
  · rw [if_pos c3, if_pos c3]
    unfold frame_reader_icmp.f
    rw [iParse_to l hb hl, Option.bind_some]
    have hq : Bytes (iParse l).2.2.2.1 := by
      unfold iParse
      split
      · exact fun c hc => by cases hc
      · split
        · exact fun c hc => hb c (List.mem_of_mem_drop hc)
        · exact fun c hc => by cases hc
    revert hq
    generalize iParse l = ip
    intro hq
    obtain ⟨t, c, r, d, e⟩ := ip
    unfold fword
    show (if e ≠ 0 then _ else _) = _
    by_cases d1 : e ≠ 0
    · rw [if_pos d1, if_pos d1, fwhy_to, Option.bind_some]
    rw [if_neg d1, if_neg d1, ikind_to, Option.bind_some]
    show (if ikind t c = 0 then _ else _) = some (if ikind t c = 0 then _ else _)
    by_cases d2 : ikind t c = 0
    · rw [if_pos d2, if_pos d2]
    rw [if_neg d2, if_neg d2]
    by_cases d3 : ikind t c = 5
    · rw [if_pos d3, if_pos d3, fquote_frame d hq, Option.bind_some]
      show _ = some (if (fquote d).2.2.2.2.2 = false then _ else _)
      obtain ⟨i1, i2, i3, i4, i5, ok⟩ := fquote d
      show (if ok = false then _ else _) = some (if ok = false then _ else _)
      split <;> rfl
    · rw [if_neg d3, if_neg d3]
      unfold icmp_Number.f
      rfl
  rw [if_neg c3, if_neg c3]
  rfl
def fzero (y : Int) : Int × Int × Bool × Bool × Int × Int × Int × Int × Int × List Int × List Int × Int × Int × Int × Int × Int × Int × Int × Int × Int × Int × Int × Int := (0, 0, false, false, 0, 0, 0, 0, 0, [], [], 0, 0, 0, 0, 0, 0, 0, 0, 0, 0, 0, y)
def fjoin (p : Int × Int × Bool × Bool × Int × Int × Int × Int × Int × List Int × List Int × Int) (x : Int × Int × Int × Int × Int × Int × Int × Int × Int × Int × Int × Int) : Int × Int × Bool × Bool × Int × Int × Int × Int × Int × List Int × List Int × Int × Int × Int × Int × Int × Int × Int × Int × Int × Int × Int × Int :=
  if x.2.2.2.2.2.2.2.2.2.2.2 ≠ 0 then fzero x.2.2.2.2.2.2.2.2.2.2.2 else (p.1, p.2.1, p.2.2.1, p.2.2.2.1, p.2.2.2.2.1, p.2.2.2.2.2.1, p.2.2.2.2.2.2.1, p.2.2.2.2.2.2.2.1, p.2.2.2.2.2.2.2.2.1, p.2.2.2.2.2.2.2.2.2.1, p.2.2.2.2.2.2.2.2.2.2.1, x)
def fRead (l : List Int) : Int × Int × Bool × Bool × Int × Int × Int × Int × Int × List Int × List Int × Int × Int × Int × Int × Int × Int × Int × Int × Int × Int × Int × Int :=
  if (ipOf l).2.2.2.2.2.2.2.2.2.2.2 ≠ 0 then fzero (fwhy (ipOf l).2.2.2.2.2.2.2.2.2.2.2)
  else if (ipOf l).2.2.2.1 = true then fzero 3
  else if (ipOf l).2.2.2.2.1 ≠ 0 then fzero 3
  else fjoin (ipOf l) (fpart (ipOf l).2.2.2.2.2.2.1 (ipOf l).2.2.2.2.2.2.2.1 (ipOf l).2.2.2.2.2.2.2.2.1 (ipOf l).2.2.2.2.2.2.2.2.2.2.1)
theorem ipOf_good (l : List Int) (h : (ipOf l).2.2.2.2.2.2.2.2.2.2.2 = 0) :
    20 ≤ l.length ∧ l.length ≤ 2048 ∧ rd l 0 / 16 = 4 ∧ 20 ≤ ihead l ∧ ihead l ≤ two l 2 ∧ two l 2 ≤ (l.length : Int) ∧
    ipOf l = (rd l 1, two l 4, (Go.bits .and .i64 (two l 6) 16384 != 0), (Go.bits .and .i64 (two l 6) 8192 != 0), Go.bits .and .i64 (two l 6) 8191, rd l 8, rd l 9, four l 12, four l 16, (l.take (ihead l).toNat).drop 20, (l.take (two l 2).toNat).drop (ihead l).toNat, 0) := by
  unfold ipOf at h ⊢
  by_cases c1 : (l.length : Int) > 2048
  · rw [if_pos c1] at h; exact absurd h (by simp [izero])
  rw [if_neg c1] at h ⊢
  by_cases c2 : (l.length : Int) < 20
  · rw [if_pos c2] at h; exact absurd h (by simp [izero])
  rw [if_neg c2] at h ⊢
  by_cases c3 : rd l 0 / 16 ≠ 4 ∨ ihead l < 20
  · rw [if_pos c3] at h; exact absurd h (by simp [izero])
  rw [if_neg c3] at h ⊢
  by_cases c4 : (l.length : Int) < ihead l
  · rw [if_pos c4] at h; exact absurd h (by simp [izero])
  rw [if_neg c4] at h ⊢
  by_cases c5 : two l 2 < ihead l ∨ Go.bits .and .i64 (two l 6) 32768 ≠ 0
  · rw [if_pos c5] at h; exact absurd h (by simp [izero])
  rw [if_neg c5] at h ⊢
  by_cases c6 : two l 2 > (l.length : Int)
  · rw [if_pos c6] at h; exact absurd h (by simp [izero])
  rw [if_neg c6] at h ⊢
  by_cases c7 : sumOf (l.take (ihead l).toNat) ≠ 65535
  · rw [if_pos c7] at h; exact absurd h (by simp [izero])
  rw [if_neg c7] at h ⊢
  exact ⟨by omega, by omega, by omega, by omega, by omega, by omega, rfl⟩
theorem fRead_to (l : List Int) (hb : Bytes l) (k : Nat) (hk : 20 ≤ k) : frame_Read.f k l = some (fRead l) := by
  unfold frame_Read.f fRead
  rw [ipParse_to l hb, Option.bind_some]
  by_cases c1 : (ipOf l).2.2.2.2.2.2.2.2.2.2.2 ≠ 0
  · rw [if_pos c1]
    revert c1
    generalize ipOf l = ip
    obtain ⟨q0, q1, q2, q3, q4, q5, q6, q7, q8, q9, q10, q11⟩ := ip
    intro c1
    show (if q11 ≠ 0 then _ else _) = _
    rw [if_pos c1, fwhy_to]
    rfl
  obtain ⟨g1, g2, g3, g4, g5, g6, g7⟩ := ipOf_good l (Classical.not_not.1 c1)
  have hs := four_bound l 12 hb (by omega)
  have hd := four_bound l 16 hb (by omega)
  have hbb : Bytes ((l.take (two l 2).toNat).drop (ihead l).toNat) := fun c hc => hb c (List.mem_of_mem_take (List.mem_of_mem_drop hc))
  have hbl : ((l.take (two l 2).toNat).drop (ihead l).toNat).length ≤ 100000 := by rw [List.length_drop, List.length_take]; omega
  have hp := fpart_to (rd l 9) (four l 12) (four l 16) _ hs hd hbb hbl k hk
  rw [if_neg c1, g7]
  show (if (0 : Int) ≠ 0 then _ else _) = _
  rw [if_neg (by decide)]
  show (if (Go.bits .and .i64 (two l 6) 8192 != 0) = true then _ else _) = some (if (Go.bits .and .i64 (two l 6) 8192 != 0) = true then _ else _)
  by_cases c2 : (Go.bits .and .i64 (two l 6) 8192 != 0) = true
  · rw [if_pos c2, if_pos c2]; rfl
  rw [if_neg c2, if_neg c2]
  show (if Go.bits .and .i64 (two l 6) 8191 ≠ 0 then _ else _) = some (if Go.bits .and .i64 (two l 6) 8191 ≠ 0 then _ else _)
  by_cases c3 : Go.bits .and .i64 (two l 6) 8191 ≠ 0
  · rw [if_pos c3, if_pos c3]; rfl
  rw [if_neg c3, if_neg c3, hp, Option.bind_some]
  show _ = some (fjoin _ (fpart (rd l 9) (four l 12) (four l 16) ((l.take (two l 2).toNat).drop (ihead l).toNat)))
  obtain ⟨x11, x12, x13, x14, x15, x16, x17, x18, x19, x20, x21, x22⟩ := fpart (rd l 9) (four l 12) (four l 16) ((l.take (two l 2).toNat).drop (ihead l).toNat)
  unfold fjoin
  show (if x22 ≠ 0 then _ else _) = some (if x22 ≠ 0 then _ else _)
  split <;> rfl
end Go.Proofs.Ytljnnhloinbjhaa.Pure
