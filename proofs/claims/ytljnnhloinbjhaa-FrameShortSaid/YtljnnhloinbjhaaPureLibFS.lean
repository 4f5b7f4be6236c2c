/- A frame that is read: what its first bytes quote. No statement of its own. -/
import Derived.Test.YtljnnhloinbjhaaPframe
import Derived.Test.YtljnnhloinbjhaaPureLibFR
namespace Go.Proofs.Ytljnnhloinbjhaa.Pure
open Go.RowKit Go.Proofs.Ytljnnhloinbjhaa.P Go.Proofs.YtljnnhloinbjhaaW.PrintWords Go.Proofs.YtljnnhloinbjhaaW.PrintLast Go.Proofs.YtljnnhloinbjhaaW.PrintMore
set_option linter.unusedVariables false
set_option linter.unusedSimpArgs false
theorem s_take (l : List Int) (m i : Nat) (h : i < m) : rd (l.take m) (i : Int) = rd l (i : Int) := by
  rw [rd_getD, rd_getD, List.getD_eq_getElem?_getD, List.getD_eq_getElem?_getD, List.getElem?_take, if_pos h]
theorem s_body (l : List Int) (n m i : Nat) (h : m + i < n) : rd ((l.take n).drop m) (i : Int) = rd l ((m + i : Nat) : Int) := by
  rw [rd_getD, rd_getD, List.getD_eq_getElem?_getD, List.getD_eq_getElem?_getD, List.getElem?_drop, List.getElem?_take, if_pos h]
theorem s_two (l : List Int) (m a : Nat) (h : a + 2 ≤ m) : two (l.take m) a = two l a := by
  unfold two
  rw [s_take l m a (by omega), s_take l m (a + 1) (by omega)]
theorem s_four (l : List Int) (m a : Nat) (h : a + 4 ≤ m) : four (l.take m) a = four l a := by
  unfold four
  rw [s_take l m a (by omega), s_take l m (a + 1) (by omega), s_take l m (a + 2) (by omega), s_take l m (a + 3) (by omega)]
theorem s_two_body (l : List Int) (n m a : Nat) (h : m + a + 2 ≤ n) : two ((l.take n).drop m) a = two l (m + a) := by
  unfold two
  rw [s_body l n m a (by omega), s_body l n m (a + 1) (by omega), Nat.add_assoc]
theorem fwhy_zero {e : Int} (h : fwhy e = 0) : e = 0 := by
  unfold fwhy at h
  split at h
  · assumption
  · split at h <;> exact absurd h (by decide)
theorem fjoin_good (p) (x : Int × Int × Int × Int × Int × Int × Int × Int × Int × Int × Int × Int) (h : (fjoin p x).2.2.2.2.2.2.2.2.2.2.2.2.2.2.2.2.2.2.2.2.2.2 = 0) : x.2.2.2.2.2.2.2.2.2.2.2 = 0 ∧ fjoin p x = (p.1, p.2.1, p.2.2.1, p.2.2.2.1, p.2.2.2.2.1, p.2.2.2.2.2.1, p.2.2.2.2.2.2.1, p.2.2.2.2.2.2.2.1, p.2.2.2.2.2.2.2.2.1, p.2.2.2.2.2.2.2.2.2.1, p.2.2.2.2.2.2.2.2.2.2.1, x) := by
  unfold fjoin at h ⊢
  by_cases c : x.2.2.2.2.2.2.2.2.2.2.2 ≠ 0
  · rw [if_pos c] at h
    exact absurd h c
  · rw [if_neg c]
    exact ⟨Classical.not_not.1 c, rfl⟩
def fbody (l : List Int) : List Int := (l.take (two l 2).toNat).drop (ihead l).toNat
theorem fRead_good (l : List Int) (hb : Bytes l) (h : (fRead l).2.2.2.2.2.2.2.2.2.2.2.2.2.2.2.2.2.2.2.2.2.2 = 0) :
    (20 ≤ l.length ∧ l.length ≤ 2048 ∧ rd l 0 / 16 = 4 ∧ 20 ≤ ihead l ∧ ihead l ≤ two l 2 ∧ two l 2 ≤ (l.length : Int)) ∧ two l 6 % 8192 = 0 ∧ (Go.bits .and .i64 (two l 6) 8192 != 0) = false ∧
    (fpart (rd l 9) (four l 12) (four l 16) (fbody l)).2.2.2.2.2.2.2.2.2.2.2 = 0 ∧
    fRead l = (rd l 1, two l 4, (Go.bits .and .i64 (two l 6) 16384 != 0), false, 0, rd l 8, rd l 9, four l 12, four l 16, (l.take (ihead l).toNat).drop 20, fbody l, fpart (rd l 9) (four l 12) (four l 16) (fbody l)) := by
  unfold fRead at h ⊢
  by_cases c1 : (ipOf l).2.2.2.2.2.2.2.2.2.2.2 ≠ 0
  · rw [if_pos c1] at h
    exact absurd (fwhy_zero h) c1
  obtain ⟨g1, g2, g3, g4, g5, g6, g7⟩ := ipOf_good l (Classical.not_not.1 c1)
  have t6 := two_bound l 6 hb (by omega)
  rw [if_neg c1, g7] at h
  rw [if_neg c1, g7]
  by_cases c2 : (Go.bits .and .i64 (two l 6) 8192 != 0) = true
  · rw [if_pos c2] at h
    exact absurd h (by show ¬ ((3 : Int) = 0); decide)
  rw [if_neg c2] at h ⊢
  by_cases c3 : Go.bits .and .i64 (two l 6) 8191 ≠ 0
  · rw [if_pos c3] at h
    exact absurd h (by show ¬ ((3 : Int) = 0); decide)
  rw [if_neg c3] at h ⊢
  have c3' := Classical.not_not.1 c3
  obtain ⟨e1, e2⟩ := fjoin_good _ _ h
  refine ⟨⟨g1, g2, g3, g4, g5, g6⟩, by rw [← q_and8191 _ t6.1 t6.2]; exact c3', by simpa using c2, e1, ?_⟩
  rw [e2]
  show (rd l 1, two l 4, _, (Go.bits .and .i64 (two l 6) 8192 != 0), Go.bits .and .i64 (two l 6) 8191, _) = _
  rw [c3', show (Go.bits .and .i64 (two l 6) 8192 != 0) = false by simpa using c2]
  rfl
theorem uParse_good (s d : Int) (l : List Int) (h : (uParse s d l).2.2.2.2 = 0) : 8 ≤ l.length ∧ (uParse s d l).1 = two l 0 ∧ (uParse s d l).2.1 = two l 2 := by
  unfold uParse at h ⊢
  by_cases c1 : (l.length : Int) < 8
  · rw [if_pos c1] at h; exact absurd h (by show ¬ ((2 : Int) = 0); decide)
  rw [if_neg c1] at h ⊢
  by_cases c2 : two l 4 < 8
  · rw [if_pos c2] at h; exact absurd h (by show ¬ ((4 : Int) = 0); decide)
  rw [if_neg c2] at h ⊢
  by_cases c3 : two l 4 > (l.length : Int)
  · rw [if_pos c3] at h; exact absurd h (by show ¬ ((2 : Int) = 0); decide)
  rw [if_neg c3] at h ⊢
  by_cases c4 : two l 6 = 0
  · rw [if_pos c4]; exact ⟨by omega, rfl, rfl⟩
  rw [if_neg c4] at h ⊢
  by_cases c5 : sumOf (pseudo s d 17 (two l 4) ++ l.take (two l 4).toNat) = 65535
  · rw [if_pos c5]; exact ⟨by omega, rfl, rfl⟩
  · rw [if_neg c5] at h; exact absurd h (by show ¬ ((5 : Int) = 0); decide)
theorem tParse_good (s d : Int) (l : List Int) (h : (tParse s d l).2.2.2.2.2.2.2.2.2 = 0) : 8 ≤ l.length ∧ (tParse s d l).1 = two l 0 ∧ (tParse s d l).2.1 = two l 2 := by
  unfold tParse at h ⊢
  by_cases c1 : (l.length : Int) < 20
  · rw [if_pos c1] at h; exact absurd h (by show ¬ ((2 : Int) = 0); decide)
  rw [if_neg c1] at h ⊢
  by_cases c2 : rd l 12 / 16 * 4 < 20 ∨ rd l 12 % 16 ≠ 0
  · rw [if_pos c2] at h; exact absurd h (by show ¬ ((4 : Int) = 0); decide)
  rw [if_neg c2] at h ⊢
  by_cases c3 : rd l 12 / 16 * 4 > (l.length : Int)
  · rw [if_pos c3] at h; exact absurd h (by show ¬ ((2 : Int) = 0); decide)
  rw [if_neg c3] at h ⊢
  by_cases c4 : tSum s d l = 65535
  · rw [if_pos c4]; exact ⟨by omega, rfl, rfl⟩
  · rw [if_neg c4] at h; exact absurd h (by show ¬ ((5 : Int) = 0); decide)
theorem iParse_good (l : List Int) (h : (iParse l).2.2.2.2 = 0) : 8 ≤ l.length ∧ iParse l = (rd l 0, rd l 1, four l 4, l.drop 8, 0) := by
  unfold iParse at h ⊢
  by_cases c1 : (l.length : Int) < 8
  · rw [if_pos c1] at h; exact absurd h (by show ¬ ((2 : Int) = 0); decide)
  rw [if_neg c1] at h ⊢
  by_cases c2 : sumOf l = 65535
  · rw [if_pos c2] at h ⊢; exact ⟨by omega, rfl⟩
  · rw [if_neg c2] at h; exact absurd h (by show ¬ ((5 : Int) = 0); decide)
theorem ikind_cases (t c : Int) : (ikind t c = 0) ∨ (ikind t c = 3 ∧ t = 8 ∧ c = 0) ∨ (ikind t c = 4 ∧ t = 0 ∧ c = 0) ∨ ikind t c = 5 := by
  unfold ikind
  repeat' split
  all_goals simp_all
/-- What a frame that is no fault's says of its ends, by its bytes. -/
theorem fpart_good (p s d : Int) (b : List Int) (hb : Bytes b) (h : (fpart p s d b).2.2.2.2.2.2.2.2.2.2.2 = 0) (h5 : (fpart p s d b).1 ≠ 5) :
    8 ≤ b.length ∧ (fpart p s d b).2.1 = s ∧ (fpart p s d b).2.2.2.1 = d ∧ frame_Proto.f (fpart p s d b).1 = some p ∧
    (((p = 17 ∨ p = 6) ∧ (fpart p s d b).2.2.1 = two b 0 ∧ (fpart p s d b).2.2.2.2.1 = two b 2) ∨ (p = 1 ∧ (rd b 0 = 8 ∨ rd b 0 = 0) ∧ rd b 1 = 0 ∧ (fpart p s d b).2.2.1 = two b 4 ∧ (fpart p s d b).2.2.2.2.1 = two b 4)) := by
  unfold fpart at h h5 ⊢
  by_cases c1 : p = 17
  · rw [if_pos c1] at h h5 ⊢
    obtain ⟨g1, g2, g3⟩ := uParse_good s d b (fwhy_zero h)
    exact ⟨g1, rfl, rfl, by rw [c1]; rfl, .inl ⟨.inl c1, g2, g3⟩⟩
  rw [if_neg c1] at h h5 ⊢
  by_cases c2 : p = 6
  · rw [if_pos c2] at h h5 ⊢
    obtain ⟨g1, g2, g3⟩ := tParse_good s d b (fwhy_zero h)
    exact ⟨g1, rfl, rfl, by rw [c2]; rfl, .inl ⟨.inr c2, g2, g3⟩⟩
  rw [if_neg c2] at h h5 ⊢
  by_cases c3 : p = 1
  case neg => rw [if_neg c3] at h; exact absurd h (by show ¬ ((4 : Int) = 0); decide)
  rw [if_pos c3] at h h5 ⊢
  unfold fword at h h5 ⊢
  by_cases d1 : (iParse b).2.2.2.2 ≠ 0
  · rw [if_pos d1] at h
    exact absurd (fwhy_zero h) d1
  obtain ⟨g1, g2⟩ := iParse_good b (Classical.not_not.1 d1)
  rw [if_neg d1, g2] at h h5
  rw [if_neg d1, g2]
  show 8 ≤ b.length ∧ _
  rcases ikind_cases (rd b 0) (rd b 1) with k | ⟨k, k1, k2⟩ | ⟨k, k1, k2⟩ | k
  · rw [if_pos k] at h; exact absurd h (by show ¬ ((4 : Int) = 0); decide)
  · have e4 : wrap64 (four b 4 / 65536) = two b 4 := by
      have := four_bound b 4 hb (by omega)
      have h0 := hb.get 4 (by omega)
      have h1 := hb.get (4 + 1) (by omega)
      have h2 := hb.get (4 + 2) (by omega)
      have h3 := hb.get (4 + 3) (by omega)
      rw [w64 (by omega) (by omega)]
      unfold four two
      omega
    rw [if_neg (show ¬ (ikind (rd b 0) (rd b 1) = 0) by rw [k]; decide), if_neg (show ¬ (ikind (rd b 0) (rd b 1) = 5) by rw [k]; decide)]
    refine ⟨g1, rfl, rfl, ?_, .inr ⟨c3, .inl k1, k2, e4, e4⟩⟩
    show frame_Proto.f (ikind (rd b 0) (rd b 1)) = some p
    rw [k, c3]; rfl
  · have e4 : wrap64 (four b 4 / 65536) = two b 4 := by
      have := four_bound b 4 hb (by omega)
      have h0 := hb.get 4 (by omega)
      have h1 := hb.get (4 + 1) (by omega)
      have h2 := hb.get (4 + 2) (by omega)
      have h3 := hb.get (4 + 3) (by omega)
      rw [w64 (by omega) (by omega)]
      unfold four two
      omega
    rw [if_neg (show ¬ (ikind (rd b 0) (rd b 1) = 0) by rw [k]; decide), if_neg (show ¬ (ikind (rd b 0) (rd b 1) = 5) by rw [k]; decide)]
    refine ⟨g1, rfl, rfl, ?_, .inr ⟨c3, .inr k1, k2, e4, e4⟩⟩
    show frame_Proto.f (ikind (rd b 0) (rd b 1)) = some p
    rw [k, c3]; rfl
  · rw [if_neg (show ¬ (ikind (rd b 0) (rd b 1) = 0) by rw [k]; decide), if_pos k] at h5
    have : ∀ q : Bool, q = false → True := fun _ _ => trivial
    split at h5 <;> exact absurd rfl h5
/-- The first bytes of such a frame quote its ends; one byte less does not. -/
theorem short_good (l : List Int) (hb : Bytes l) (h : (fRead l).2.2.2.2.2.2.2.2.2.2.2.2.2.2.2.2.2.2.2.2.2.2 = 0) (h5 : (fRead l).2.2.2.2.2.2.2.2.2.2.2.1 ≠ 5) :
    20 ≤ ihead l ∧ ihead l ≤ 60 ∧ ihead l + 8 ≤ (l.length : Int) ∧ ((fRead l).2.2.2.2.2.2.2.2.2.1.length : Int) = ihead l - 20 ∧ frame_Proto.f (fRead l).2.2.2.2.2.2.2.2.2.2.2.1 = some (fRead l).2.2.2.2.2.2.1 ∧
    (∀ n : Nat, ihead l + 8 ≤ (n : Int) → n ≤ l.length → fquote (l.take n) = ((fRead l).2.2.2.2.2.2.1, (fRead l).2.2.2.2.2.2.2.2.2.2.2.2.1, (fRead l).2.2.2.2.2.2.2.2.2.2.2.2.2.1, (fRead l).2.2.2.2.2.2.2.2.2.2.2.2.2.2.1, (fRead l).2.2.2.2.2.2.2.2.2.2.2.2.2.2.2.1, true)) ∧
    (∀ n : Nat, (n : Int) < ihead l + 8 → n ≤ l.length → fquote (l.take n) = fno) := by
  obtain ⟨⟨g1, g2, g3, g4, g5, g6⟩, g7, g8, g9, g10⟩ := fRead_good l hb h
  rw [g10] at h5
  have hbb : Bytes (fbody l) := fun c hc => hb c (List.mem_of_mem_take (List.mem_of_mem_drop hc))
  obtain ⟨k1, k2, k3, k4, k5⟩ := fpart_good _ _ _ _ hbb g9 h5
  have hbl : (fbody l).length = (two l 2).toNat - (ihead l).toNat := by unfold fbody; rw [List.length_drop, List.length_take]; omega
  have h60 : ihead l ≤ 60 := by unfold ihead; omega
  obtain ⟨hd, hhd⟩ : ∃ n : Nat, ihead l = (n : Int) := ⟨(ihead l).toNat, by omega⟩
  obtain ⟨tt, htt⟩ : ∃ n : Nat, two l 2 = (n : Int) := ⟨(two l 2).toNat, by omega⟩
  have hfh : ∀ n : Nat, 1 ≤ n → fhead (l.take n) = hd := by
    intro n hn
    unfold fhead
    rw [show rd (l.take n) 0 = rd l 0 from s_take l n 0 (by omega)]
    have : rd l 0 % 16 * 4 = (hd : Int) := hhd
    omega
  have hhm : rd l 0 % 16 * 4 = (hd : Int) := hhd
  rw [hhd] at g4 g5 h60 ⊢
  rw [htt] at g5 g6
  rw [hhd, htt] at hbl
  refine ⟨g4, h60, by omega, ?_, ?_, ?_, ?_⟩
  · rw [g10]
    show (((l.take (ihead l).toNat).drop 20).length : Int) = _
    rw [List.length_drop, List.length_take, hhd]
    omega
  · rw [g10]; exact k4
  · intro n hn hnl
    have hlen : (l.take n).length = n := by rw [List.length_take]; omega
    unfold fquote
    rw [hlen, hfh n (by omega), show rd (l.take n) 0 = rd l 0 from s_take l n 0 (by omega), show rd (l.take n) 9 = rd l 9 from s_take l n 9 (by omega), s_two l n 6 (by omega), s_four l n 12 (by omega), s_four l n 16 (by omega), s_two l n hd (by omega), s_two l n (hd + 2) (by omega), s_two l n (hd + 4) (by omega), s_take l n hd (by omega), s_take l n (hd + 1) (by omega)]
    rw [if_neg (by omega), if_neg (by omega), if_neg (by omega), if_neg (by omega), if_neg (by omega), g10]
    have b0 : two (fbody l) 0 = two l hd := by unfold fbody; rw [hhd, htt]; exact s_two_body l tt hd 0 (by omega)
    have b2 : two (fbody l) 2 = two l (hd + 2) := by unfold fbody; rw [hhd, htt]; exact s_two_body l tt hd 2 (by omega)
    have b4 : two (fbody l) 4 = two l (hd + 4) := by unfold fbody; rw [hhd, htt]; exact s_two_body l tt hd 4 (by omega)
    have r0 : rd (fbody l) 0 = rd l (hd : Nat) := by unfold fbody; rw [hhd, htt]; exact s_body l tt hd 0 (by omega)
    have r1 : rd (fbody l) 1 = rd l (hd + 1 : Nat) := by unfold fbody; rw [hhd, htt]; exact s_body l tt hd 1 (by omega)
    show _ = (rd l 9, (fpart (rd l 9) (four l 12) (four l 16) (fbody l)).2.1, (fpart (rd l 9) (four l 12) (four l 16) (fbody l)).2.2.1, (fpart (rd l 9) (four l 12) (four l 16) (fbody l)).2.2.2.1, (fpart (rd l 9) (four l 12) (four l 16) (fbody l)).2.2.2.2.1, true)
    rw [k2, k3]
    rcases k5 with ⟨e1, e2, e3⟩ | ⟨e1, e2, e3, e4, e5⟩
    · rw [if_pos e1, e2, e3, b0, b2]
    · rw [if_neg (by omega), if_pos e1, if_neg (by rw [r0] at e2; rw [r1] at e3; omega), e4, e5, b4]
  · intro n hn hnl
    have hlen : (l.take n).length = n := by rw [List.length_take]; omega
    unfold fquote
    rw [hlen]
    by_cases c1 : (n : Int) < 20
    · rw [if_pos c1]
    rw [if_neg c1, hfh n (by omega), show rd (l.take n) 0 = rd l 0 from s_take l n 0 (by omega), if_neg (by omega), if_neg (by omega), if_pos (by omega)]
end Go.Proofs.Ytljnnhloinbjhaa.Pure
