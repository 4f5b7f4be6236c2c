/- Plain lemmas on the reference for ip. No program in sight. -/
import Derived.Test.YthnhpbplglmmmaaPureLibIpP
import Derived.Test.YthnhpbplglmmmaaPbailiwickref2
import Derived.Test.YthnhpbplglmmmaaPbailiwickref2B
namespace Go.Proofs.Ythnhpbplglmmmaa.Pure
open Go.RowKit Go.Proofs.Ythnhpbplglmmmaa.P Go.Proofs.YthnhpbplglmmmaaW.PrintWords Go.Proofs.YthnhpbplglmmmaaW.PrintLast Go.Proofs.YthnhpbplglmmmaaW.PrintMore
set_option linter.unusedVariables false
set_option linter.unusedSimpArgs false
theorem rword_to (l : List Int) (a : Nat) (hb : Bytes l) (hl : l.length ≤ 140737488351232) (h : a + 2 ≤ l.length) : bailiwickref2_word.f l a = some (two l a) := by
  unfold bailiwickref2_word.f
  have e : wrap64 ((a : Int) + 1) = ((a + 1 : Nat) : Int) := by rw [w64 (by omega) (by omega)]; simp
  have g0 := hb.get a (by omega)
  have g1 := hb.get (a + 1) (by omega)
  rw [e, if_pos (by omega), if_pos (by omega), if_pos (by omega), if_pos (by omega), or64 _ _ g0.1 g0.2 g1.1 g1.2]
  rfl
theorem rlong_to (l : List Int) (a : Nat) (hb : Bytes l) (hl : l.length ≤ 140737488351232) (h : a + 4 ≤ l.length) : bailiwickref2_Long.f l a = some (four l a) := by
  unfold bailiwickref2_Long.f
  have e1 : wrap64 ((a : Int) + 1) = ((a + 1 : Nat) : Int) := by rw [w64 (by omega) (by omega)]; simp
  have e2 : wrap64 ((a : Int) + 2) = ((a + 2 : Nat) : Int) := by rw [w64 (by omega) (by omega)]; simp
  have e3 : wrap64 ((a : Int) + 3) = ((a + 3 : Nat) : Int) := by rw [w64 (by omega) (by omega)]; simp
  have g0 := hb.get a (by omega)
  have g1 := hb.get (a + 1) (by omega)
  have g2 := hb.get (a + 2) (by omega)
  have g3 := hb.get (a + 3) (by omega)
  rw [e1, e2, e3, if_pos (by omega), if_pos (by omega), if_pos (by omega), if_pos (by omega), if_pos (by omega), if_pos (by omega), if_pos (by omega), if_pos (by omega)]
  unfold four
  generalize rd l ((a : Nat) : Int) = c0 at *
  generalize rd l ((a + 1 : Nat) : Int) = c1 at *
  generalize rd l ((a + 2 : Nat) : Int) = c2 at *
  generalize rd l ((a + 3 : Nat) : Int) = c3 at *
  rw [Int.emod_eq_of_lt (a := c0) (by omega) (by omega), Int.emod_eq_of_lt (a := c1) (by omega) (by omega), Int.emod_eq_of_lt (a := c2) (by omega) (by omega), Int.emod_eq_of_lt (a := c3) (by omega) (by omega),
    Int.emod_eq_of_lt (a := c0 * 16777216) (by omega) (by omega), Int.emod_eq_of_lt (a := c1 * 65536) (by omega) (by omega), Int.emod_eq_of_lt (a := c2 * 256) (by omega) (by omega)]
  rw [or32 24 (c0 * 16777216) (c1 * 65536) (by omega) (by omega) (by omega) (by decide) (by omega) (by omega) (by omega)]
  rw [or32 16 (c0 * 16777216 + c1 * 65536) (c2 * 256) (by omega) (by omega) (by omega) (by decide) (by omega) (by omega) (by omega)]
  rw [or32 8 (c0 * 16777216 + c1 * 65536 + c2 * 256) c3 (by omega) (by omega) (by omega) (by decide) (by omega) (by omega) (by omega)]
theorem rin_to (x m : Int) : bailiwickref2_in.f x m = some (decide (0 ≤ x ∧ x ≤ m)) := by
  unfold bailiwickref2_in.f
  by_cases h : x ≥ 0
  · rw [if_pos h]
    congr 1
    rw [decide_eq_decide]
    omega
  · rw [if_neg h, decide_eq_false (by omega)]
theorem rBuild_l1 (tos id : Int) (df mf : Bool) (off ttl proto src dst : Int) (opts body H : List Int) (hH : H.length ≤ 100) (hl : body.length ≤ 5000) (rem : Nat) : ∀ (k j : Nat), j + rem = body.length → rem < k →
    bailiwickref2_Build.l1 k (H ++ body.take j) j tos id df mf off ttl proto src dst opts body = some (H ++ body, 0) := by
  induction rem with
  | zero =>
    intro k j h hk
    obtain ⟨k, rfl⟩ : ∃ q, k = q + 1 := ⟨k - 1, by omega⟩
    rw [bailiwickref2_Build.l1, if_neg (by omega), List.take_of_length_le (by omega)]
  | succ rem ih =>
    intro k j h hk
    obtain ⟨k, rfl⟩ : ∃ q, k = q + 1 := ⟨k - 1, by omega⟩
    rw [bailiwickref2_Build.l1, if_pos (by omega), if_pos (by omega), if_pos (by rw [List.length_append]; simp; omega), show wrap64 ((j : Int) + 1) = ((j + 1 : Nat) : Int) by rw [w64 (by omega) (by omega)]; simp]
    have e : H ++ body.take j ++ [rd body (j : Int)] = H ++ body.take (j + 1) := by
      rw [List.append_assoc, List.take_succ_eq_append_getElem (by omega : j < body.length), rd_nat body j (by omega)]
    rw [e]
    exact ih k (j + 1) (by omega) (by omega)
theorem ihd_set' (tos id : Int) (df mf : Bool) (off ttl proto src dst c : Int) (opts body : List Int) : ((ihd tos id df mf off ttl proto src dst 0 opts body).set 10 (c / 256 % 256)).set 11 (c % 256) = ihd tos id df mf off ttl proto src dst c opts body := rfl
theorem rBuild_l0 (tos id : Int) (df mf : Bool) (off ttl proto src dst : Int) (opts body : List Int) (ho : Bytes opts) (hol : opts.length ≤ 40) (hl : body.length ≤ 5000) (rem : Nat) : ∀ (k j : Nat), j + rem = opts.length → rem + 5100 ≤ k →
    bailiwickref2_Build.l0 k (iHead tos id (ipart df mf off) ttl proto src dst opts.length (20 + opts.length + body.length) 0 ++ opts.take j) j tos id df mf off ttl proto src dst opts body = some (ibytes tos id df mf off ttl proto src dst opts body, 0) := by
  induction rem with
  | zero =>
    intro k j h hk
    obtain ⟨k, rfl⟩ : ∃ q, k = q + 1 := ⟨k - 1, by omega⟩
    have hlen := ihd_len tos id df mf off ttl proto src dst 0 opts body
    have hc := icheck_bound tos id df mf off ttl proto src dst opts body
    have e : iHead tos id (ipart df mf off) ttl proto src dst opts.length (20 + opts.length + body.length) 0 ++ opts = ihd tos id df mf off ttl proto src dst 0 opts body := rfl
    rw [bailiwickref2_Build.l0, if_neg (by omega), List.take_of_length_le (by omega), e, one_to _ (ihd_bytes tos id df mf off ttl proto src dst 0 opts body ho) (by omega) k (by omega), Option.bind_some, if_pos (by omega), if_pos (by omega)]
    have ec : wrap64 (65535 - sumOf (ihd tos id df mf off ttl proto src dst 0 opts body)) = icheck tos id df mf off ttl proto src dst opts body := by
      unfold icheck at hc ⊢
      rw [w64 (by omega) (by omega)]
    rw [ec, show (10 : Int).toNat = 10 from rfl, show (11 : Int).toNat = 11 from rfl, ihd_set']
    have := rBuild_l1 tos id df mf off ttl proto src dst opts body (ihd tos id df mf off ttl proto src dst (icheck tos id df mf off ttl proto src dst opts body) opts body) (by rw [ihd_len]; omega) hl body.length k 0 (by omega) (by omega)
    simp only [List.take_zero, List.append_nil] at this
    exact this
  | succ rem ih =>
    intro k j h hk
    obtain ⟨k, rfl⟩ : ∃ q, k = q + 1 := ⟨k - 1, by omega⟩
    rw [bailiwickref2_Build.l0, if_pos (by omega), if_pos (by omega), if_pos (by rw [List.length_append, iHead_len]; simp; omega), show wrap64 ((j : Int) + 1) = ((j + 1 : Nat) : Int) by rw [w64 (by omega) (by omega)]; simp]
    have e : iHead tos id (ipart df mf off) ttl proto src dst opts.length (20 + opts.length + body.length) 0 ++ opts.take j ++ [rd opts (j : Int)] = iHead tos id (ipart df mf off) ttl proto src dst opts.length (20 + opts.length + body.length) 0 ++ opts.take (j + 1) := by
      rw [List.append_assoc, List.take_succ_eq_append_getElem (by omega : j < opts.length), rd_nat opts j (by omega)]
    rw [e]
    exact ih k (j + 1) (by omega) (by omega)
theorem rpart (df mf : Bool) (off : Int) (k : Nat) (x4 tos id ttl proto src dst : Int) (opts body : List Int) : (if df = true then bailiwickref2_Build.j1 (k + 1) x4 (Go.bits .or .i64 off 16384) tos id df mf off ttl proto src dst opts body else bailiwickref2_Build.j1 (k + 1) x4 off tos id df mf off ttl proto src dst opts body) = bailiwickref2_Build.j2 k x4 (ip_Build.part df mf off) tos id df mf off ttl proto src dst opts body := by
  unfold ip_Build.part
  cases df <;> cases mf <;> simp [bailiwickref2_Build.j1]
theorem rBuild_to (tos id : Int) (df mf : Bool) (off ttl proto src dst : Int) (opts body : List Int) (hs : 0 ≤ src ∧ src < 4294967296) (hd : 0 ≤ dst ∧ dst < 4294967296) (ho : Bytes opts) (hol : opts.length ≤ 5000) (hl : body.length ≤ 5000) (k : Nat) (hk : 6000 ≤ k) :
    bailiwickref2_Build.f k tos id df mf off ttl proto src dst opts body = some (ibuild tos id df mf off ttl proto src dst opts body) := by
  obtain ⟨k, rfl⟩ : ∃ q, k = q + 3 := ⟨k - 3, by omega⟩
  have bad : ¬ iok tos id off ttl proto opts → bailiwickref2_Build.j0 (k + 3) true tos id df mf off ttl proto src dst opts body = some (ibuild tos id df mf off ttl proto src dst opts body) := by
    intro h
    unfold ibuild
    rw [bailiwickref2_Build.j0, if_pos rfl, if_neg h]
  have good : iok tos id off ttl proto opts → ∀ b, b = false → bailiwickref2_Build.j0 (k + 3) b tos id df mf off ttl proto src dst opts body = some (ibuild tos id df mf off ttl proto src dst opts body) := by
    rintro h b rfl
    have h4 : opts.length ≤ 40 := h.2.2.2.2.2.1
    have h5 := h.2.2.2.2.1
    unfold ibuild
    rw [bailiwickref2_Build.j0, if_neg (by decide), if_pos h, w64 (x := 20 + (opts.length : Int)) (by omega) (by omega), w64 (by omega) (by omega)]
    by_cases h6 : (body.length : Int) > 2028 - (opts.length : Int)
    · rw [if_pos (by omega), if_pos h6]
    rw [if_neg (by omega), if_neg h6, rpart, part_to' df mf off h5.1 (by omega)]
    have hp : 0 ≤ ipart df mf off ∧ ipart df mf off < 65536 := by unfold ipart; cases df <;> cases mf <;> simp <;> omega
    have e1 : IntKind.u64.wrap (wrap64 (20 + (opts.length : Int) + (body.length : Int))) = 20 + (opts.length : Int) + (body.length : Int) := by rw [w64 (by omega) (by omega), wrap_u64, Int.emod_eq_of_lt (by omega) (by omega)]
    have e2 : IntKind.u64.wrap id = id := by rw [wrap_u64, Int.emod_eq_of_lt (by have := h.2.2.2.1; omega) (by have := h.2.2.2.1; omega)]
    have e3 : IntKind.u64.wrap (ipart df mf off) = ipart df mf off := by rw [wrap_u64, Int.emod_eq_of_lt (by omega) (by omega)]
    have e4 : IntKind.u64.wrap src = src := by rw [wrap_u64, Int.emod_eq_of_lt (by omega) (by omega)]
    have e5 : IntKind.u64.wrap dst = dst := by rw [wrap_u64, Int.emod_eq_of_lt (by omega) (by omega)]
    rw [bailiwickref2_Build.j2, first_to _ h4, e1, e2, e3, e4, e5, refLay2 _ _ (by simp) k (by omega), Option.bind_some, refLay2 _ _ (by simp) k (by omega), Option.bind_some, refLay2 _ _ (by simp) k (by omega), Option.bind_some, Option.bind_some, if_pos (by simp), refLay4 _ _ (by simp) k (by omega), Option.bind_some, refLay4 _ _ (by simp) k (by omega), Option.bind_some]
    have := rBuild_l0 tos id df mf off ttl proto src dst opts body ho h4 hl opts.length k 0 (by omega) (by omega)
    simp only [List.take_zero, List.append_nil] at this
    exact this
  unfold bailiwickref2_Build.f
  rw [rin_to, Option.bind_some]
  by_cases h1 : 0 ≤ tos ∧ tos ≤ 255
  case neg => rw [if_neg (by simpa using h1), bad (fun h => h1 (by have := h.1; omega))]
  rw [if_pos (decide_eq_true h1), rin_to, Option.bind_some]
  by_cases h2 : 0 ≤ ttl ∧ ttl ≤ 255
  case neg => rw [if_neg (by simpa using h2), bad (fun h => h2 (by have := h.2.1; omega))]
  rw [if_pos (decide_eq_true h2), rin_to, Option.bind_some]
  by_cases h3 : 0 ≤ proto ∧ proto ≤ 255
  case neg => rw [if_neg (by simpa using h3), bad (fun h => h3 (by have := h.2.2.1; omega))]
  rw [if_pos (decide_eq_true h3), rin_to, Option.bind_some]
  by_cases h4 : 0 ≤ id ∧ id ≤ 65535
  case neg => rw [if_neg (by simpa using h4), bad (fun h => h4 (by have := h.2.2.2.1; omega))]
  rw [if_pos (decide_eq_true h4), rin_to, Option.bind_some]
  by_cases h5 : 0 ≤ off ∧ off ≤ 8191
  case neg => rw [if_neg (by simpa using h5), bad (fun h => h5 (by have := h.2.2.2.2.1; omega))]
  rw [if_pos (decide_eq_true h5)]
  by_cases h6 : (opts.length : Int) > 40
  · rw [if_pos h6, bad (fun h => by have := h.2.2.2.2.2.1; omega)]
  rw [if_neg h6]
  by_cases h7 : (opts.length : Int) % 4 = 0
  · rw [good ⟨by omega, by omega, by omega, by omega, by omega, by omega, by omega⟩ _ (by rw [h7]; rfl)]
  · rw [show ((opts.length : Int) % 4 != 0) = true from bne_iff_ne.2 h7, bad (fun h => by have := h.2.2.2.2.2.2; omega)]
theorem rParse_to (l : List Int) (hb : Bytes l) (hl : l.length ≤ 1000000) (k : Nat) (hk : 1000100 ≤ k) : bailiwickref2_Parse.f k l = some (ipOf l) := by
  obtain ⟨k, rfl⟩ : ∃ q, k = q + 2 := ⟨k - 2, by omega⟩
  unfold bailiwickref2_Parse.f ipOf izero
  by_cases h1 : (l.length : Int) > 2048
  · rw [if_pos h1, if_pos h1]
  by_cases h2 : (l.length : Int) < 20
  · rw [if_neg h1, if_neg h1, if_pos h2, if_pos h2]
  have b0 := hb.get 0 (by omega)
  have b1 := hb.get 1 (by omega)
  have b8 := hb.get 8 (by omega)
  have b9 := hb.get 9 (by omega)
  rw [show ((0 : Nat) : Int) = 0 from rfl] at b0
  rw [show ((1 : Nat) : Int) = 1 from rfl] at b1
  rw [show ((8 : Nat) : Int) = 8 from rfl] at b8
  rw [show ((9 : Nat) : Int) = 9 from rfl] at b9
  have ea : Go.bits .and .u8 (rd l 0) 15 = rd l 0 % 16 := by
    have := and_mask .u8 4 (by decide) (rd l 0)
    rw [show ((2 : Int) ^ 4 - 1) = 15 by decide, show ((2 : Int) ^ 4) = 16 by decide] at this
    rw [this, IntKind.wrap_u8]
    omega
  have ew : wrap64 (wrap64 (rd l 0 % 16) * 4) = ihead l := by rw [w64 (x := rd l 0 % 16) (by omega) (by omega), w64 (by omega) (by omega)]; rfl
  have eh : ihead l = rd l 0 % 16 * 4 := rfl
  rw [if_neg h1, if_neg h1, if_neg h2, if_neg h2, if_pos (by omega), ea, ew]
  by_cases h3 : rd l 0 / 16 = 4
  case neg => rw [if_neg h3, if_pos (.inl h3), bailiwickref2_Parse.j0, if_pos rfl]
  rw [if_pos h3]
  by_cases h4 : ihead l < 20
  · rw [if_pos (.inr h4), decide_eq_true h4, bailiwickref2_Parse.j0, if_pos rfl]
  rw [if_neg (show ¬ (rd l 0 / 16 ≠ 4 ∨ ihead l < 20) by omega), decide_eq_false h4, bailiwickref2_Parse.j0, if_neg (by decide)]
  by_cases h5 : (l.length : Int) < ihead l
  · rw [if_pos (by omega), if_pos h5]
  have g2 := rword_to l 2 hb (by omega) (by omega)
  have g6 := rword_to l 6 hb (by omega) (by omega)
  have g4 := rword_to l 4 hb (by omega) (by omega)
  have g12 := rlong_to l 12 hb (by omega) (by omega)
  have g16 := rlong_to l 16 hb (by omega) (by omega)
  rw [show ((2 : Nat) : Int) = 2 from rfl] at g2
  rw [show ((6 : Nat) : Int) = 6 from rfl] at g6
  rw [show ((4 : Nat) : Int) = 4 from rfl] at g4
  rw [show ((12 : Nat) : Int) = 12 from rfl] at g12
  rw [show ((16 : Nat) : Int) = 16 from rfl] at g16
  rw [if_neg (by omega), if_neg h5, g2, Option.bind_some, g6, Option.bind_some]
  by_cases h6 : two l 2 < ihead l
  · rw [if_pos h6, if_pos (.inl h6), bailiwickref2_Parse.j1, if_pos rfl]
  by_cases h7 : Go.bits .and .i64 (two l 6) 32768 ≠ 0
  · rw [if_neg h6, if_pos (.inr h7), bailiwickref2_Parse.j1, if_pos (bne_iff_ne.2 h7)]
  rw [if_neg h6, if_neg (show ¬ (two l 2 < ihead l ∨ Go.bits .and .i64 (two l 6) 32768 ≠ 0) from fun h => h.elim h6 h7), bailiwickref2_Parse.j1, if_neg (by rw [bne_iff_ne]; exact h7)]
  by_cases h8 : two l 2 > (l.length : Int)
  · rw [if_pos h8, if_pos h8]
  rw [if_neg h8, if_neg h8, if_pos (by omega), if_pos (by omega), one_to _ (hb.take2 _) (by rw [List.length_take]; omega) k (by rw [List.length_take]; omega), Option.bind_some]
  by_cases h9 : sumOf (l.take (ihead l).toNat) = 65535
  case neg => rw [if_neg h9, if_pos h9]
  have p1 := part_to l 20 (ihead l).toNat (by omega) (by omega) (by omega) k (by omega)
  have p2 := part_to l (ihead l).toNat (two l 2).toNat (by omega) (by omega) (by omega) k (by omega)
  rw [show ((20 : Nat) : Int) = 20 from rfl, Int.toNat_of_nonneg (by omega)] at p1
  rw [Int.toNat_of_nonneg (by omega), Int.toNat_of_nonneg (by omega)] at p2
  rw [if_pos h9, if_neg (Classical.not_not.2 h9), if_pos (by omega), g4, Option.bind_some, if_pos (by omega), if_pos (by omega), g12, Option.bind_some, g16, Option.bind_some, p1, Option.bind_some, p2, Option.bind_some, w64 (x := rd l 1) (by omega) (by omega), w64 (x := rd l 8) (by omega) (by omega), w64 (x := rd l 9) (by omega) (by omega)]
end Go.Proofs.Ythnhpbplglmmmaa.Pure
