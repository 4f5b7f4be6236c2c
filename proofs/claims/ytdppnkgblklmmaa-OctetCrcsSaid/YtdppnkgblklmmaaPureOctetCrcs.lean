/- OctetCrcs: the CRC of any bytes is what the document's register comes to; a bit that is turned turns it. No condition. -/
import Derived.Test.YtdppnkgblklmmaaPureLib4
import Derived.Test.YtdppnkgblklmmaaPbailiwicklaw1OctetCrcs
namespace Go.Proofs.Ytdppnkgblklmmaa.Pure
open Go.RowKit Go.Proofs.Ytdppnkgblklmmaa.P Go.Proofs.YtdppnkgblklmmaaW.PrintWords Go.Proofs.YtdppnkgblklmmaaW.PrintLast
set_option linter.unusedVariables false
set_option linter.unusedSimpArgs false
theorem xor_nat (a b : Nat) (ha : a < 4294967296) (hb : b < 4294967296) : Go.bits .xor .u32 (a : Int) (b : Int) = ((a ^^^ b : Nat) : Int) := u32_xor_nat a b ha hb
/-- The register's round, as a number. -/
def rndN (y : Nat) : Nat := (y / 2) ^^^ (if y % 2 = 1 then 3988292384 else 0)
theorem rndN_lt (y : Nat) (h : y < 4294967296) : rndN y < 4294967296 := by
  unfold rndN
  exact Nat.xor_lt_two_pow (n := 32) (by omega) (by split <;> omega)
theorem and_one (x : Int) : Go.bits .and .u32 x 1 = x % 2 := by
  have h := and_mask .u32 1 (by decide) x
  rw [show ((2 : Int) ^ 1 - 1) = 1 from rfl, show ((2 : Int) ^ 1) = 2 from rfl] at h
  rw [h, IntKind.wrap_u32]
  omega
theorem rnd_nat (y : Nat) (h : y < 4294967296) : octet_register_step.rnd (y : Int) = ((rndN y : Nat) : Int) := by
  unfold octet_register_step.rnd rndN
  rw [and_one]
  by_cases hy : y % 2 = 1
  · rw [if_pos hy, show ((y : Int) % 2) = 1 by omega]
    have e1 : Go.bits .and .u32 3988292384 (-1 % 4294967296) = ((3988292384 : Nat) : Int) := by decide +kernel
    rw [e1, show ((y : Int) / 2) = ((y / 2 : Nat) : Int) by omega, xor_nat _ _ (by omega) (by omega)]
  · rw [if_neg hy, show ((y : Int) % 2) = 0 by omega]
    have e1 : Go.bits .and .u32 3988292384 (-0 % 4294967296) = ((0 : Nat) : Int) := by decide +kernel
    rw [e1, show ((y : Int) / 2) = ((y / 2 : Nat) : Int) by omega, xor_nat _ _ (by omega) (by omega)]
def repN : Nat → Nat → Nat
  | 0, y => y
  | n + 1, y => rndN (repN n y)
theorem repN_lt (n : Nat) (y : Nat) (h : y < 4294967296) : repN n y < 4294967296 := by
  induction n with
  | zero => exact h
  | succ n ih => exact rndN_lt _ ih
theorem rep_nat (n : Nat) (y : Nat) (h : y < 4294967296) : octet_register_step.rep n (y : Int) = ((repN n y : Nat) : Int) := by
  induction n with
  | zero => rfl
  | succ n ih => rw [octet_register_step.rep, ih, rnd_nat _ (repN_lt n y h)]; rfl
def stepN (r c : Nat) : Nat := repN 8 (r ^^^ c)
theorem stepN_lt (r c : Nat) (h : r < 4294967296) (hc : c < 256) : stepN r c < 4294967296 := repN_lt 8 _ (Nat.xor_lt_two_pow (n := 32) h (by omega))
theorem step_nat (r c : Nat) (h : r < 4294967296) (hc : c < 256) : octet_register_step.f (r : Int) (c : Int) = ((stepN r c : Nat) : Int) := by
  unfold octet_register_step.f stepN
  rw [show ((c : Int) % 4294967296) = (c : Int) by omega, xor_nat _ _ h (by omega), rep_nat 8 _ (Nat.xor_lt_two_pow (n := 32) h (by omega))]
/-- It loses nothing. -/
theorem rndN_inj (y z : Nat) (hy : y < 4294967296) (hz : z < 4294967296) (h : rndN y = rndN z) : y = z := by
  have key : ∀ x : Nat, x < 4294967296 → (rndN x).testBit 31 = decide (x % 2 = 1) := by
    intro x hx
    unfold rndN
    rw [Nat.testBit_xor, Nat.testBit_lt_two_pow (x := x / 2) (i := 31) (by omega)]
    by_cases hp : x % 2 = 1
    · rw [if_pos hp, decide_eq_true hp]; decide
    · rw [if_neg hp, decide_eq_false hp]; decide
  have h1 := key y hy
  have h2 := key z hz
  rw [h, h2] at h1
  have hp : (z % 2 = 1) ↔ (y % 2 = 1) := by
    rw [decide_eq_decide] at h1
    exact h1
  unfold rndN at h
  by_cases hq : y % 2 = 1
  · rw [if_pos hq, if_pos (hp.2 hq)] at h
    have := congrArg (fun q => q ^^^ 3988292384) h
    simp only [Nat.xor_assoc, Nat.xor_self, Nat.xor_zero] at this
    have := hp.2 hq
    omega
  · rw [if_neg hq, if_neg (fun e => hq (hp.1 e)), Nat.xor_zero, Nat.xor_zero] at h
    have : ¬ z % 2 = 1 := fun e => hq (hp.1 e)
    omega
theorem repN_inj (n : Nat) (y z : Nat) (hy : y < 4294967296) (hz : z < 4294967296) (h : repN n y = repN n z) : y = z := by
  induction n with
  | zero => exact h
  | succ n ih => exact ih (rndN_inj _ _ (repN_lt n y hy) (repN_lt n z hz) h)
theorem xor_left_inj (a b c : Nat) (h : c ^^^ a = c ^^^ b) : a = b := by
  have := congrArg (fun q => c ^^^ q) h
  simpa [← Nat.xor_assoc] using this
theorem stepN_inj_c (r c d : Nat) (h : r < 4294967296) (hc : c < 256) (hd : d < 256) (e : stepN r c = stepN r d) : c = d :=
  xor_left_inj _ _ r (repN_inj 8 _ _ (Nat.xor_lt_two_pow (n := 32) h (by omega)) (Nat.xor_lt_two_pow (n := 32) h (by omega)) e)
theorem stepN_inj_r (r s c : Nat) (h : r < 4294967296) (h2 : s < 4294967296) (hc : c < 256) (e : stepN r c = stepN s c) : r = s := by
  have := repN_inj 8 _ _ (Nat.xor_lt_two_pow (n := 32) h (by omega)) (Nat.xor_lt_two_pow (n := 32) h2 (by omega)) e
  rw [Nat.xor_comm r, Nat.xor_comm s] at this
  exact xor_left_inj _ _ c this
def crcN (r : Nat) (l : List Int) : Nat := l.foldl (fun r c => stepN r c.toNat) r
theorem crcN_lt (l : List Int) : ∀ (r : Nat), Bytes l → r < 4294967296 → crcN r l < 4294967296 := by
  induction l with
  | nil => intro r _ h; exact h
  | cons c l ih =>
    intro r h hr
    obtain ⟨hc, hl⟩ := h.cons
    exact ih _ hl (stepN_lt r c.toNat hr (by omega))
theorem crc_nat (l : List Int) : ∀ (r : Nat), Bytes l → r < 4294967296 → l.foldl octet_register_step.f (r : Int) = ((crcN r l : Nat) : Int) := by
  induction l with
  | nil => intro r _ _; rfl
  | cons c l ih =>
    intro r h hr
    obtain ⟨hc, hl⟩ := h.cons
    obtain ⟨d, rfl⟩ := Int.eq_ofNat_of_zero_le hc.1
    rw [List.foldl_cons, step_nat r d hr (by omega), ih _ hl (stepN_lt r d hr (by omega))]
    rfl
theorem crcN_inj (l : List Int) : ∀ (r s : Nat), Bytes l → r < 4294967296 → s < 4294967296 → crcN r l = crcN s l → r = s := by
  induction l with
  | nil => intro r s _ _ _ h; exact h
  | cons c l ih =>
    intro r s h hr hs e
    obtain ⟨hc, hl⟩ := h.cons
    exact stepN_inj_r r s c.toNat hr hs (by omega) (ih _ _ hl (stepN_lt r c.toNat hr (by omega)) (stepN_lt s c.toNat hs (by omega)) e)
theorem crcN_set (l : List Int) : ∀ (r i : Nat) (v : Int), Bytes l → r < 4294967296 → i < l.length → 0 ≤ v → v < 256 → crcN r (l.set i v) = crcN r l → v = l.getD i 0 := by
  induction l with
  | nil => intro r i v _ _ h; simp at h
  | cons c l ih =>
    intro r i v h hr hi h0 h1 e
    obtain ⟨hc, hl⟩ := h.cons
    cases i with
    | zero =>
      have := crcN_inj l _ _ hl (stepN_lt r v.toNat hr (by omega)) (stepN_lt r c.toNat hr (by omega)) e
      have := stepN_inj_c r _ _ hr (by omega) (by omega) this
      simp
      omega
    | succ i =>
      exact ih _ i v hl (stepN_lt r c.toNat hr (by omega)) (by simpa using hi) h0 h1 e
/-- The reference's register. -/
theorem ref_inner (l : List Int) (i : Nat) (rem : Nat) : ∀ (k j : Nat) (y : Nat), j + rem = 8 → y < 4294967296 → bailiwickref1_Crc.l1 (k + rem + 1) l (y : Int) i j = bailiwickref1_Crc.l0 k l ((Nat.rec y (fun _ z => rndN z) rem : Nat) : Int) (wrap64 ((i : Int) + 1)) := by
  induction rem with
  | zero =>
    intro k j y h hy
    rw [bailiwickref1_Crc.l1, if_neg (by omega)]
    rfl
  | succ rem ih =>
    intro k j y h hy
    have e : wrap64 ((j : Int) + 1) = ((j + 1 : Nat) : Int) := by rw [w64 (by omega) (by omega)]; simp
    have hrec : ∀ (n y : Nat), (Nat.rec (rndN y) (fun _ z => rndN z) n : Nat) = rndN (Nat.rec y (fun _ z => rndN z) n) := by
      intro n y
      induction n with
      | zero => rfl
      | succ n ih => exact congrArg rndN ih
    rw [show k + (rem + 1) + 1 = (k + rem + 1) + 1 by omega, bailiwickref1_Crc.l1, if_pos (by omega), and_one, e]
    have e2 : (y : Int) / 2 = ((y / 2 : Nat) : Int) := by omega
    by_cases hp : y % 2 = 1
    · rw [if_pos (by omega), e2, show (3988292384 : Int) = ((3988292384 : Nat) : Int) from rfl, xor_nat _ _ (by omega) (by omega)]
      have e3 : (y / 2) ^^^ 3988292384 = rndN y := by unfold rndN; rw [if_pos hp]
      rw [e3, ih k (j + 1) (rndN y) (by omega) (rndN_lt y hy), hrec]
    · rw [if_neg (by omega), e2]
      have e3 : y / 2 = rndN y := by unfold rndN; rw [if_neg hp, Nat.xor_zero]
      rw [e3, ih k (j + 1) (rndN y) (by omega) (rndN_lt y hy), hrec]
theorem repN_rec (n y : Nat) : (Nat.rec y (fun _ z => rndN z) n : Nat) = repN n y := by
  induction n with
  | zero => rfl
  | succ n ih => exact congrArg rndN ih
theorem ref_outer (l : List Int) (hl : l.length ≤ 100000) (hb : Bytes l) (rem : Nat) : ∀ (k i : Nat) (r : Nat), i + rem = l.length → r < 4294967296 → bailiwickref1_Crc.l0 (k + 10 * rem + 1) l (r : Int) i = some (Go.bits .xor .u32 (-1) ((crcN r (l.drop i) : Nat) : Int)) := by
  induction rem with
  | zero =>
    intro k i r h hr
    rw [bailiwickref1_Crc.l0, if_neg (by omega), List.drop_of_length_le (by omega)]
    rfl
  | succ rem ih =>
    intro k i r h hr
    have hg := hb.get i (by omega)
    have e : wrap64 ((i : Int) + 1) = ((i + 1 : Nat) : Int) := by rw [w64 (by omega) (by omega)]; simp
    rw [drop_rd l i (by omega), show k + 10 * (rem + 1) + 1 = (k + 10 * rem + 1 + 8 + 1) + 1 by omega, bailiwickref1_Crc.l0, if_pos (by omega), if_pos (by omega)]
    obtain ⟨c, hc⟩ := Int.eq_ofNat_of_zero_le hg.1
    rw [hc, show ((c : Int) % 4294967296) = (c : Int) by omega, xor_nat _ _ hr (by omega)]
    have := ref_inner l i 8 (k + 10 * rem + 1) 0 (r ^^^ c) (by omega) (Nat.xor_lt_two_pow (n := 32) hr (by omega))
    rw [show ((0 : Nat) : Int) = 0 from rfl] at this
    rw [this, e, repN_rec, ih k (i + 1) _ (by omega) (repN_lt 8 _ (Nat.xor_lt_two_pow (n := 32) hr (by omega)))]
    rfl
theorem crc_to (l : List Int) (hb : Bytes l) : octet_Crc.f l = some (Go.bits .xor .u32 (-1) ((crcN 4294967295 l : Nat) : Int)) := by
  unfold octet_Crc.f
  rw [show (4294967295 : Int) = ((4294967295 : Nat) : Int) from rfl, crc_nat l _ hb (by omega)]
theorem refCrc_to (l : List Int) (hl : l.length ≤ 100000) (hb : Bytes l) (k : Nat) (hk : 10 * l.length + 1 ≤ k) : bailiwickref1_Crc.f k l = some (Go.bits .xor .u32 (-1) ((crcN 4294967295 l : Nat) : Int)) := by
  obtain ⟨m, rfl⟩ : ∃ m, k = m + 10 * l.length + 1 := ⟨k - (10 * l.length + 1), by omega⟩
  unfold bailiwickref1_Crc.f
  have := ref_outer l hl hb l.length m 0 4294967295 (by omega) (by omega)
  simpa using this
theorem not_inj (a b : Nat) (ha : a < 4294967296) (hb : b < 4294967296) (h : Go.bits .xor .u32 (-1) (a : Int) = Go.bits .xor .u32 (-1) (b : Int)) : a = b := by
  have e : ∀ x : Int, Go.bits .xor .u32 (-1) x = Go.bits .xor .u32 4294967295 x := fun x => by
    simp only [Go.bits]
    rw [show BitVec.ofInt IntKind.u32.bits (-1) = BitVec.ofInt IntKind.u32.bits 4294967295 from by decide]
  rw [e, e, show (4294967295 : Int) = ((4294967295 : Nat) : Int) from rfl, xor_nat _ _ (by omega) ha, xor_nat _ _ (by omega) hb] at h
  exact xor_left_inj _ _ _ (by exact_mod_cast h)
theorem shl_bit (q : Nat) (hq : q < 8) : ∃ b : Nat, shl .u8 1 (q : Nat) = (b : Int) ∧ b < 256 ∧ b ≠ 0 := by
  have : q = 0 ∨ q = 1 ∨ q = 2 ∨ q = 3 ∨ q = 4 ∨ q = 5 ∨ q = 6 ∨ q = 7 := by omega
  rcases this with rfl | rfl | rfl | rfl | rfl | rfl | rfl | rfl
  · exact ⟨1, by decide, by decide, by decide⟩
  · exact ⟨2, by decide, by decide, by decide⟩
  · exact ⟨4, by decide, by decide, by decide⟩
  · exact ⟨8, by decide, by decide, by decide⟩
  · exact ⟨16, by decide, by decide, by decide⟩
  · exact ⟨32, by decide, by decide, by decide⟩
  · exact ⟨64, by decide, by decide, by decide⟩
  · exact ⟨128, by decide, by decide, by decide⟩
def crcOf (l : List Int) : Int := Go.bits .xor .u32 (-1) ((crcN 4294967295 l : Nat) : Int)
theorem crc_turn (l : List Int) (hB : Bytes l) (i q : Nat) (hi : i < l.length) (hq : q < 8) : Bytes (l.set i (Go.bits .xor .u8 (rd l (i : Int)) (shl .u8 1 (q : Nat)))) ∧ crcOf (l.set i (Go.bits .xor .u8 (rd l (i : Int)) (shl .u8 1 (q : Nat)))) ≠ crcOf l := by
  have hg := hB.get i hi
  obtain ⟨c, hc⟩ := Int.eq_ofNat_of_zero_le hg.1
  have hc2 : c < 256 := by omega
  obtain ⟨b, hb, hb2, hb0⟩ := shl_bit q hq
  rw [hb, hc, u8_xor_nat c b hc2 hb2]
  have hx : c ^^^ b < 256 := Nat.xor_lt_two_pow (n := 8) hc2 hb2
  have hbytes : Bytes (l.set i ((c ^^^ b : Nat) : Int)) := fun q hq => by
    rcases List.mem_or_eq_of_mem_set hq with h | rfl
    · exact hB q h
    · omega
  refine ⟨hbytes, fun he => ?_⟩
  have h4 := not_inj _ _ (crcN_lt _ _ hbytes (by omega)) (crcN_lt _ _ hB (by omega)) he
  have h5 := crcN_set l 4294967295 i _ hB (by omega) hi (by omega) (by omega) h4
  rw [← rd_getD, hc] at h5
  have h6 : c ^^^ b = c := by exact_mod_cast h5
  have := xor_left_inj b 0 c (by rw [Nat.xor_zero]; exact h6)
  exact hb0 this
theorem crc_to' (l : List Int) (hb : Bytes l) : octet_Crc.f l = some (crcOf l) := crc_to l hb
theorem refCrc_to' (l : List Int) (hl : l.length ≤ 100000) (hb : Bytes l) (k : Nat) (hk : 10 * l.length + 1 ≤ k) : bailiwickref1_Crc.f k l = some (crcOf l) := refCrc_to l hl hb k hk
theorem some_bne (a b : Int) (h : a ≠ b) : some (a != b) = some true := by simp [h]
theorem OctetCrcs : bailiwicklaw1_OctetCrcs.Pure := by
  intro l a hl ha
  obtain ⟨h1, h2, h3⟩ := hl
  have hB := bytes_of h3
  simp [Lit.wf, IntKind.min, IntKind.max, IntKind.bits, IntKind.signed] at ha
  refine ⟨10 * l.length + 19 + 1, ?_⟩
  unfold bailiwicklaw1_OctetCrcs.f
  rw [awake1]
  simp only [Option.bind_some, if_true]
  by_cases g1 : (l.length : Int) > 100000
  · rw [if_pos g1]
  rw [if_neg g1, crc_to' l hB, refCrc_to' l (by omega) hB _ (by omega)]
  simp only [Option.bind_some, if_true]
  generalize hcr : crcOf l = cr
  by_cases g2 : a < 0
  · rw [if_pos g2, bailiwicklaw1_OctetCrcs.j0, if_pos rfl]
  rw [if_neg g2]
  obtain ⟨a, rfl⟩ := Int.eq_ofNat_of_zero_le (by omega : 0 ≤ a)
  have e1 : wrap64 (Int.tdiv (a : Int) 8) = ((a / 8 : Nat) : Int) := by
    rw [Int.tdiv_eq_ediv_of_nonneg (by omega), w64 (by omega) (by omega)]; simp
  have e2 : IntKind.u64.wrap (Int.tmod (a : Int) 8) = ((a % 8 : Nat) : Int) := by
    rw [Int.tmod_eq_emod_of_nonneg (by omega), wrap_u64]; omega
  rw [e1]
  by_cases g3 : ((a / 8 : Nat) : Int) ≥ (l.length : Int)
  · rw [decide_eq_true g3, bailiwicklaw1_OctetCrcs.j0, if_pos rfl]
  rw [decide_eq_false g3, bailiwicklaw1_OctetCrcs.j0, if_neg (by decide), copy_to l (by omega) _ (by omega), Option.bind_some]
  rw [e1, e2, if_pos (by omega), if_pos (by omega), if_pos (by omega)]
  simp only [Int.toNat_natCast]
  obtain ⟨m, hm, t1, t2⟩ : ∃ m, l.set (a / 8) (Go.bits .xor .u8 (rd l ((a / 8 : Nat) : Int)) (shl .u8 1 ((a % 8 : Nat) : Int))) = m ∧ Bytes m ∧ crcOf m ≠ crcOf l := ⟨_, rfl, crc_turn l hB (a / 8) (a % 8) (by omega) (by omega)⟩
  rw [hm, crc_to' m t1, Option.bind_some]
  rw [hcr] at t2
  exact some_bne _ _ t2
end Go.Proofs.Ytdppnkgblklmmaa.Pure
