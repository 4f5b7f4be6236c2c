/- Plain lemmas on ip: the datagram that is built, and what is read of bytes. No program in sight. -/
import Derived.Test.YthnhpbplglmmmaaPureLib5
import Derived.Test.YthnhpbplglmmmaaPip
namespace Go.Proofs.Ythnhpbplglmmmaa.Pure
open Go.RowKit Go.Proofs.Ythnhpbplglmmmaa.P Go.Proofs.YthnhpbplglmmmaaW.PrintWords Go.Proofs.YthnhpbplglmmmaaW.PrintLast Go.Proofs.YthnhpbplglmmmaaW.PrintMore
set_option linter.unusedVariables false
set_option linter.unusedSimpArgs false
theorem u32_wf2 {r : Int} (h : (Lit.int .u32 r).wf = true) : 0 ≤ r ∧ r < 4294967296 := by
  simp [Lit.wf, IntKind.min, IntKind.max, IntKind.bits, IntKind.signed] at h
  omega
theorem i64_wf2 {r : Int} (h : (Lit.int .i64 r).wf = true) : -9223372036854775808 ≤ r ∧ r ≤ 9223372036854775807 := by
  simp [Lit.wf, IntKind.min, IntKind.max, IntKind.bits, IntKind.signed] at h
  omega
theorem or_comm64 (x y : Int) : Go.bits .or .i64 x y = Go.bits .or .i64 y x := by
  simp only [Go.bits]
  rw [BitVec.or_comm]
theorem or_join64 (i : Nat) (x y : Int) (hx0 : 0 ≤ x) (hx : x < 4294967296) (hm : x % 2 ^ i = 0) (hi : i < 32) (hy0 : 0 ≤ y) (hy : y < 2 ^ i) (hs : x + y < 4294967296) : Go.bits .or .i64 x y = x + y :=
  bits_join .i64 63 (by decide) (fun n h0 h1 => by rw [IntKind.wrap_i64]; omega) i x y hx0 hm (by omega) hy0 hy (by omega)
/-- The header's first byte. -/
theorem first_to (n : Nat) (h : n ≤ 40) : Go.bits .or .i64 64 (wrap64 ((20 + (n : Int)).tdiv 4)) = 64 + (20 + (n : Int)) / 4 := by
  rw [Int.tdiv_eq_ediv_of_nonneg (by omega), w64 (by omega) (by omega)]
  exact or_join64 4 64 _ (by decide) (by decide) (by decide) (by decide) (by omega) (by omega) (by omega)
def ipart (df mf : Bool) (off : Int) : Int := off + (if df = true then 16384 else 0) + (if mf = true then 8192 else 0)
theorem part_to' (df mf : Bool) (off : Int) (h0 : 0 ≤ off) (h1 : off ≤ 8191) : ip_Build.part df mf off = ipart df mf off := by
  unfold ip_Build.part ipart
  have e1 : Go.bits .or .i64 off 16384 = 16384 + off := by rw [or_comm64]; exact or_join64 14 16384 off (by decide) (by decide) (by decide) (by decide) h0 (by omega) (by omega)
  have e2 : Go.bits .or .i64 off 8192 = 8192 + off := by rw [or_comm64]; exact or_join64 13 8192 off (by decide) (by decide) (by decide) (by decide) h0 (by omega) (by omega)
  have e3 : Go.bits .or .i64 (16384 + off) 8192 = 24576 + off := by
    have a1 := or_join64 14 16384 (8192 + off) (by decide) (by decide) (by decide) (by decide) (by omega) (by omega) (by omega)
    have : Go.bits .or .i64 (Go.bits .or .i64 16384 off) 8192 = Go.bits .or .i64 16384 (Go.bits .or .i64 8192 off) := by
      rw [or_join64 14 16384 off (by decide) (by decide) (by decide) (by decide) h0 (by omega) (by omega)]
      have q : (16384 + off) = Go.bits .or .i64 16384 off := (or_join64 14 16384 off (by decide) (by decide) (by decide) (by decide) h0 (by omega) (by omega)).symm
      obtain ⟨n, rfl⟩ := Int.eq_ofNat_of_zero_le h0
      have hn : n < 8192 := by omega
      have hh1 : (16384 : Nat) ||| n = 16384 + n := by
        have := Nat.two_pow_add_eq_or_of_lt (i := 14) (b := n) (by omega) 1
        simpa using this.symm
      have hh2 : (8192 : Nat) ||| n = 8192 + n := by
        have := Nat.two_pow_add_eq_or_of_lt (i := 13) (b := n) (by omega) 1
        simpa using this.symm
      have e5 : Go.bits .or .i64 8192 (n : Int) = ((8192 + n : Nat) : Int) := by rw [or_join64 13 8192 n (by decide) (by decide) (by decide) (by decide) (by omega) (by omega) (by omega)]; simp
      rw [e5, show ((16384 : Int) + (n : Int)) = ((16384 + n : Nat) : Int) by simp, or_comm64, show ((16384 + n : Nat) : Int) = ((8192 + n + 8192 : Nat) : Int) by omega]
      have a2 := or_join64 14 16384 ((8192 + n : Nat) : Int) (by decide) (by decide) (by decide) (by decide) (by omega) (by omega) (by omega)
      rw [a2]
      have a3 : (8192 : Nat) ||| (8192 + n + 8192) = 24576 + n := by
        rw [show 8192 + n + 8192 = 16384 + n by omega, ← hh1, Nat.or_comm 16384 n, ← Nat.or_assoc, hh2, Nat.or_comm]
        have := Nat.two_pow_add_eq_or_of_lt (i := 14) (b := 8192 + n) (by omega) 1
        simp at this
        omega
      have a4 : Go.bits .or .i64 8192 ((8192 + n + 8192 : Nat) : Int) = ((8192 ||| (8192 + n + 8192) : Nat) : Int) := by
        simp only [Go.bits, BitVec.toNat_or, BitVec.ofInt_natCast, show (8192 : Int) = ((8192 : Nat) : Int) from rfl, BitVec.toNat_ofNat]
        rw [Nat.mod_eq_of_lt (show 8192 < 2 ^ IntKind.i64.bits by decide), Nat.mod_eq_of_lt (show 8192 + n + 8192 < 2 ^ IntKind.i64.bits by simp [IntKind.bits]; omega), a3, IntKind.wrap_i64]
        omega
      rw [a4, a3]
      omega
    rw [or_join64 14 16384 off (by decide) (by decide) (by decide) (by decide) h0 (by omega) (by omega), or_join64 13 8192 off (by decide) (by decide) (by decide) (by decide) h0 (by omega) (by omega), a1] at this
    rw [this]
    omega
  cases df <;> cases mf <;> simp only [if_true, if_false, Bool.false_eq_true] <;> (try rw [e1]) <;> (try rw [e2]) <;> (try rw [e3]) <;> omega
theorem inW_to (x : Int) (n : Nat) (hn : n ≤ 16) (hx : x ≤ 9223372036854775807) : ip_Build.inW x n = decide (0 ≤ x ∧ x < 2 ^ n) := by
  unfold ip_Build.inW
  have hpos : (0 : Int) < 2 ^ n := Int.pow_pos (by decide)
  by_cases h : x ≥ 0
  · rw [if_pos h]
    have e : shr .i64 x (n : Int) = x / 2 ^ n := by
      unfold shr
      congr 2
      show min ((n : Int)).toNat 64 = n
      omega
    rw [e, Bool.eq_iff_iff]
    simp only [beq_iff_eq, decide_eq_true_eq]
    constructor
    · intro h2
      refine ⟨h, ?_⟩
      rcases Int.lt_or_le x (2 ^ n) with h3 | h3
      · exact h3
      · have := Int.le_ediv_of_mul_le hpos (show 1 * 2 ^ n ≤ x by omega)
        omega
    · intro h2
      exact Int.ediv_eq_zero_of_lt h2.1 h2.2
  · rw [if_neg h, eq_comm, decide_eq_false]
    omega
/-- The twenty bytes of a header, its check c laid in. -/
def iHead (tos id fl ttl proto src dst n tot c : Int) : List Int := [(64 + (20 + n) / 4) % 256, tos % 256, tot / 256 % 256, tot % 256, id / 256 % 256, id % 256, fl / 256 % 256, fl % 256, ttl % 256, proto % 256, c / 256 % 256, c % 256, src / 16777216 % 256, src / 65536 % 256, src / 256 % 256, src % 256, dst / 16777216 % 256, dst / 65536 % 256, dst / 256 % 256, dst % 256]
theorem iHead_len (tos id fl ttl proto src dst n tot c : Int) : (iHead tos id fl ttl proto src dst n tot c).length = 20 := rfl
theorem iHead_bytes (tos id fl ttl proto src dst n tot c : Int) : Bytes (iHead tos id fl ttl proto src dst n tot c) := by
  intro x hx
  unfold iHead at hx
  simp only [List.mem_cons, List.not_mem_nil, or_false] at hx
  rcases hx with rfl | rfl | rfl | rfl | rfl | rfl | rfl | rfl | rfl | rfl | rfl | rfl | rfl | rfl | rfl | rfl | rfl | rfl | rfl | rfl <;> omega
def ihd (tos id : Int) (df mf : Bool) (off ttl proto src dst c : Int) (opts body : List Int) : List Int := iHead tos id (ipart df mf off) ttl proto src dst opts.length (20 + opts.length + body.length) c ++ opts
theorem ihd_len (tos id : Int) (df mf : Bool) (off ttl proto src dst c : Int) (opts body : List Int) : (ihd tos id df mf off ttl proto src dst c opts body).length = 20 + opts.length := by
  unfold ihd
  rw [List.length_append, iHead_len]
theorem ihd_bytes (tos id : Int) (df mf : Bool) (off ttl proto src dst c : Int) (opts body : List Int) (ho : Bytes opts) : Bytes (ihd tos id df mf off ttl proto src dst c opts body) := Bytes.append (iHead_bytes _ _ _ _ _ _ _ _ _ _) ho
def icheck (tos id : Int) (df mf : Bool) (off ttl proto src dst : Int) (opts body : List Int) : Int := 65535 - sumOf (ihd tos id df mf off ttl proto src dst 0 opts body)
theorem icheck_bound (tos id : Int) (df mf : Bool) (off ttl proto src dst : Int) (opts body : List Int) : 0 ≤ icheck tos id df mf off ttl proto src dst opts body ∧ icheck tos id df mf off ttl proto src dst opts body ≤ 65535 := by
  have := sumOf_bound (ihd tos id df mf off ttl proto src dst 0 opts body)
  unfold icheck
  omega
def ibytes (tos id : Int) (df mf : Bool) (off ttl proto src dst : Int) (opts body : List Int) : List Int := ihd tos id df mf off ttl proto src dst (icheck tos id df mf off ttl proto src dst opts body) opts body ++ body
theorem ibytes_len (tos id : Int) (df mf : Bool) (off ttl proto src dst : Int) (opts body : List Int) : (ibytes tos id df mf off ttl proto src dst opts body).length = 20 + opts.length + body.length := by
  unfold ibytes
  rw [List.length_append, ihd_len]
def iok (tos id off ttl proto : Int) (opts : List Int) : Prop := (0 ≤ tos ∧ tos < 256) ∧ (0 ≤ ttl ∧ ttl < 256) ∧ (0 ≤ proto ∧ proto < 256) ∧ (0 ≤ id ∧ id < 65536) ∧ (0 ≤ off ∧ off < 8192) ∧ opts.length ≤ 40 ∧ opts.length % 4 = 0
instance (tos id off ttl proto : Int) (opts : List Int) : Decidable (iok tos id off ttl proto opts) := by unfold iok; infer_instance
def ibuild (tos id : Int) (df mf : Bool) (off ttl proto src dst : Int) (opts body : List Int) : List Int × Int := if iok tos id off ttl proto opts then (if (body.length : Int) > 2028 - (opts.length : Int) then ([], 3) else (ibytes tos id df mf off ttl proto src dst opts body, 0)) else ([], 1)
theorem iput1 (l : List Int) (a : Nat) (x : Int) (hl : l.length ≤ 1000) (h : a + 1 ≤ l.length) : ip_Build.put l a 1 x = some (l.set a (x % 256)) := by
  unfold ip_Build.put ip_put.f
  have e0 : wrap64 ((1 : Int) - 1) = 0 := by unfold wrap64; omega
  have e1 : wrap64 ((a : Int) + 0) = (a : Int) := by rw [w64 (by omega) (by omega)]; omega
  have e2 : wrap64 ((0 : Int) - 1) = -1 := by unfold wrap64; omega
  rw [e0, ip_put.l0, if_pos (by decide), e1, if_pos (by omega), if_pos (by omega), e2, ip_put.l0, if_neg (by decide), Int.toNat_natCast]
theorem iput2 (l : List Int) (a : Nat) (x : Int) (hl : l.length ≤ 1000) (h : a + 2 ≤ l.length) : ip_Build.put l a 2 x = some ((l.set (a + 1) (x % 256)).set a (x / 256 % 256)) := by
  unfold ip_Build.put ip_put.f
  have e0 : wrap64 ((2 : Int) - 1) = 1 := by unfold wrap64; omega
  have e1 : wrap64 ((a : Int) + 1) = ((a + 1 : Nat) : Int) := by rw [w64 (by omega) (by omega)]; omega
  have e2 : wrap64 ((1 : Int) - 1) = 0 := by unfold wrap64; omega
  have e3 : wrap64 ((a : Int) + 0) = (a : Int) := by rw [w64 (by omega) (by omega)]; omega
  have e4 : wrap64 ((0 : Int) - 1) = -1 := by unfold wrap64; omega
  rw [e0, ip_put.l0, if_pos (by decide), e1, if_pos (by omega), if_pos (by omega), e2, ip_put.l0, if_pos (by decide), e3, if_pos (by omega), if_pos (by rw [List.length_set]; omega), e4, ip_put.l0, if_neg (by decide), Int.toNat_natCast, Int.toNat_natCast]
theorem iput4 (l : List Int) (a : Nat) (x : Int) (hl : l.length ≤ 1000) (h : a + 4 ≤ l.length) : ip_Build.put l a 4 x = some ((((l.set (a + 3) (x % 256)).set (a + 2) (x / 256 % 256)).set (a + 1) (x / 65536 % 256)).set a (x / 16777216 % 256)) := by
  unfold ip_Build.put ip_put.f
  have e0 : wrap64 ((4 : Int) - 1) = 3 := by unfold wrap64; omega
  have e1 : wrap64 ((a : Int) + 3) = ((a + 3 : Nat) : Int) := by rw [w64 (by omega) (by omega)]; omega
  have e2 : wrap64 ((3 : Int) - 1) = 2 := by unfold wrap64; omega
  have e3 : wrap64 ((a : Int) + 2) = ((a + 2 : Nat) : Int) := by rw [w64 (by omega) (by omega)]; omega
  have e4 : wrap64 ((2 : Int) - 1) = 1 := by unfold wrap64; omega
  have e5 : wrap64 ((a : Int) + 1) = ((a + 1 : Nat) : Int) := by rw [w64 (by omega) (by omega)]; omega
  have e6 : wrap64 ((1 : Int) - 1) = 0 := by unfold wrap64; omega
  have e7 : wrap64 ((a : Int) + 0) = (a : Int) := by rw [w64 (by omega) (by omega)]; omega
  have e8 : wrap64 ((0 : Int) - 1) = -1 := by unfold wrap64; omega
  rw [e0, ip_put.l0, if_pos (by decide), e1, if_pos (by omega), if_pos (by omega), e2, ip_put.l0, if_pos (by decide), e3, if_pos (by omega), if_pos (by rw [List.length_set]; omega), e4, ip_put.l0, if_pos (by decide), e5, if_pos (by omega), if_pos (by rw [List.length_set, List.length_set]; omega), e6, ip_put.l0, if_pos (by decide), e7, if_pos (by omega), if_pos (by rw [List.length_set, List.length_set, List.length_set]; omega), e8, ip_put.l0, if_neg (by decide), Int.toNat_natCast, Int.toNat_natCast, Int.toNat_natCast, Int.toNat_natCast]
  rw [show x / 256 / 256 % 256 = x / 65536 % 256 by omega, show x / 256 / 256 / 256 % 256 = x / 16777216 % 256 by omega]
theorem ihd_set (tos id : Int) (df mf : Bool) (off ttl proto src dst c : Int) (opts body : List Int) : ((ihd tos id df mf off ttl proto src dst 0 opts body).set 11 (c % 256)).set 10 (c / 256 % 256) = ihd tos id df mf off ttl proto src dst c opts body := rfl
set_option maxHeartbeats 4000000 in
theorem ibuild_to (tos id : Int) (df mf : Bool) (off ttl proto src dst : Int) (opts body : List Int) (ht : tos ≤ 9223372036854775807) (hi : id ≤ 9223372036854775807) (hof : off ≤ 9223372036854775807) (htt : ttl ≤ 9223372036854775807) (hpr : proto ≤ 9223372036854775807) (hs : 0 ≤ src ∧ src < 4294967296) (hd : 0 ≤ dst ∧ dst < 4294967296) (ho : Bytes opts) :
    ip_Build.f tos id df mf off ttl proto src dst opts body = some (ibuild tos id df mf off ttl proto src dst opts body) := by
  have w1 := inW_to tos 8 (by decide) ht
  have w2 := inW_to ttl 8 (by decide) htt
  have w3 := inW_to proto 8 (by decide) hpr
  have w4 := inW_to id 16 (by decide) hi
  have w5 := inW_to off 13 (by decide) hof
  rw [show (((8 : Nat) : Int)) = 8 from rfl, show ((2 : Int) ^ 8) = 256 by decide] at w1 w2 w3
  rw [show (((16 : Nat) : Int)) = 16 from rfl, show ((2 : Int) ^ 16) = 65536 by decide] at w4
  rw [show (((13 : Nat) : Int)) = 13 from rfl, show ((2 : Int) ^ 13) = 8192 by decide] at w5
  unfold ip_Build.f ibuild
  rw [w1, w2, w3, w4, w5]
  by_cases h1 : 0 ≤ tos ∧ tos < 256
  case neg => rw [if_pos (decide_eq_false h1), if_neg (fun h => h1 h.1)]
  rw [if_neg (by simpa using h1)]
  by_cases h2 : 0 ≤ ttl ∧ ttl < 256
  case neg => rw [if_pos (decide_eq_false h2), if_neg (fun h => h2 h.2.1)]
  rw [if_neg (by simpa using h2)]
  by_cases h3 : 0 ≤ proto ∧ proto < 256
  case neg => rw [if_pos (decide_eq_false h3), if_neg (fun h => h3 h.2.2.1)]
  rw [if_neg (by simpa using h3)]
  by_cases h4 : 0 ≤ id ∧ id < 65536
  case neg => rw [if_pos (decide_eq_false h4), if_neg (fun h => h4 h.2.2.2.1)]
  rw [if_neg (by simpa using h4)]
  by_cases h5 : 0 ≤ off ∧ off < 8192
  case neg => rw [if_pos (decide_eq_false h5), if_neg (fun h => h5 h.2.2.2.2.1)]
  rw [if_neg (by simpa using h5)]
  by_cases h6 : (opts.length : Int) > 40
  · rw [if_pos h6, if_neg (fun h => by have := h.2.2.2.2.2.1; omega)]
  rw [if_neg h6]
  by_cases h7 : opts.length % 4 ≠ 0
  · rw [if_pos h7, if_neg (fun h => by have := h.2.2.2.2.2.2; omega)]
  rw [if_neg h7, if_pos (show iok tos id off ttl proto opts from ⟨h1, h2, h3, h4, h5, by omega, by omega⟩)]
  by_cases h8 : (body.length : Int) > 2028 - (opts.length : Int)
  · rw [if_pos h8, if_pos h8]
  rw [if_neg h8, if_neg h8]
  have p0 := iput1 (List.replicate (20 + opts.length) 0) 0 (Go.bits .or .i64 64 (wrap64 ((20 + (opts.length : Int)).tdiv 4))) (by simp; omega) (by simp; omega)
  rw [show ((0 : Nat) : Int) = 0 from rfl] at p0
  rw [p0, Option.bind_some, first_to _ (by omega), part_to' df mf off h5.1 (by omega), w64 (x := src) (by omega) (by omega), w64 (x := dst) (by omega) (by omega)]
  have p1 := fun (l : List Int) (hl : l.length = 20 + opts.length) => iput1 l 1 tos (by omega) (by omega)
  have p2 := fun (l : List Int) (hl : l.length = 20 + opts.length) => iput2 l 2 (20 + (opts.length : Int) + (body.length : Int)) (by omega) (by omega)
  have p4 := fun (l : List Int) (hl : l.length = 20 + opts.length) => iput2 l 4 id (by omega) (by omega)
  have p6 := fun (l : List Int) (hl : l.length = 20 + opts.length) => iput2 l 6 (ipart df mf off) (by omega) (by omega)
  have p8 := fun (l : List Int) (hl : l.length = 20 + opts.length) => iput1 l 8 ttl (by omega) (by omega)
  have p9 := fun (l : List Int) (hl : l.length = 20 + opts.length) => iput1 l 9 proto (by omega) (by omega)
  have p12 := fun (l : List Int) (hl : l.length = 20 + opts.length) => iput4 l 12 src (by omega) (by omega)
  have p16 := fun (l : List Int) (hl : l.length = 20 + opts.length) => iput4 l 16 dst (by omega) (by omega)
  have p10 := fun (l : List Int) (c : Int) (hl : l.length = 20 + opts.length) => iput2 l 10 c (by omega) (by omega)
  rw [show ((1 : Nat) : Int) = 1 from rfl] at p1
  rw [show ((2 : Nat) : Int) = 2 from rfl] at p2
  rw [show ((4 : Nat) : Int) = 4 from rfl] at p4
  rw [show ((6 : Nat) : Int) = 6 from rfl] at p6
  rw [show ((8 : Nat) : Int) = 8 from rfl] at p8
  rw [show ((9 : Nat) : Int) = 9 from rfl] at p9
  rw [show ((12 : Nat) : Int) = 12 from rfl] at p12
  rw [show ((16 : Nat) : Int) = 16 from rfl] at p16
  rw [show ((10 : Nat) : Int) = 10 from rfl] at p10
  rw [p1 _ (by simp), Option.bind_some, p2 _ (by simp), Option.bind_some, p4 _ (by simp), Option.bind_some, p6 _ (by simp), Option.bind_some, p8 _ (by simp), Option.bind_some, p9 _ (by simp), Option.bind_some, p12 _ (by simp), Option.bind_some, p16 _ (by simp), Option.bind_some, if_pos (by simp)]
  have e20 : List.replicate (20 + opts.length) (0 : Int) = [0, 0, 0, 0, 0, 0, 0, 0, 0, 0, 0, 0, 0, 0, 0, 0, 0, 0, 0, 0] ++ List.replicate opts.length 0 := by
    rw [← List.replicate_append_replicate]
    rfl
  rw [e20]
  have eh : ∀ R : List Int, ((((((((((((((((((([0, 0, 0, 0, 0, 0, 0, 0, 0, 0, 0, 0, 0, 0, 0, 0, 0, 0, 0, 0] ++ R).set 0 ((64 + (20 + (opts.length : Int)) / 4) % 256)).set 1 (tos % 256)).set (2 + 1) ((20 + (opts.length : Int) + (body.length : Int)) % 256)).set 2 ((20 + (opts.length : Int) + (body.length : Int)) / 256 % 256)).set (4 + 1) (id % 256)).set 4 (id / 256 % 256)).set (6 + 1) (ipart df mf off % 256)).set 6 (ipart df mf off / 256 % 256)).set 8 (ttl % 256)).set 9 (proto % 256)).set (12 + 3) (src % 256)).set (12 + 2) (src / 256 % 256)).set (12 + 1) (src / 65536 % 256)).set 12 (src / 16777216 % 256)).set (16 + 3) (dst % 256)).set (16 + 2) (dst / 256 % 256)).set (16 + 1) (dst / 65536 % 256)).set 16 (dst / 16777216 % 256)).take 20 ++ opts = ihd tos id df mf off ttl proto src dst 0 opts body := fun R => rfl
  rw [eh, check_one _ (ihd_bytes tos id df mf off ttl proto src dst 0 opts body ho) (by rw [ihd_len]; omega), Option.bind_some, p10 _ _ (ihd_len ..), Option.bind_some, if_pos (by rw [List.length_set, List.length_set, ihd_len]; omega), ihd_set]
  rfl
end Go.Proofs.Ythnhpbplglmmmaa.Pure
