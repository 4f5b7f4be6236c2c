-- Laid by a program (wip/tools/myprint.py) out of the translation. Not trusted: Lean checks it.
import Derived.Test.YtnbanjbhjjhkdaaDoorP0
import Derived.Defers
import Derived.Laws.BitsAllLaws
import Derived.Lib.Bytealg
import Derived.Lib.Slices
import Derived.Lib.Strings
import Derived.Lib.Walk
import Derived.Recover
import Derived.StillTailTactics
import Derived.Test.YtnbanjbhjjhkdaaDoorPureLibL
import Derived.Test.YtnbanjbhjjhkdaaDoorPureWHand
import Derived.WalkSmall
namespace Go.Proofs.YtnbanjbhjjhkdaaDoor.P
open Go.RowKit Go.Proofs.YtnbanjbhjjhkdaaDoorW.PrintWords Go.Proofs.YtnbanjbhjjhkdaaDoorW.PrintLast
set_option linter.unusedVariables false
set_option linter.unusedSimpArgs false

/-! ### line_Find: function 10, by hand -/
/-- All but the reader is as it was. -/
structure KeptP (p : Nat) (w w' : World) : Prop where
  os : w'.os = w.os
  tape : w'.tape = w.tape
  output : w'.output = w.output
  size : w.heap.size ≤ w'.heap.size
  block : ∀ g, g < w.heap.size → g ≠ p → w'.heap[g]? = w.heap[g]?
theorem KeptP.refl (p : Nat) (w : World) : KeptP p w w := ⟨rfl, rfl, rfl, Nat.le_refl _, fun _ _ _ => rfl⟩
theorem KeptP.trans {p : Nat} {a b c : World} (h : KeptP p a b) (k : KeptP p b c) : KeptP p a c :=
  ⟨k.os.trans h.os, k.tape.trans h.tape, k.output.trans h.output, Nat.le_trans h.size k.size, fun g hg hne => (k.block g (Nat.lt_of_lt_of_le hg h.size) hne).trans (h.block g hg hne)⟩
theorem KeptP.drawn {p : Nat} {a b c : World} (h : KeptP p a b) (k : Drawn0 b c) : KeptP p a c := by
  obtain ⟨n, rfl⟩ := k
  exact h.trans ⟨rfl, rfl, rfl, Nat.le_refl _, fun _ _ _ => rfl⟩
theorem KeptP.set {p : Nat} {a b : World} (h : KeptP p a b) (j : Nat) (v : Value) : KeptP p a (b.setCell ⟨p, j, none⟩ v) :=
  h.trans ⟨rfl, rfl, rfl, by simp [World.setCell], fun g hg hne => Below.heap_setCell _ _ _ g hne⟩
theorem KeptP.of_below {p : Nat} {w w' : World} (h : Below w.heap.size w w') : KeptP p w w' := ⟨h.os, h.tape, h.output, h.size, fun g hg _ => h.block g hg⟩
theorem KeptP.below {p : Nat} {w w1 w' : World} (h : KeptP p w1 w') (hb : Below w.heap.size w w1) (hg : w.heap.size ≤ p) : Below w.heap.size w w' :=
  hb.trans ⟨h.os, h.tape, h.output, h.size, fun k hk => h.block k (by have := hb.size; omega) (by omega)⟩
theorem KeptP.cell {p : Nat} {w w' : World} (h : KeptP p w w') {a : Addr} {v : Value} (ha : w.cell? a = some v) (hne : a.block ≠ p) : w'.cell? a = some v := by
  have hlt := World.block_lt_of_cell? w _ ha
  have hb := h.block a.block hlt hne
  unfold World.cell? at ha ⊢
  rw [hb]
  exact ha
theorem KeptP.row {p g : Nat} {w w' : World} {o : Obj} (h : KeptP p w w') (hb : w.heap[g]? = some o) (hne : g ≠ p) : w'.heap[g]? = some o := (h.block g (blk_lt hb) hne).trans hb
/-- A region that draws its order: all its operations but the last ones only read; what follows each is a letter. -/
theorem region_tail {P : Program} {id : Nat} {Q : Exit → Act → World → Prop} {a : Act} {w : World} {l : List Oper} (n : Nat) (hm : P.follows .mixedOrders = true) (hB : Region.lexTailB .any l.toArray n = true)
    (h : ∀ G : List Oper → Act → Prop, Aside0 (∀ o rest a, (∀ K : Act → Prop, (∀ a, G rest a → K a) → if Region.wanted o (yielded l.toArray a.tmps) = true then Oper.still P o a w.drew K else K (a.put o.dst undef)) → G (o :: rest) a) →
      Aside0 (∀ a', wpList P l.toArray Q (l.drop n) a' w.drew → G [] a') → G (l.take n) a) : (Code.region id l.toArray true).wp P Q a w :=
  wp_region_still_tail n hm hB (h _ ⟨fun _ _ _ hh => wpStill_step hh⟩ ⟨fun _ hh => wpStill_nil hh⟩)
def oddP : List PanicEntry := [{ v := .iface 64 (.agg #[]), recovered := false }]
theorem line_must.pass (w : World) : Calls Tryd.prog 53 #[.bool true] w fun e' w' => e' = .returned (.tuple #[]) ∧ w = w' := by
  go_enter Tryd.func53, Tryd.ntmps53
  go_wp2
  first | go_end0 | ((try simp only [Exit.inBlock, Exit.then]); refine bodyPost_ret (results_none rfl _ _ _) rfl ?_)
  exact ⟨rfl, rfl⟩
theorem line_must.gives (w : World) : Calls Tryd.prog 53 #[.bool false] w fun e' w' => e' = .panicked oddP ∧ w = w' := by
  go_enter Tryd.func53, Tryd.ntmps53
  go_wp2
  exact ⟨rfl, rfl, rfl⟩
set_option maxHeartbeats 1600000 in
set_option maxRecDepth 100000 in
theorem line_next.calls (p : Nat) (A : Option Addr) (c : Nat) (l : List Int) (k : Nat) (w : World) (h : w.heap[p]? = some (.cells #[.slice A l.length c, .int .i64 k] 69 (0, 0))) (hr : Kd.C (Kd.int .u8) w A l.length l) :
    Calls Tryd.prog 67 #[.pointer (some ⟨p, 0, none⟩)] w fun e w' => e = .returned (.int .u8 (lineAt l k)) ∧ Drawn0 w w' := by
  have h0 : w.cell? ⟨p, 0, none⟩ = some (.slice A l.length c) := (blk_cell h 0).trans rfl
  have h1 : w.cell? ⟨p, 1, none⟩ = some (.int .i64 k) := (blk_cell h 1).trans rfl
  have HR := Aside0.mk hr
  clear h
  by_cases hk : k < l.length
  · have c0 : decide (k < l.length) = true := decide_eq_true hk
    have c1 : decide ((k : Int) < (l.length : Int)) = true := decide_eq_true (by omega)
    obtain ⟨ad, e2, hx⟩ := Kd.at_int hr (k : Int) (by omega) (by omega)
    cases e2
    simp only [Int.toNat_natCast] at hx
    have e : Aside0 (lineAt l k = rd l (k : Int)) := ⟨by unfold lineAt rd; rw [Int.toNat_natCast]⟩
    clear hr
    go_enter Tryd.func67, Tryd.ntmps67
    go_wp2
    repeat (go_quiet (fail); try go_wp2)
    go_ret
    exact ⟨by rw [e.out]; rfl, by repeat (first | exact Drawn0.refl _ | apply Drawn0.step)⟩
  · have c0 : decide (k < l.length) = false := decide_eq_false hk
    have c1 : decide ((k : Int) < (l.length : Int)) = false := decide_eq_false (by omega)
    have e : Aside0 (lineAt l k = 0) := ⟨by unfold lineAt; rw [List.getD_eq_getElem?_getD, List.getElem?_eq_none (by omega)]; rfl⟩
    clear hr
    go_enter Tryd.func67, Tryd.ntmps67
    go_wp2
    repeat (go_quiet (fail); try go_wp2)
    go_ret
    exact ⟨by rw [e.out]; rfl, by repeat (first | exact Drawn0.refl _ | apply Drawn0.step)⟩
set_option maxHeartbeats 1600000 in
set_option maxRecDepth 100000 in
theorem line_over.calls (p : Nat) (A : Option Addr) (c : Nat) (l : List Int) (k : Nat) (w : World) (h : w.heap[p]? = some (.cells #[.slice A l.length c, .int .i64 k] 69 (0, 0))) :
    Calls Tryd.prog 49 #[.pointer (some ⟨p, 0, none⟩)] w fun e w' => e = (if k = l.length then .returned (.tuple #[]) else .panicked oddP) ∧ Drawn0 w w' := by
  have h0 : w.cell? ⟨p, 0, none⟩ = some (.slice A l.length c) := (blk_cell h 0).trans rfl
  have h1 : w.cell? ⟨p, 1, none⟩ = some (.int .i64 k) := (blk_cell h 1).trans rfl
  clear h
  by_cases hk : k = l.length
  · have c1 : ((k : Int) == (l.length : Int)) = true := beq_iff_eq.mpr (by omega)
    rw [if_pos hk]
    clear hk
    go_enter Tryd.func49, Tryd.ntmps49
    go_still_tail 10, (by kernel_rfl)
    change wpList _ _ _ _ _ w.drew
    go_wp2_with (first | (go_at_call 53; refine (line_must.pass _).mono ?_; rintro e' w1 ⟨rfl, rfl⟩))
    go_end0
    exact ⟨rfl, Drawn0.step (Drawn0.refl _) _⟩
  · have c1 : ((k : Int) == (l.length : Int)) = false := beq_eq_false_iff_ne.mpr (by omega)
    rw [if_neg hk]
    clear hk
    go_enter Tryd.func49, Tryd.ntmps49
    go_still_tail 10, (by kernel_rfl)
    change wpList _ _ _ _ _ w.drew
    go_wp2_with (first | (go_at_call 53; refine (line_must.gives _).mono ?_; rintro e' w1 ⟨rfl, rfl⟩))
    exact ⟨rfl, rfl, Drawn0.step (Drawn0.refl _) _⟩
theorem line_wrap_u64 (n : Int) : IntKind.u64.wrap n = n % 18446744073709551616 := by simp [IntKind.wrap, IntKind.bits, IntKind.signed]
theorem line_or (x c : Int) (h0 : 0 ≤ x) (h1 : x < 72057594037927936) (hc : 0 ≤ c) (hc1 : c < 256) : Go.bits .or .u64 (IntKind.u64.wrap (x * 256)) (IntKind.u64.wrap c) = x * 256 + c := by
  rw [line_wrap_u64, line_wrap_u64, Int.emod_eq_of_lt (by omega) (by omega), Int.emod_eq_of_lt (by omega) (by omega)]
  exact bits_join .u64 64 (by decide) (fun n h0 h1 => by rw [line_wrap_u64]; omega) 8 (x * 256) c (by omega) (by simp) (by omega) hc (by omega) (by omega)
theorem line_two_pow_ne (n : Nat) : ((2 : Int) ^ n) ≠ 0 := by
  have h := Nat.two_pow_pos n
  have h2 : ((2 ^ n : Nat) : Int) = (2 : Int) ^ n := by simp
  omega
theorem line_and_mask (k : IntKind) (i : Nat) (hi : i ≤ k.bits) (x : Int) : Go.bits .and k x (2 ^ i - 1) = k.wrap (x % 2 ^ i) := by
  have hpos : 0 < 2 ^ i := Nat.two_pow_pos i
  have hc : ((2 : Int) ^ i - 1) = ((2 ^ i - 1 : Nat) : Int) := by
    rw [Int.natCast_sub hpos]; simp
  have hp : 2 ^ i ≤ 2 ^ k.bits := Nat.pow_le_pow_right (by decide) hi
  have hm : (2 ^ i - 1) % 2 ^ k.bits = 2 ^ i - 1 := Nat.mod_eq_of_lt (by omega)
  rw [hc]
  simp only [Go.bits, BitVec.toNat_and, BitVec.ofInt_natCast, BitVec.toNat_ofNat, hm, BitVec.toNat_ofInt, Nat.and_two_pow_sub_one_eq_mod]
  congr 1
  have h1 : (((x % ((2 : Int) ^ k.bits)).toNat % 2 ^ i : Nat) : Int) = x % 2 ^ i := by
    rw [Int.natCast_emod, Int.toNat_of_nonneg (Int.emod_nonneg _ (line_two_pow_ne k.bits))]
    rw [show (((2 ^ i : Nat) : Int)) = (2 : Int) ^ i by simp]
    exact Int.emod_emod_of_dvd x (by exact_mod_cast Nat.pow_dvd_pow 2 hi)
  exact_mod_cast h1
theorem line_and (x : Int) : Go.bits .and .u64 x 65535 = x % 65536 := by
  have h := line_and_mask .u64 16 (by decide) x
  rw [show ((2 : Int) ^ 16 - 1) = 65535 from rfl, show ((2 : Int) ^ 16) = 65536 from rfl] at h
  rw [h]
  simp [IntKind.wrap, IntKind.bits, IntKind.signed]
  omega
theorem lineSkip_le (l : List Int) : ∀ (s : List Int) (k k' : Nat), lineSkip l s k = some k' → k ≤ l.length → k' ≤ l.length
  | [], k, k', h, hk => by
    unfold lineSkip at h
    cases h
    exact hk
  | c :: s, k, k', h, hk => by
    unfold lineSkip at h
    split at h
    · rename_i hh
      exact lineSkip_le l s (k + 1) k' h hh.2
    · cases h
theorem lineSkip_drop (l s : List Int) (i k : Nat) (h : i < s.length) : lineSkip l (s.drop i) k = if lineUp (lineAt l k) = rd s (i : Int) ∧ k < l.length then lineSkip l (s.drop (i + 1)) (k + 1) else none := by
  rw [List.drop_eq_getElem_cons h]
  have e : rd s (i : Int) = s[i] := by simp [rd, h]
  rw [e]
  rfl
set_option maxHeartbeats 8000000 in
set_option maxRecDepth 100000 in
theorem line_skip.calls (p : Nat) (A : Option Addr) (c : Nat) (l : List Int) (S : ByteArray) (k : Nat) (w0 w : World) (h : w.heap[p]? = some (.cells #[.slice A l.length c, .int .i64 k] 69 (0, 0))) (hr : Kd.C (Kd.int .u8) w0 A l.length l)
    (hb : Below w0.heap.size w0 w) (hg : w0.heap.size ≤ p) (hS : S.size ≤ 9223372036854775807) :
    Calls Tryd.prog 47 #[.pointer (some ⟨p, 0, none⟩), .string S] w fun e w' => (∃ k', lineSkip l (bytesOf S) k = some k' ∧ e = .returned (.tuple #[]) ∧ w'.heap[p]? = some (.cells #[.slice A l.length c, .int .i64 k'] 69 (0, 0)) ∧ KeptP p w w') ∨ (lineSkip l (bytesOf S) k = none ∧ e = .panicked oddP ∧ KeptP p w w') := by
  have HR := Aside0.mk hr
  have HB := Aside0.mk hb
  have HG := Aside0.mk hg
  have HL := Aside0.mk hr.2.1
  have kb := fun W => print_bytes (P := Tryd.prog) 9 32 5 Tryd.underlying9 Tryd.underlying32 Tryd.underlying5 S W
  have HC : Aside0 (Kd.C (Kd.int .u8) (Lib.bytesWorld w 5 S) (some ⟨w.heap.size, 0, none⟩) (bytesOf S).length (bytesOf S)) := ⟨by
    rw [bytesOf_length]
    exact Kd.C_of_reads (h1 := fun _ => rfl) (bytes_reads w 5 S hS)⟩
  have HLN : Aside0 (S.size = (bytesOf S).length) := ⟨(bytesOf_length S).symm⟩
  have HPL := Aside0.mk (blk_lt h)
  have HP : Aside0 ((Lib.bytesWorld w 5 S).heap[p]? = some (.cells #[.slice A l.length c, .int .i64 k] 69 (0, 0))) := ⟨(Lib.bytesWorld_at_old w _ S p HPL.out).trans h⟩
  have HK : Aside0 (KeptP p w (Lib.bytesWorld w 5 S)) := ⟨KeptP.of_below (bytes_below (Below.refl _ _) (Nat.le_refl _) _ _)⟩
  have HNE : Aside0 (w.heap.size ≠ p) := ⟨by have := HPL.out; omega⟩
  have HSS := Aside0.mk hS
  have HLE := Aside0.mk (lineSkip_le l (bytesOf S) k)
  clear hr hb hg h hS
  go_enter Tryd.func47, Tryd.ntmps47
  go_wp2_with (fail)
  go_loopg [10] S.size (fun kq v10 w' => ∃ (i ki : Nat), v10 = .int .i64 i ∧ Aside0 (i + kq = S.size) ∧ Aside0 (lineSkip l ((bytesOf S).drop i) ki = lineSkip l (bytesOf S) k) ∧ Aside0 (w'.heap[p]? = some (.cells #[.slice A l.length c, .int .i64 ki] 69 (0, 0))) ∧ Aside0 (KeptP p (Lib.bytesWorld w 5 S) w'))
  case atStart => exact ⟨0, k, rfl, ⟨by simp⟩, ⟨rfl⟩, HP, ⟨KeptP.refl _ _⟩⟩
  case round =>
    obtain ⟨i, ki, rfl, HJ, HF, HPW, HKW⟩ := hrel
    by_cases c2 : i < S.size
    · have c2b1 : decide ((i : Int) < (S.size : Int)) = true := decide_eq_true (by omega)
      have c2b0 : decide (i < S.size) = true := decide_eq_true c2
      obtain ⟨ad, e2, hx⟩ := Kd.at_int HC.out (i : Int) (by omega) (by have := HLN.out; omega)
      cases e2
      simp only [Int.toNat_natCast] at hx
      rw [add_plain] at hx
      replace hx := HKW.out.cell hx HNE.out
      have HSK : Aside0 ((if lineUp (lineAt l ki) = rd (bytesOf S) (i : Int) ∧ ki < l.length then lineSkip l ((bytesOf S).drop (i + 1)) (ki + 1) else none) = lineSkip l (bytesOf S) k) := ⟨by rw [← lineSkip_drop l (bytesOf S) i ki (by have := HLN.out; omega)]; exact HF.out⟩
      have h0 : wr.cell? ⟨p, 0, none⟩ = some (.slice A l.length c) := (blk_cell HPW.out 0).trans rfl
      have h1 : wr.cell? ⟨p, 1, none⟩ = some (.int .i64 ki) := (blk_cell HPW.out 1).trans rfl
      have hf1 : wr.frozen? ⟨p, 1, none⟩ = false := blk_frozen HPW.out 1
      have HRW : Aside0 (Kd.C (Kd.int .u8) wr A l.length l) := ⟨Kd.C_below HR.out ((HK.out.trans HKW.out).below HB.out HG.out)⟩
      generalize rd (bytesOf S) (i : Int) = ch at *
      have HAT0 := line_next.calls p A c l ki wr HPW.out HRW.out
      obtain ⟨x, hxx⟩ : ∃ x, x = lineAt l ki := ⟨_, rfl⟩
      rw [← hxx] at HAT0 HSK
      have HAT := Aside0.mk HAT0
      clear HAT0
      clear hxx
      obtain ⟨wo, rfl⟩ : ∃ wo : World, wo = wr := ⟨_, rfl⟩
      obtain ⟨k1, rfl⟩ : ∃ k1, gk = k1 + 1 := ⟨gk - 1, by have := HJ.out; omega⟩
      by_cases hx1 : 97 ≤ x
      · have p1 : decide (x ≥ 97) = true := decide_eq_true hx1
        by_cases hx2 : x ≤ 122
        · have p2 : decide (x ≤ 122) = true := decide_eq_true hx2
          have p3 : (x - 32) % 256 = x - 32 := by omega
          have HUP : Aside0 (lineUp x = x - 32) := ⟨by unfold lineUp; rw [if_pos ⟨hx1, hx2⟩]⟩
          go_upto_region 6 with (first | (go_at_call 67; refine HAT.out.mono ?_; rintro e' w1 ⟨rfl, hd⟩; clear h0 h1 hf1 HAT HRW; have HPX : Aside0 (w1.heap[p]? = some (.cells #[.slice A l.length c, .int .i64 ki] 69 (0, 0))) := ⟨by obtain ⟨nd, rfl⟩ := hd; exact HPW.out⟩; have HKX := Aside0.mk (HKW.out.drawn hd); have h0 : w1.cell? ⟨p, 0, none⟩ = some (.slice A l.length c) := (blk_cell HPX.out 0).trans rfl; have h1 : w1.cell? ⟨p, 1, none⟩ = some (.int .i64 ki) := (blk_cell HPX.out 1).trans rfl; have hf1 : w1.frozen? ⟨p, 1, none⟩ = false := blk_frozen HPX.out 1; clear hd hx HPW HKW))
          clear p3
          generalize x - 32 = y at *
          clear p1 kb p2
          have HSK2 := Aside0.mk (HUP.out ▸ HSK.out)
          by_cases hch : y = ch
          · by_cases hkl : ki < l.length
            · have q1 : (y == ch) = true := beq_iff_eq.mpr hch
              have q2 : decide ((ki : Int) < (l.length : Int)) = true := decide_eq_true (by omega)
              have q2' : decide (ki < l.length) = true := decide_eq_true hkl
              have HN : Aside0 (lineSkip l ((bytesOf S).drop (i + 1)) (ki + 1) = lineSkip l (bytesOf S) k) := ⟨by rw [← HSK.out, HUP.out, if_pos ⟨hch, hkl⟩]⟩
              have q3 : wrap64 ((ki : Int) + 1) = ((ki + 1 : Nat) : Int) := by have := HL.out; unfold wrap64; omega
              clear hch
              refine region_tail 15 (by kernel_rfl) (by kernel_rfl) ?_
              intro G HS HE
              simp only [List.take_succ_cons, List.take_zero, List.drop_succ_cons, List.drop_zero]
              repeat (refine HS.out _ _ _ (fun K hK => ?_); go_simp; refine hK _ ?_; clear hK K)
              refine HE.out _ ?_
              clear HS HE G
              go_wp2_with (first | (go_at_call 53; refine (line_must.pass _).mono ?_; rintro e' w2 ⟨rfl, rfl⟩))
              go_roundg k1
              case measure => omega
              case rel => exact ⟨i + 1, ki + 1, congrArg (Value.int .i64) (by have := HSS.out; unfold wrap64; omega), ⟨by have := HJ.out; omega⟩, HN, ⟨by rw [show ((ki + 1 : Nat) : Int) = (ki : Int) + 1 from by omega]; exact blk_put (cs' := #[.slice A l.length c, .int .i64 ((ki : Int) + 1)]) HPX.out 1 _ rfl⟩, ⟨(HKX.out.set 1 _).drawn (Drawn0.step (Drawn0.refl _) _)⟩⟩
            · have q1 : (y == ch) = true := beq_iff_eq.mpr hch
              have q2 : decide ((ki : Int) < (l.length : Int)) = false := decide_eq_false (by omega)
              have q2' : decide (ki < l.length) = false := decide_eq_false hkl
              have HN : Aside0 (lineSkip l (bytesOf S) k = none) := ⟨by rw [← HSK.out, if_neg (fun hh => hkl hh.2)]⟩
              clear hch hkl
              refine region_tail 15 (by kernel_rfl) (by kernel_rfl) ?_
              intro G HS HE
              simp only [List.take_succ_cons, List.take_zero, List.drop_succ_cons, List.drop_zero]
              repeat (refine HS.out _ _ _ (fun K hK => ?_); go_simp; refine hK _ ?_; clear hK K)
              refine HE.out _ ?_
              clear HS HE G
              go_wp2_with (first | (go_at_call 53; refine (line_must.gives _).mono ?_; rintro e' w2 ⟨rfl, rfl⟩))
              exact ⟨rfl, .inr ⟨HN.out, rfl, HK.out.trans (HKX.out.drawn (Drawn0.step (Drawn0.refl _) _))⟩⟩
          · have q1 : (y == ch) = false := beq_eq_false_iff_ne.mpr hch
            have HN : Aside0 (lineSkip l (bytesOf S) k = none) := ⟨by rw [← HSK.out, HUP.out, if_neg (fun hh => hch hh.1)]⟩
            clear hch
            refine region_tail 15 (by kernel_rfl) (by kernel_rfl) ?_
            intro G HS HE
            simp only [List.take_succ_cons, List.take_zero, List.drop_succ_cons, List.drop_zero]
            repeat (refine HS.out _ _ _ (fun K hK => ?_); go_simp; refine hK _ ?_; clear hK K)
            refine HE.out _ ?_
            clear HS HE G
            go_wp2_with (first | (go_at_call 53; refine (line_must.gives _).mono ?_; rintro e' w2 ⟨rfl, rfl⟩))
            exact ⟨rfl, .inr ⟨HN.out, rfl, HK.out.trans (HKX.out.drawn (Drawn0.step (Drawn0.refl _) _))⟩⟩
        · have p2 : decide (x ≤ 122) = false := decide_eq_false hx2
          have HUP : Aside0 (lineUp x = x) := ⟨by unfold lineUp; rw [if_neg (fun hh => hx2 hh.2)]⟩
          go_upto_region 6 with (first | (go_at_call 67; refine HAT.out.mono ?_; rintro e' w1 ⟨rfl, hd⟩; clear h0 h1 hf1 HAT HRW; have HPX : Aside0 (w1.heap[p]? = some (.cells #[.slice A l.length c, .int .i64 ki] 69 (0, 0))) := ⟨by obtain ⟨nd, rfl⟩ := hd; exact HPW.out⟩; have HKX := Aside0.mk (HKW.out.drawn hd); have h0 : w1.cell? ⟨p, 0, none⟩ = some (.slice A l.length c) := (blk_cell HPX.out 0).trans rfl; have h1 : w1.cell? ⟨p, 1, none⟩ = some (.int .i64 ki) := (blk_cell HPX.out 1).trans rfl; have hf1 : w1.frozen? ⟨p, 1, none⟩ = false := blk_frozen HPX.out 1; clear hd hx HPW HKW))
          obtain ⟨y, hy⟩ : ∃ y, y = x := ⟨_, rfl⟩
          rw [show lineUp x = lineUp x from rfl] at HUP
          clear hy y
          clear p1 kb p2
          have HSK2 := Aside0.mk (HUP.out ▸ HSK.out)
          by_cases hch : x = ch
          · by_cases hkl : ki < l.length
            · have q1 : (x == ch) = true := beq_iff_eq.mpr hch
              have q2 : decide ((ki : Int) < (l.length : Int)) = true := decide_eq_true (by omega)
              have q2' : decide (ki < l.length) = true := decide_eq_true hkl
              have HN : Aside0 (lineSkip l ((bytesOf S).drop (i + 1)) (ki + 1) = lineSkip l (bytesOf S) k) := ⟨by rw [← HSK.out, HUP.out, if_pos ⟨hch, hkl⟩]⟩
              have q3 : wrap64 ((ki : Int) + 1) = ((ki + 1 : Nat) : Int) := by have := HL.out; unfold wrap64; omega
              clear hch
              refine region_tail 15 (by kernel_rfl) (by kernel_rfl) ?_
              intro G HS HE
              simp only [List.take_succ_cons, List.take_zero, List.drop_succ_cons, List.drop_zero]
              repeat (refine HS.out _ _ _ (fun K hK => ?_); go_simp; refine hK _ ?_; clear hK K)
              refine HE.out _ ?_
              clear HS HE G
              go_wp2_with (first | (go_at_call 53; refine (line_must.pass _).mono ?_; rintro e' w2 ⟨rfl, rfl⟩))
              go_roundg k1
              case measure => omega
              case rel => exact ⟨i + 1, ki + 1, congrArg (Value.int .i64) (by have := HSS.out; unfold wrap64; omega), ⟨by have := HJ.out; omega⟩, HN, ⟨by rw [show ((ki + 1 : Nat) : Int) = (ki : Int) + 1 from by omega]; exact blk_put (cs' := #[.slice A l.length c, .int .i64 ((ki : Int) + 1)]) HPX.out 1 _ rfl⟩, ⟨(HKX.out.set 1 _).drawn (Drawn0.step (Drawn0.refl _) _)⟩⟩
            · have q1 : (x == ch) = true := beq_iff_eq.mpr hch
              have q2 : decide ((ki : Int) < (l.length : Int)) = false := decide_eq_false (by omega)
              have q2' : decide (ki < l.length) = false := decide_eq_false hkl
              have HN : Aside0 (lineSkip l (bytesOf S) k = none) := ⟨by rw [← HSK.out, if_neg (fun hh => hkl hh.2)]⟩
              clear hch hkl
              refine region_tail 15 (by kernel_rfl) (by kernel_rfl) ?_
              intro G HS HE
              simp only [List.take_succ_cons, List.take_zero, List.drop_succ_cons, List.drop_zero]
              repeat (refine HS.out _ _ _ (fun K hK => ?_); go_simp; refine hK _ ?_; clear hK K)
              refine HE.out _ ?_
              clear HS HE G
              go_wp2_with (first | (go_at_call 53; refine (line_must.gives _).mono ?_; rintro e' w2 ⟨rfl, rfl⟩))
              exact ⟨rfl, .inr ⟨HN.out, rfl, HK.out.trans (HKX.out.drawn (Drawn0.step (Drawn0.refl _) _))⟩⟩
          · have q1 : (x == ch) = false := beq_eq_false_iff_ne.mpr hch
            have HN : Aside0 (lineSkip l (bytesOf S) k = none) := ⟨by rw [← HSK.out, HUP.out, if_neg (fun hh => hch hh.1)]⟩
            clear hch
            refine region_tail 15 (by kernel_rfl) (by kernel_rfl) ?_
            intro G HS HE
            simp only [List.take_succ_cons, List.take_zero, List.drop_succ_cons, List.drop_zero]
            repeat (refine HS.out _ _ _ (fun K hK => ?_); go_simp; refine hK _ ?_; clear hK K)
            refine HE.out _ ?_
            clear HS HE G
            go_wp2_with (first | (go_at_call 53; refine (line_must.gives _).mono ?_; rintro e' w2 ⟨rfl, rfl⟩))
            exact ⟨rfl, .inr ⟨HN.out, rfl, HK.out.trans (HKX.out.drawn (Drawn0.step (Drawn0.refl _) _))⟩⟩
      · have p1 : decide (x ≥ 97) = false := decide_eq_false hx1
        have p2 : True := trivial
        have HUP : Aside0 (lineUp x = x) := ⟨by unfold lineUp; rw [if_neg (fun hh => hx1 hh.1)]⟩
        go_upto_region 6 with (first | (go_at_call 67; refine HAT.out.mono ?_; rintro e' w1 ⟨rfl, hd⟩; clear h0 h1 hf1 HAT HRW; have HPX : Aside0 (w1.heap[p]? = some (.cells #[.slice A l.length c, .int .i64 ki] 69 (0, 0))) := ⟨by obtain ⟨nd, rfl⟩ := hd; exact HPW.out⟩; have HKX := Aside0.mk (HKW.out.drawn hd); have h0 : w1.cell? ⟨p, 0, none⟩ = some (.slice A l.length c) := (blk_cell HPX.out 0).trans rfl; have h1 : w1.cell? ⟨p, 1, none⟩ = some (.int .i64 ki) := (blk_cell HPX.out 1).trans rfl; have hf1 : w1.frozen? ⟨p, 1, none⟩ = false := blk_frozen HPX.out 1; clear hd hx HPW HKW))
        obtain ⟨y, hy⟩ : ∃ y, y = x := ⟨_, rfl⟩
        rw [show lineUp x = lineUp x from rfl] at HUP
        clear hy y
        clear p1 kb p2
        have HSK2 := Aside0.mk (HUP.out ▸ HSK.out)
        by_cases hch : x = ch
        · by_cases hkl : ki < l.length
          · have q1 : (x == ch) = true := beq_iff_eq.mpr hch
            have q2 : decide ((ki : Int) < (l.length : Int)) = true := decide_eq_true (by omega)
            have q2' : decide (ki < l.length) = true := decide_eq_true hkl
            have HN : Aside0 (lineSkip l ((bytesOf S).drop (i + 1)) (ki + 1) = lineSkip l (bytesOf S) k) := ⟨by rw [← HSK.out, HUP.out, if_pos ⟨hch, hkl⟩]⟩
            have q3 : wrap64 ((ki : Int) + 1) = ((ki + 1 : Nat) : Int) := by have := HL.out; unfold wrap64; omega
            clear hch
            refine region_tail 15 (by kernel_rfl) (by kernel_rfl) ?_
            intro G HS HE
            simp only [List.take_succ_cons, List.take_zero, List.drop_succ_cons, List.drop_zero]
            repeat (refine HS.out _ _ _ (fun K hK => ?_); go_simp; refine hK _ ?_; clear hK K)
            refine HE.out _ ?_
            clear HS HE G
            go_wp2_with (first | (go_at_call 53; refine (line_must.pass _).mono ?_; rintro e' w2 ⟨rfl, rfl⟩))
            go_roundg k1
            case measure => omega
            case rel => exact ⟨i + 1, ki + 1, congrArg (Value.int .i64) (by have := HSS.out; unfold wrap64; omega), ⟨by have := HJ.out; omega⟩, HN, ⟨by rw [show ((ki + 1 : Nat) : Int) = (ki : Int) + 1 from by omega]; exact blk_put (cs' := #[.slice A l.length c, .int .i64 ((ki : Int) + 1)]) HPX.out 1 _ rfl⟩, ⟨(HKX.out.set 1 _).drawn (Drawn0.step (Drawn0.refl _) _)⟩⟩
          · have q1 : (x == ch) = true := beq_iff_eq.mpr hch
            have q2 : decide ((ki : Int) < (l.length : Int)) = false := decide_eq_false (by omega)
            have q2' : decide (ki < l.length) = false := decide_eq_false hkl
            have HN : Aside0 (lineSkip l (bytesOf S) k = none) := ⟨by rw [← HSK.out, if_neg (fun hh => hkl hh.2)]⟩
            clear hch hkl
            refine region_tail 15 (by kernel_rfl) (by kernel_rfl) ?_
            intro G HS HE
            simp only [List.take_succ_cons, List.take_zero, List.drop_succ_cons, List.drop_zero]
            repeat (refine HS.out _ _ _ (fun K hK => ?_); go_simp; refine hK _ ?_; clear hK K)
            refine HE.out _ ?_
            clear HS HE G
            go_wp2_with (first | (go_at_call 53; refine (line_must.gives _).mono ?_; rintro e' w2 ⟨rfl, rfl⟩))
            exact ⟨rfl, .inr ⟨HN.out, rfl, HK.out.trans (HKX.out.drawn (Drawn0.step (Drawn0.refl _) _))⟩⟩
        · have q1 : (x == ch) = false := beq_eq_false_iff_ne.mpr hch
          have HN : Aside0 (lineSkip l (bytesOf S) k = none) := ⟨by rw [← HSK.out, HUP.out, if_neg (fun hh => hch hh.1)]⟩
          clear hch
          refine region_tail 15 (by kernel_rfl) (by kernel_rfl) ?_
          intro G HS HE
          simp only [List.take_succ_cons, List.take_zero, List.drop_succ_cons, List.drop_zero]
          repeat (refine HS.out _ _ _ (fun K hK => ?_); go_simp; refine hK _ ?_; clear hK K)
          refine HE.out _ ?_
          clear HS HE G
          go_wp2_with (first | (go_at_call 53; refine (line_must.gives _).mono ?_; rintro e' w2 ⟨rfl, rfl⟩))
          exact ⟨rfl, .inr ⟨HN.out, rfl, HK.out.trans (HKX.out.drawn (Drawn0.step (Drawn0.refl _) _))⟩⟩
    · have c2b1 : decide ((i : Int) < (S.size : Int)) = false := decide_eq_false (by omega)
      have c2b0 : decide (i < S.size) = false := decide_eq_false c2
      have HE : Aside0 (lineSkip l (bytesOf S) k = some ki) := ⟨by rw [← HF.out, List.drop_eq_nil_of_le (by have := HLN.out; omega)]; rfl⟩
      go_wp2
      go_end0
      exact .inl ⟨ki, HE.out, rfl, HPW.out, HK.out.trans HKW.out⟩
theorem lineOpen_step (l : List Int) (k : Nat) (h : k < l.length) : lineOpen (l.drop k) k = if lineAt l k = 40 then some (k + 1) else lineOpen (l.drop (k + 1)) (k + 1) := by
  rw [List.drop_eq_getElem_cons h]
  have e : lineAt l k = l[k] := by simp [lineAt, h]
  rw [e]
  rfl
set_option maxHeartbeats 8000000 in
set_option maxRecDepth 100000 in
theorem line_open.calls (p : Nat) (A : Option Addr) (c : Nat) (l : List Int) (k : Nat) (w0 w : World) (h : w.heap[p]? = some (.cells #[.slice A l.length c, .int .i64 k] 69 (0, 0))) (hr : Kd.C (Kd.int .u8) w0 A l.length l)
    (hb : Below w0.heap.size w0 w) (hg : w0.heap.size ≤ p) (hk : k ≤ l.length) :
    Calls Tryd.prog 52 #[.pointer (some ⟨p, 0, none⟩)] w fun e w' => (∃ k', lineOpen (l.drop k) k = some k' ∧ k' ≤ l.length ∧ e = .returned (.tuple #[]) ∧ w'.heap[p]? = some (.cells #[.slice A l.length c, .int .i64 k'] 69 (0, 0)) ∧ KeptP p w w') ∨ (lineOpen (l.drop k) k = none ∧ e = .panicked oddP ∧ KeptP p w w') := by
  have HR := Aside0.mk hr
  have HB := Aside0.mk hb
  have HG := Aside0.mk hg
  have HL := Aside0.mk hr.2.1
  have HP := Aside0.mk h
  clear hr hb hg h
  go_enter Tryd.func52, Tryd.ntmps52
  go_wp2_with (fail)
  go_loopg [2] (l.length + 1 - k) (fun kq v2 w' => ∃ (ki : Nat), Aside0 (ki + kq = l.length + 1 ∧ ki ≤ l.length) ∧ Aside0 (lineOpen (l.drop ki) ki = lineOpen (l.drop k) k) ∧ Aside0 (w'.heap[p]? = some (.cells #[.slice A l.length c, .int .i64 ki] 69 (0, 0))) ∧ Aside0 (KeptP p w w'))
  case atStart => exact ⟨k, ⟨by omega, hk⟩, ⟨rfl⟩, HP, ⟨KeptP.refl _ _⟩⟩
  case round =>
    obtain ⟨ki, HJ, HF, HPW, HKW⟩ := hrel
    have h0 : wr.cell? ⟨p, 0, none⟩ = some (.slice A l.length c) := (blk_cell HPW.out 0).trans rfl
    have h1 : wr.cell? ⟨p, 1, none⟩ = some (.int .i64 ki) := (blk_cell HPW.out 1).trans rfl
    have hf1 : wr.frozen? ⟨p, 1, none⟩ = false := blk_frozen HPW.out 1
    obtain ⟨x, hx⟩ : ∃ x, x = lineAt l ki := ⟨_, rfl⟩
    have HXX : Aside0 (lineAt l ki = x) := ⟨hx.symm⟩
    obtain ⟨wo, rfl⟩ : ∃ wo : World, wo = wr := ⟨_, rfl⟩
    obtain ⟨k1, rfl⟩ : ∃ k1, gk = k1 + 1 := ⟨gk - 1, by have := HJ.out; omega⟩
    have HX := Aside0.mk hx
    clear hx
    by_cases hx4 : x = 40
    · have q1 : (x != 40) = false := by simp [hx4]
      have HKL : Aside0 (ki < l.length) := ⟨by
        rcases Nat.lt_or_ge ki l.length with hh | hh
        · exact hh
        · exfalso
          have h3 := HX.out
          rw [hx4] at h3
          unfold lineAt at h3
          rw [List.getD_eq_getElem?_getD, List.getElem?_eq_none hh] at h3
          cases h3⟩
      have HN : Aside0 (lineOpen (l.drop k) k = some (ki + 1)) := ⟨by rw [← HF.out, lineOpen_step l ki HKL.out, if_pos (by rw [HXX.out]; exact hx4)]⟩
      have q3 : wrap64 ((ki : Int) + 1) = ((ki + 1 : Nat) : Int) := by have := HL.out; have := HKL.out; unfold wrap64; omega
      clear hx4
      go_wp2_with (first | (go_at_call 67; refine (line_next.calls p A c l ki _ HPW.out (Kd.C_below HR.out (HKW.out.below HB.out HG.out))).mono ?_; rintro e' w1 ⟨he, hd⟩; rw [HXX.out] at he; subst he; clear h0 h1 hf1; have n1 : Aside0 (w1.heap[p]? = some (.cells #[.slice A l.length c, .int .i64 ki] 69 (0, 0))) := ⟨by obtain ⟨nd, rfl⟩ := hd; exact HPW.out⟩; have n2 := Aside0.mk (HKW.out.drawn hd); clear HPW HKW; have HPW := n1; have HKW := n2; clear n1 n2 hd; have h0 : w1.cell? ⟨p, 0, none⟩ = some (.slice A l.length c) := (blk_cell HPW.out 0).trans rfl; have h1 : w1.cell? ⟨p, 1, none⟩ = some (.int .i64 ki) := (blk_cell HPW.out 1).trans rfl; have hf1 : w1.frozen? ⟨p, 1, none⟩ = false := blk_frozen HPW.out 1))
      go_end0
      exact .inl ⟨ki + 1, HN.out, HKL.out, rfl, by rw [show ((ki + 1 : Nat) : Int) = (ki : Int) + 1 from by omega]; exact blk_put (cs' := #[.slice A l.length c, .int .i64 ((ki : Int) + 1)]) HPW.out 1 _ rfl, HKW.out.set 1 _⟩
    · have q1 : (x != 40) = true := by simp [hx4]
      by_cases hkl : ki < l.length
      · have HN : Aside0 (lineOpen (l.drop (ki + 1)) (ki + 1) = lineOpen (l.drop k) k) := ⟨by rw [← HF.out, lineOpen_step l ki hkl, if_neg (by rw [HXX.out]; exact hx4)]⟩
        have q2 : decide ((ki : Int) < (l.length : Int)) = true := decide_eq_true (by omega)
        have q2' : decide (ki < l.length) = true := decide_eq_true hkl
        have q3 : wrap64 ((ki : Int) + 1) = ((ki + 1 : Nat) : Int) := by have := HL.out; unfold wrap64; omega
        have HKL := Aside0.mk hkl
        clear hx4
        go_upto_region 1 with (first | (go_at_call 67; refine (line_next.calls p A c l ki _ HPW.out (Kd.C_below HR.out (HKW.out.below HB.out HG.out))).mono ?_; rintro e' w1 ⟨he, hd⟩; rw [HXX.out] at he; subst he; clear h0 h1 hf1; have n1 : Aside0 (w1.heap[p]? = some (.cells #[.slice A l.length c, .int .i64 ki] 69 (0, 0))) := ⟨by obtain ⟨nd, rfl⟩ := hd; exact HPW.out⟩; have n2 := Aside0.mk (HKW.out.drawn hd); clear HPW HKW; have HPW := n1; have HKW := n2; clear n1 n2 hd; have h0 : w1.cell? ⟨p, 0, none⟩ = some (.slice A l.length c) := (blk_cell HPW.out 0).trans rfl; have h1 : w1.cell? ⟨p, 1, none⟩ = some (.int .i64 ki) := (blk_cell HPW.out 1).trans rfl; have hf1 : w1.frozen? ⟨p, 1, none⟩ = false := blk_frozen HPW.out 1))
        refine region_tail 10 (by kernel_rfl) (by kernel_rfl) ?_
        intro G HS HE
        simp only [List.take_succ_cons, List.take_zero, List.drop_succ_cons, List.drop_zero]
        repeat (refine HS.out _ _ _ (fun K hK => ?_); go_simp; refine hK _ ?_; clear hK K)
        refine HE.out _ ?_
        clear HS HE G
        go_wp2_with (first | (go_at_call 53; refine (line_must.pass _).mono ?_; rintro e' w2 ⟨rfl, rfl⟩))
        go_roundg k1
        case measure => omega
        case rel => exact ⟨ki + 1, ⟨by have := HJ.out; omega, HKL.out⟩, HN, ⟨by rw [show ((ki + 1 : Nat) : Int) = (ki : Int) + 1 from by omega]; exact blk_put (cs' := #[.slice A l.length c, .int .i64 ((ki : Int) + 1)]) HPW.out 1 _ rfl⟩, ⟨(HKW.out.drawn (Drawn0.step (Drawn0.refl _) _)).set 1 _⟩⟩
      · have HN : Aside0 (lineOpen (l.drop k) k = none) := ⟨by rw [← HF.out, List.drop_eq_nil_of_le (by omega)]; rfl⟩
        have q2 : decide ((ki : Int) < (l.length : Int)) = false := decide_eq_false (by omega)
        have q2' : decide (ki < l.length) = false := decide_eq_false hkl
        clear hx4 hkl
        go_upto_region 1 with (first | (go_at_call 67; refine (line_next.calls p A c l ki _ HPW.out (Kd.C_below HR.out (HKW.out.below HB.out HG.out))).mono ?_; rintro e' w1 ⟨he, hd⟩; rw [HXX.out] at he; subst he; clear h0 h1 hf1; have n1 : Aside0 (w1.heap[p]? = some (.cells #[.slice A l.length c, .int .i64 ki] 69 (0, 0))) := ⟨by obtain ⟨nd, rfl⟩ := hd; exact HPW.out⟩; have n2 := Aside0.mk (HKW.out.drawn hd); clear HPW HKW; have HPW := n1; have HKW := n2; clear n1 n2 hd; have h0 : w1.cell? ⟨p, 0, none⟩ = some (.slice A l.length c) := (blk_cell HPW.out 0).trans rfl; have h1 : w1.cell? ⟨p, 1, none⟩ = some (.int .i64 ki) := (blk_cell HPW.out 1).trans rfl; have hf1 : w1.frozen? ⟨p, 1, none⟩ = false := blk_frozen HPW.out 1))
        refine region_tail 10 (by kernel_rfl) (by kernel_rfl) ?_
        intro G HS HE
        simp only [List.take_succ_cons, List.take_zero, List.drop_succ_cons, List.drop_zero]
        repeat (refine HS.out _ _ _ (fun K hK => ?_); go_simp; refine hK _ ?_; clear hK K)
        refine HE.out _ ?_
        clear HS HE G
        go_wp2_with (first | (go_at_call 53; refine (line_must.gives _).mono ?_; rintro e' w2 ⟨rfl, rfl⟩))
        exact ⟨rfl, .inr ⟨HN.out, rfl, HKW.out.drawn (Drawn0.step (Drawn0.refl _) _)⟩⟩
theorem lineAt_out (l : List Int) (k : Nat) (h : l.length ≤ k) : lineAt l k = 0 := by
  unfold lineAt
  rw [List.getD_eq_getElem?_getD, List.getElem?_eq_none h]
  rfl
theorem lineNum_step (d : Nat) (l : List Int) (k i : Nat) (n : Int) : lineNum d (l.drop k) i n = if lineDig (lineAt l k) = true then (if i < d then lineNum d (l.drop (k + 1)) (i + 1) (10 * n + (lineAt l k - 48)) else none) else some (n, i) := by
  rcases Nat.lt_or_ge k l.length with h | h
  · rw [List.drop_eq_getElem_cons h]
    have e : lineAt l k = l[k] := by simp [lineAt, h]
    rw [e]
    rfl
  · rw [List.drop_eq_nil_of_le h, lineAt_out l k h]
    rfl
set_option maxHeartbeats 8000000 in
set_option maxRecDepth 100000 in
theorem line_number.calls (p : Nat) (A : Option Addr) (c : Nat) (l : List Int) (d : Nat) (most : Int) (k : Nat) (w0 w : World) (h : w.heap[p]? = some (.cells #[.slice A l.length c, .int .i64 k] 69 (0, 0))) (hr : Kd.C (Kd.int .u8) w0 A l.length l)
    (hb : Below w0.heap.size w0 w) (hg : w0.heap.size ≤ p) (hk : k ≤ l.length) (hd5 : d ≤ 5) :
    Calls Tryd.prog 51 #[.pointer (some ⟨p, 0, none⟩), .int .i64 d, .int .i64 most] w fun e w' => (∃ n k', lineNumber l k d most = some (n, k') ∧ k' ≤ l.length ∧ 0 ≤ n ∧ e = .returned (.int .i64 n) ∧ w'.heap[p]? = some (.cells #[.slice A l.length c, .int .i64 k'] 69 (0, 0)) ∧ KeptP p w w') ∨ (lineNumber l k d most = none ∧ e = .panicked oddP ∧ KeptP p w w') := by
  have HR := Aside0.mk hr
  have HB := Aside0.mk hb
  have HG := Aside0.mk hg
  have HL := Aside0.mk hr.2.1
  have HP := Aside0.mk h
  have HK := Aside0.mk hk
  have HD := Aside0.mk hd5
  have h0 : w.cell? ⟨p, 0, none⟩ = some (.slice A l.length c) := (blk_cell h 0).trans rfl
  have h1 : w.cell? ⟨p, 1, none⟩ = some (.int .i64 k) := (blk_cell h 1).trans rfl
  clear hr hb hg h hd5 hk
  go_enter Tryd.func51, Tryd.ntmps51
  go_wp2
  go_quiet (fail)
  go_wp2_with (fail)
  clear h0 h1
  go_loopg [7] (d + 1) (fun kq v7 w' => ∃ (i : Nat) (n : Int), v7 = .int .i64 n ∧ Aside0 (i + kq = d + 1 ∧ i ≤ d ∧ k + i ≤ l.length ∧ 0 ≤ n ∧ n < (10 ^ i : Nat)) ∧ Aside0 (lineNum d (l.drop (k + i)) i n = lineNum d (l.drop k) 0 0) ∧ Aside0 (w'.heap[p]? = some (.cells #[.slice A l.length c, .int .i64 ((k + i : Nat) : Int)] 69 (0, 0))) ∧ Aside0 (KeptP p w w'))
  case atStart => exact ⟨0, 0, rfl, ⟨by have := HK.out; simp; omega⟩, ⟨rfl⟩, ⟨HP.out⟩, ⟨(KeptP.refl _ _).drawn (Drawn0.step (Drawn0.refl _) _)⟩⟩
  case round =>
    obtain ⟨i, n, rfl, HJ, HF, HPW, HKW⟩ := hrel
    obtain ⟨ki, hki⟩ : ∃ ki, ki = k + i := ⟨_, rfl⟩
    rw [← hki] at HF HPW
    have HKI := Aside0.mk hki
    have h0 : wr.cell? ⟨p, 0, none⟩ = some (.slice A l.length c) := (blk_cell HPW.out 0).trans rfl
    have h1 : wr.cell? ⟨p, 1, none⟩ = some (.int .i64 ki) := (blk_cell HPW.out 1).trans rfl
    have hf1 : wr.frozen? ⟨p, 1, none⟩ = false := blk_frozen HPW.out 1
    obtain ⟨x, hx⟩ : ∃ x, x = lineAt l ki := ⟨_, rfl⟩
    have HXX : Aside0 (lineAt l ki = x) := ⟨hx.symm⟩
    obtain ⟨wo, rfl⟩ : ∃ wo : World, wo = wr := ⟨_, rfl⟩
    have HS : Aside0 ((if lineDig x = true then (if i < d then lineNum d (l.drop (ki + 1)) (i + 1) (10 * n + (x - 48)) else none) else some (n, i)) = lineNum d (l.drop k) 0 0) := ⟨by have e := lineNum_step d l ki i n; rw [HXX.out] at e; rw [← HF.out]; exact e.symm⟩
    have q5 : wrap64 ((ki : Int) - (k : Int)) = (i : Int) := by have := HJ.out; have := HL.out; have := HKI.out; unfold wrap64; omega
    clear hx hki
    by_cases hdg : lineDig x = true
    · have hdg2 : 48 ≤ x ∧ x ≤ 57 := of_decide_eq_true hdg
      have q1 : decide (x ≥ 48) = true := decide_eq_true hdg2.1
      have q2 : decide (x ≤ 57) = true := decide_eq_true hdg2.2
      have HDG := Aside0.mk hdg2
      obtain ⟨k1, rfl⟩ : ∃ k1, gk = k1 + 1 := ⟨gk - 1, by have := HJ.out; omega⟩
      by_cases hid : i < d
      · have q4 : decide ((i : Int) < (d : Int)) = true := decide_eq_true (by omega)
        have q4' : decide (i < d) = true := decide_eq_true hid
        have HKL : Aside0 (ki < l.length) := ⟨by
          rcases Nat.lt_or_ge ki l.length with hh | hh
          · exact hh
          · exfalso
            have h3 := HXX.out
            rw [lineAt_out l ki hh] at h3
            omega⟩
        have HTEN : Aside0 (n < 100000 ∧ (10 * n + (x - 48)) < ((10 ^ (i + 1) : Nat) : Int)) := ⟨by
          have e1 := HJ.out.2.2.2.2
          have e2 : 10 ^ i ≤ 10 ^ 5 := Nat.pow_le_pow_right (by omega) (by have := HD.out; omega)
          have e3 : 10 ^ (i + 1) = 10 ^ i * 10 := Nat.pow_succ 10 i
          constructor
          · omega
          · rw [e3]; push_cast; push_cast at e1; omega⟩
        obtain ⟨y, hy⟩ : ∃ y, y = x - 48 := ⟨_, rfl⟩
        obtain ⟨m, hm⟩ : ∃ m, m = 10 * n := ⟨_, rfl⟩
        obtain ⟨n2, hn2⟩ : ∃ n2, n2 = m + y := ⟨_, rfl⟩
        have q6 : (x - 48) % 256 = y := by omega
        have q7 : wrap64 (10 * n) = m := by have := HTEN.out; have := HJ.out; unfold wrap64; omega
        have q8 : wrap64 (m + y) = n2 := by have := HTEN.out; have := HJ.out; unfold wrap64; omega
        have q9 : wrap64 y = y := by unfold wrap64; omega
        have q3 : wrap64 ((ki : Int) + 1) = ((ki + 1 : Nat) : Int) := by have := HL.out; have := HKL.out; unfold wrap64; omega
        have HN : Aside0 (lineNum d (l.drop (ki + 1)) (i + 1) n2 = lineNum d (l.drop k) 0 0) := ⟨by rw [← HS.out, if_pos hdg, if_pos hid, hn2, hm, hy]⟩
        have HNB : Aside0 (0 ≤ n2 ∧ n2 < ((10 ^ (i + 1) : Nat) : Int)) := ⟨by have := HTEN.out; have := HJ.out; subst hn2 hm hy; exact ⟨by omega, HTEN.out.2⟩⟩
        have HI := Aside0.mk hid
        clear hdg hdg2 hy hm hn2 hid
        go_wp2_with (first | (go_at_call 67; refine (line_next.calls p A c l ki _ HPW.out (Kd.C_below HR.out (HKW.out.below HB.out HG.out))).mono ?_; rintro e' w1 ⟨he, hd⟩; rw [HXX.out] at he; subst he; clear h0 h1 hf1; have n1 : Aside0 (w1.heap[p]? = some (.cells #[.slice A l.length c, .int .i64 ki] 69 (0, 0))) := ⟨by obtain ⟨nd, rfl⟩ := hd; exact HPW.out⟩; have n2 := Aside0.mk (HKW.out.drawn hd); clear HPW HKW; have HPW := n1; have HKW := n2; clear n1 n2 hd; have h0 : w1.cell? ⟨p, 0, none⟩ = some (.slice A l.length c) := (blk_cell HPW.out 0).trans rfl; have h1 : w1.cell? ⟨p, 1, none⟩ = some (.int .i64 ki) := (blk_cell HPW.out 1).trans rfl; have hf1 : w1.frozen? ⟨p, 1, none⟩ = false := blk_frozen HPW.out 1) | (go_at_call 53; refine (line_must.pass _).mono ?_; rintro e' w2 ⟨rfl, rfl⟩))
        go_roundg k1
        case measure => omega
        case rel => exact ⟨i + 1, n2, congrArg (Value.int .i64) q8, ⟨by have := HJ.out; have := HI.out; have := HKL.out; have := HKI.out; exact ⟨by omega, by omega, by omega, HNB.out.1, HNB.out.2⟩⟩, ⟨by rw [show k + (i + 1) = ki + 1 from by have := HKI.out; omega]; exact HN.out⟩, ⟨by rw [show ((k + (i + 1) : Nat) : Int) = (ki : Int) + 1 from by have := HKI.out; omega]; exact blk_put (cs' := #[.slice A l.length c, .int .i64 ((ki : Int) + 1)]) HPW.out 1 _ rfl⟩, ⟨HKW.out.set 1 _⟩⟩
      · have q4 : decide ((i : Int) < (d : Int)) = false := decide_eq_false (by omega)
        have q4' : decide (i < d) = false := decide_eq_false hid
        have HN : Aside0 (lineNumber l k d most = none) := ⟨by unfold lineNumber; rw [← HS.out, if_pos hdg, if_neg hid]⟩
        clear hdg hdg2 hid
        go_wp2_with (first | (go_at_call 67; refine (line_next.calls p A c l ki _ HPW.out (Kd.C_below HR.out (HKW.out.below HB.out HG.out))).mono ?_; rintro e' w1 ⟨he, hd⟩; rw [HXX.out] at he; subst he; clear h0 h1 hf1; have n1 : Aside0 (w1.heap[p]? = some (.cells #[.slice A l.length c, .int .i64 ki] 69 (0, 0))) := ⟨by obtain ⟨nd, rfl⟩ := hd; exact HPW.out⟩; have n2 := Aside0.mk (HKW.out.drawn hd); clear HPW HKW; have HPW := n1; have HKW := n2; clear n1 n2 hd; have h0 : w1.cell? ⟨p, 0, none⟩ = some (.slice A l.length c) := (blk_cell HPW.out 0).trans rfl; have h1 : w1.cell? ⟨p, 1, none⟩ = some (.int .i64 ki) := (blk_cell HPW.out 1).trans rfl; have hf1 : w1.frozen? ⟨p, 1, none⟩ = false := blk_frozen HPW.out 1) | (go_at_call 53; refine (line_must.gives _).mono ?_; rintro e' w2 ⟨rfl, rfl⟩))
        exact ⟨rfl, .inr ⟨HN.out, rfl, HKW.out⟩⟩
    · have hdg2 : ¬ (48 ≤ x ∧ x ≤ 57) := fun hh => hdg (decide_eq_true hh)
      have HE : Aside0 (lineNumber l k d most = if 0 < i ∧ n ≤ most then some (n, k + i) else none) := ⟨by unfold lineNumber; rw [← HS.out, if_neg hdg]⟩
      have HD2 := Aside0.mk hdg2
      clear hdg hdg2
      by_cases hi : 0 < i
      · have q4 : decide ((ki : Int) > (k : Int)) = true := decide_eq_true (by have := HKI.out; omega)
        have q4' : decide (k < ki) = true := decide_eq_true (by have := HKI.out; omega)
        by_cases hm : n ≤ most
        · have q6 : decide (n ≤ most) = true := decide_eq_true hm
          have HN : Aside0 (lineNumber l k d most = some (n, ki)) := ⟨by rw [HE.out, if_pos ⟨hi, hm⟩, HKI.out]⟩
          clear hi hm
          by_cases hx : 48 ≤ x
          · have q1 : decide (x ≥ 48) = true := decide_eq_true hx
            have q2 : decide (x ≤ 57) = false := decide_eq_false (fun hh => HD2.out ⟨hx, hh⟩)
            clear hx
            go_wp2_with (first | (go_at_call 67; refine (line_next.calls p A c l ki _ HPW.out (Kd.C_below HR.out (HKW.out.below HB.out HG.out))).mono ?_; rintro e' w1 ⟨he, hd⟩; rw [HXX.out] at he; subst he; clear h0 h1 hf1; have n1 : Aside0 (w1.heap[p]? = some (.cells #[.slice A l.length c, .int .i64 ki] 69 (0, 0))) := ⟨by obtain ⟨nd, rfl⟩ := hd; exact HPW.out⟩; have n2 := Aside0.mk (HKW.out.drawn hd); clear HPW HKW; have HPW := n1; have HKW := n2; clear n1 n2 hd; have h0 : w1.cell? ⟨p, 0, none⟩ = some (.slice A l.length c) := (blk_cell HPW.out 0).trans rfl; have h1 : w1.cell? ⟨p, 1, none⟩ = some (.int .i64 ki) := (blk_cell HPW.out 1).trans rfl; have hf1 : w1.frozen? ⟨p, 1, none⟩ = false := blk_frozen HPW.out 1) | (go_at_call 53; refine (line_must.pass _).mono ?_; rintro e' w2 ⟨rfl, rfl⟩))
            go_ret
            exact .inl ⟨n, ki, HN.out, by have := HJ.out; have := HKI.out; omega, HJ.out.2.2.2.1, rfl, HPW.out, HKW.out⟩
          · have q1 : decide (x ≥ 48) = false := decide_eq_false hx
            clear hx
            go_wp2_with (first | (go_at_call 67; refine (line_next.calls p A c l ki _ HPW.out (Kd.C_below HR.out (HKW.out.below HB.out HG.out))).mono ?_; rintro e' w1 ⟨he, hd⟩; rw [HXX.out] at he; subst he; clear h0 h1 hf1; have n1 : Aside0 (w1.heap[p]? = some (.cells #[.slice A l.length c, .int .i64 ki] 69 (0, 0))) := ⟨by obtain ⟨nd, rfl⟩ := hd; exact HPW.out⟩; have n2 := Aside0.mk (HKW.out.drawn hd); clear HPW HKW; have HPW := n1; have HKW := n2; clear n1 n2 hd; have h0 : w1.cell? ⟨p, 0, none⟩ = some (.slice A l.length c) := (blk_cell HPW.out 0).trans rfl; have h1 : w1.cell? ⟨p, 1, none⟩ = some (.int .i64 ki) := (blk_cell HPW.out 1).trans rfl; have hf1 : w1.frozen? ⟨p, 1, none⟩ = false := blk_frozen HPW.out 1) | (go_at_call 53; refine (line_must.pass _).mono ?_; rintro e' w2 ⟨rfl, rfl⟩))
            go_ret
            exact .inl ⟨n, ki, HN.out, by have := HJ.out; have := HKI.out; omega, HJ.out.2.2.2.1, rfl, HPW.out, HKW.out⟩
        · have q6 : decide (n ≤ most) = false := decide_eq_false hm
          have HN : Aside0 (lineNumber l k d most = none) := ⟨by rw [HE.out, if_neg (fun hh => hm hh.2)]⟩
          clear hi hm
          by_cases hx : 48 ≤ x
          · have q1 : decide (x ≥ 48) = true := decide_eq_true hx
            have q2 : decide (x ≤ 57) = false := decide_eq_false (fun hh => HD2.out ⟨hx, hh⟩)
            clear hx
            go_wp2_with (first | (go_at_call 67; refine (line_next.calls p A c l ki _ HPW.out (Kd.C_below HR.out (HKW.out.below HB.out HG.out))).mono ?_; rintro e' w1 ⟨he, hd⟩; rw [HXX.out] at he; subst he; clear h0 h1 hf1; have n1 : Aside0 (w1.heap[p]? = some (.cells #[.slice A l.length c, .int .i64 ki] 69 (0, 0))) := ⟨by obtain ⟨nd, rfl⟩ := hd; exact HPW.out⟩; have n2 := Aside0.mk (HKW.out.drawn hd); clear HPW HKW; have HPW := n1; have HKW := n2; clear n1 n2 hd; have h0 : w1.cell? ⟨p, 0, none⟩ = some (.slice A l.length c) := (blk_cell HPW.out 0).trans rfl; have h1 : w1.cell? ⟨p, 1, none⟩ = some (.int .i64 ki) := (blk_cell HPW.out 1).trans rfl; have hf1 : w1.frozen? ⟨p, 1, none⟩ = false := blk_frozen HPW.out 1) | (go_at_call 53; refine (line_must.gives _).mono ?_; rintro e' w2 ⟨rfl, rfl⟩))
            exact ⟨rfl, .inr ⟨HN.out, rfl, HKW.out⟩⟩
          · have q1 : decide (x ≥ 48) = false := decide_eq_false hx
            clear hx
            go_wp2_with (first | (go_at_call 67; refine (line_next.calls p A c l ki _ HPW.out (Kd.C_below HR.out (HKW.out.below HB.out HG.out))).mono ?_; rintro e' w1 ⟨he, hd⟩; rw [HXX.out] at he; subst he; clear h0 h1 hf1; have n1 : Aside0 (w1.heap[p]? = some (.cells #[.slice A l.length c, .int .i64 ki] 69 (0, 0))) := ⟨by obtain ⟨nd, rfl⟩ := hd; exact HPW.out⟩; have n2 := Aside0.mk (HKW.out.drawn hd); clear HPW HKW; have HPW := n1; have HKW := n2; clear n1 n2 hd; have h0 : w1.cell? ⟨p, 0, none⟩ = some (.slice A l.length c) := (blk_cell HPW.out 0).trans rfl; have h1 : w1.cell? ⟨p, 1, none⟩ = some (.int .i64 ki) := (blk_cell HPW.out 1).trans rfl; have hf1 : w1.frozen? ⟨p, 1, none⟩ = false := blk_frozen HPW.out 1) | (go_at_call 53; refine (line_must.gives _).mono ?_; rintro e' w2 ⟨rfl, rfl⟩))
            exact ⟨rfl, .inr ⟨HN.out, rfl, HKW.out⟩⟩
      · have q4 : decide ((ki : Int) > (k : Int)) = false := decide_eq_false (by have := HKI.out; omega)
        have q4' : decide (k < ki) = false := decide_eq_false (by have := HKI.out; omega)
        have HN : Aside0 (lineNumber l k d most = none) := ⟨by rw [HE.out, if_neg (fun hh => hi hh.1)]⟩
        clear hi
        by_cases hx : 48 ≤ x
        · have q1 : decide (x ≥ 48) = true := decide_eq_true hx
          have q2 : decide (x ≤ 57) = false := decide_eq_false (fun hh => HD2.out ⟨hx, hh⟩)
          clear hx
          go_wp2_with (first | (go_at_call 67; refine (line_next.calls p A c l ki _ HPW.out (Kd.C_below HR.out (HKW.out.below HB.out HG.out))).mono ?_; rintro e' w1 ⟨he, hd⟩; rw [HXX.out] at he; subst he; clear h0 h1 hf1; have n1 : Aside0 (w1.heap[p]? = some (.cells #[.slice A l.length c, .int .i64 ki] 69 (0, 0))) := ⟨by obtain ⟨nd, rfl⟩ := hd; exact HPW.out⟩; have n2 := Aside0.mk (HKW.out.drawn hd); clear HPW HKW; have HPW := n1; have HKW := n2; clear n1 n2 hd; have h0 : w1.cell? ⟨p, 0, none⟩ = some (.slice A l.length c) := (blk_cell HPW.out 0).trans rfl; have h1 : w1.cell? ⟨p, 1, none⟩ = some (.int .i64 ki) := (blk_cell HPW.out 1).trans rfl; have hf1 : w1.frozen? ⟨p, 1, none⟩ = false := blk_frozen HPW.out 1) | (go_at_call 53; refine (line_must.gives _).mono ?_; rintro e' w2 ⟨rfl, rfl⟩))
          exact ⟨rfl, .inr ⟨HN.out, rfl, HKW.out⟩⟩
        · have q1 : decide (x ≥ 48) = false := decide_eq_false hx
          clear hx
          go_wp2_with (first | (go_at_call 67; refine (line_next.calls p A c l ki _ HPW.out (Kd.C_below HR.out (HKW.out.below HB.out HG.out))).mono ?_; rintro e' w1 ⟨he, hd⟩; rw [HXX.out] at he; subst he; clear h0 h1 hf1; have n1 : Aside0 (w1.heap[p]? = some (.cells #[.slice A l.length c, .int .i64 ki] 69 (0, 0))) := ⟨by obtain ⟨nd, rfl⟩ := hd; exact HPW.out⟩; have n2 := Aside0.mk (HKW.out.drawn hd); clear HPW HKW; have HPW := n1; have HKW := n2; clear n1 n2 hd; have h0 : w1.cell? ⟨p, 0, none⟩ = some (.slice A l.length c) := (blk_cell HPW.out 0).trans rfl; have h1 : w1.cell? ⟨p, 1, none⟩ = some (.int .i64 ki) := (blk_cell HPW.out 1).trans rfl; have hf1 : w1.frozen? ⟨p, 1, none⟩ = false := blk_frozen HPW.out 1) | (go_at_call 53; refine (line_must.gives _).mono ?_; rintro e' w2 ⟨rfl, rfl⟩))
          exact ⟨rfl, .inr ⟨HN.out, rfl, HKW.out⟩⟩
theorem line_skip.ok (p : Nat) (A : Option Addr) (c : Nat) (l : List Int) (S : ByteArray) (k k' : Nat) (w0 w : World) (h : w.heap[p]? = some (.cells #[.slice A l.length c, .int .i64 k] 69 (0, 0))) (hr : Kd.C (Kd.int .u8) w0 A l.length l)
    (hb : Below w0.heap.size w0 w) (hg : w0.heap.size ≤ p) (hS : S.size ≤ 9223372036854775807) (hs : lineSkip l (bytesOf S) k = some k') :
    Calls Tryd.prog 47 #[.pointer (some ⟨p, 0, none⟩), .string S] w fun e w' => e = .returned (.tuple #[]) ∧ w'.heap[p]? = some (.cells #[.slice A l.length c, .int .i64 k'] 69 (0, 0)) ∧ KeptP p w w' :=
  (line_skip.calls p A c l S k w0 w h hr hb hg hS).mono (by
    rintro e w' (⟨k2, h1, h2, h3, h4⟩ | ⟨h1, h2, h3⟩)
    · rw [hs] at h1
      cases h1
      exact ⟨h2, h3, h4⟩
    · rw [hs] at h1
      cases h1)
theorem line_skip.no (p : Nat) (A : Option Addr) (c : Nat) (l : List Int) (S : ByteArray) (k : Nat) (w0 w : World) (h : w.heap[p]? = some (.cells #[.slice A l.length c, .int .i64 k] 69 (0, 0))) (hr : Kd.C (Kd.int .u8) w0 A l.length l)
    (hb : Below w0.heap.size w0 w) (hg : w0.heap.size ≤ p) (hS : S.size ≤ 9223372036854775807) (hs : lineSkip l (bytesOf S) k = none) :
    Calls Tryd.prog 47 #[.pointer (some ⟨p, 0, none⟩), .string S] w fun e w' => e = .panicked oddP ∧ KeptP p w w' :=
  (line_skip.calls p A c l S k w0 w h hr hb hg hS).mono (by
    rintro e w' (⟨k2, h1, h2, h3, h4⟩ | ⟨h1, h2, h3⟩)
    · rw [hs] at h1
      cases h1
    · exact ⟨h2, h3⟩)
theorem line_open.ok (p : Nat) (A : Option Addr) (c : Nat) (l : List Int) (k k' : Nat) (w0 w : World) (h : w.heap[p]? = some (.cells #[.slice A l.length c, .int .i64 k] 69 (0, 0))) (hr : Kd.C (Kd.int .u8) w0 A l.length l)
    (hb : Below w0.heap.size w0 w) (hg : w0.heap.size ≤ p) (hk : k ≤ l.length) (hs : lineOpen (l.drop k) k = some k') :
    Calls Tryd.prog 52 #[.pointer (some ⟨p, 0, none⟩)] w fun e w' => e = .returned (.tuple #[]) ∧ k' ≤ l.length ∧ w'.heap[p]? = some (.cells #[.slice A l.length c, .int .i64 k'] 69 (0, 0)) ∧ KeptP p w w' :=
  (line_open.calls p A c l k w0 w h hr hb hg hk).mono (by
    rintro e w' (⟨k2, h1, h2, h3, h4, h5⟩ | ⟨h1, h2, h3⟩)
    · rw [hs] at h1
      cases h1
      exact ⟨h3, h2, h4, h5⟩
    · rw [hs] at h1
      cases h1)
theorem line_open.no (p : Nat) (A : Option Addr) (c : Nat) (l : List Int) (k : Nat) (w0 w : World) (h : w.heap[p]? = some (.cells #[.slice A l.length c, .int .i64 k] 69 (0, 0))) (hr : Kd.C (Kd.int .u8) w0 A l.length l)
    (hb : Below w0.heap.size w0 w) (hg : w0.heap.size ≤ p) (hk : k ≤ l.length) (hs : lineOpen (l.drop k) k = none) :
    Calls Tryd.prog 52 #[.pointer (some ⟨p, 0, none⟩)] w fun e w' => e = .panicked oddP ∧ KeptP p w w' :=
  (line_open.calls p A c l k w0 w h hr hb hg hk).mono (by
    rintro e w' (⟨k2, h1, h2, h3, h4, h5⟩ | ⟨h1, h2, h3⟩)
    · rw [hs] at h1
      cases h1
    · exact ⟨h2, h3⟩)
theorem line_number.ok (p : Nat) (A : Option Addr) (c : Nat) (l : List Int) (d : Nat) (most n : Int) (k k' : Nat) (w0 w : World) (h : w.heap[p]? = some (.cells #[.slice A l.length c, .int .i64 k] 69 (0, 0))) (hr : Kd.C (Kd.int .u8) w0 A l.length l)
    (hb : Below w0.heap.size w0 w) (hg : w0.heap.size ≤ p) (hk : k ≤ l.length) (hd5 : d ≤ 5) (hs : lineNumber l k d most = some (n, k')) :
    Calls Tryd.prog 51 #[.pointer (some ⟨p, 0, none⟩), .int .i64 d, .int .i64 most] w fun e w' => e = .returned (.int .i64 n) ∧ k' ≤ l.length ∧ 0 ≤ n ∧ w'.heap[p]? = some (.cells #[.slice A l.length c, .int .i64 k'] 69 (0, 0)) ∧ KeptP p w w' :=
  (line_number.calls p A c l d most k w0 w h hr hb hg hk hd5).mono (by
    rintro e w' (⟨n2, k2, h1, h2, h3, h4, h5, h6⟩ | ⟨h1, h2, h3⟩)
    · rw [hs] at h1
      cases h1
      exact ⟨h4, h2, h3, h5, h6⟩
    · rw [hs] at h1
      cases h1)
theorem line_number.no (p : Nat) (A : Option Addr) (c : Nat) (l : List Int) (d : Nat) (most : Int) (k : Nat) (w0 w : World) (h : w.heap[p]? = some (.cells #[.slice A l.length c, .int .i64 k] 69 (0, 0))) (hr : Kd.C (Kd.int .u8) w0 A l.length l)
    (hb : Below w0.heap.size w0 w) (hg : w0.heap.size ≤ p) (hk : k ≤ l.length) (hd5 : d ≤ 5) (hs : lineNumber l k d most = none) :
    Calls Tryd.prog 51 #[.pointer (some ⟨p, 0, none⟩), .int .i64 d, .int .i64 most] w fun e w' => e = .panicked oddP ∧ KeptP p w w' :=
  (line_number.calls p A c l d most k w0 w h hr hb hg hk hd5).mono (by
    rintro e w' (⟨n2, k2, h1, h2, h3, h4, h5, h6⟩ | ⟨h1, h2, h3⟩)
    · rw [hs] at h1
      cases h1
    · exact ⟨h2, h3⟩)
theorem lineNumber_le {l : List Int} {k d k' : Nat} {most n : Int} (h : lineNumber l k d most = some (n, k')) : n ≤ most := by
  unfold lineNumber at h
  split at h
  · split at h
    · rename_i hh
      cases h
      exact hh.2
    · cases h
  · cases h
theorem lineBytes_step (l s : List Int) (n : Nat) (f : Bool) (x : Int) (k : Nat) : lineBytes l s (n + 1) f x k = match (if f = true then some k else lineSkip l s k) with
    | none => none
    | some k1 => match lineNumber l k1 3 255 with
      | none => none
      | some (v, k2) => lineBytes l s n false (x * 256 + v) k2 := rfl
theorem lineBytes_no (l s : List Int) (n : Nat) (f : Bool) (x : Int) (k k1 : Nat) (h : (if f = true then some k else lineSkip l s k) = some k1) (hn : lineNumber l k1 3 255 = none) : lineBytes l s (n + 1) f x k = none := by
  rw [lineBytes_step, h]
  simp only [hn]
theorem lineBytes_go (l s : List Int) (n : Nat) (f : Bool) (x v : Int) (k k1 k2 : Nat) (h : (if f = true then some k else lineSkip l s k) = some k1) (hn : lineNumber l k1 3 255 = some (v, k2)) : lineBytes l s (n + 1) f x k = lineBytes l s n false (x * 256 + v) k2 := by
  rw [lineBytes_step, h]
  simp only [hn]
theorem lineNumber_pos {l : List Int} {k d k' : Nat} {most n : Int} (h : lineNumber l k d most = some (n, k')) : 0 ≤ n := by
  have key : ∀ (xs : List Int) (i : Nat) (n0 : Int) (r : Int × Nat), 0 ≤ n0 → lineNum d xs i n0 = some r → 0 ≤ r.1 := by
    intro xs
    induction xs with
    | nil =>
      intro i n0 r h0 h
      unfold lineNum at h
      cases h
      exact h0
    | cons x xs ih =>
      intro i n0 r h0 h
      unfold lineNum at h
      split at h
      · rename_i hd
        have hd2 : 48 ≤ x ∧ x ≤ 57 := of_decide_eq_true hd
        split at h
        · exact ih _ _ _ (by omega) h
        · cases h
      · cases h
        exact h0
  unfold lineNumber at h
  split at h
  · rename_i n1 i1 he
    split at h
    · cases h
      exact key _ _ _ _ (Int.le_refl 0) he
    · cases h
  · cases h
set_option maxHeartbeats 8000000 in
set_option maxRecDepth 100000 in
theorem line_bytes.calls (p : Nat) (A : Option Addr) (c : Nat) (l : List Int) (N : Nat) (S : ByteArray) (k : Nat) (w0 w : World) (h : w.heap[p]? = some (.cells #[.slice A l.length c, .int .i64 k] 69 (0, 0))) (hr : Kd.C (Kd.int .u8) w0 A l.length l)
    (hb : Below w0.heap.size w0 w) (hg : w0.heap.size ≤ p) (hk : k ≤ l.length) (hN : N ≤ 6) (hS : S.size ≤ 9223372036854775807) :
    Calls Tryd.prog 50 #[.pointer (some ⟨p, 0, none⟩), .int .i64 N, .string S] w fun e w' => (∃ x k', lineBytes l (bytesOf S) N true 0 k = some (x, k') ∧ k' ≤ l.length ∧ 0 ≤ x ∧ x < ((256 ^ N : Nat) : Int) ∧ e = .returned (.int .u64 x) ∧ w'.heap[p]? = some (.cells #[.slice A l.length c, .int .i64 k'] 69 (0, 0)) ∧ KeptP p w w') ∨ (lineBytes l (bytesOf S) N true 0 k = none ∧ e = .panicked oddP ∧ KeptP p w w') := by
  have HR := Aside0.mk hr
  have HB := Aside0.mk hb
  have HG := Aside0.mk hg
  have HP := Aside0.mk h
  have HK := Aside0.mk hk
  have HN6 := Aside0.mk hN
  have HSS := Aside0.mk hS
  clear hr hb hg h hk hN hS
  go_enter Tryd.func50, Tryd.ntmps50
  go_wp2_with (fail)
  go_loopg [7, 10] N (fun kq v7 v10 w' => ∃ (i : Nat) (x : Int) (ki : Nat), v7 = .int .u64 x ∧ v10 = .int .i64 i ∧ Aside0 (i + kq = N) ∧ Aside0 (lineBytes l (bytesOf S) kq (decide (i = 0)) x ki = lineBytes l (bytesOf S) N true 0 k) ∧ Aside0 (0 ≤ x ∧ x < ((256 ^ i : Nat) : Int)) ∧ Aside0 (ki ≤ l.length) ∧ Aside0 (w'.heap[p]? = some (.cells #[.slice A l.length c, .int .i64 ki] 69 (0, 0))) ∧ Aside0 (KeptP p w w'))
  case atStart => exact ⟨0, 0, k, rfl, rfl, ⟨by simp⟩, ⟨rfl⟩, ⟨by simp⟩, HK, HP, ⟨KeptP.refl _ _⟩⟩
  case round =>
    obtain ⟨i, x, ki, rfl, rfl, HJ, HF, HX, HKL, HPW, HKW⟩ := hrel
    obtain ⟨wo, rfl⟩ : ∃ wo : World, wo = wr := ⟨_, rfl⟩
    by_cases hi : i < N
    · have q1 : decide ((i : Int) < (N : Int)) = true := decide_eq_true (by omega)
      have q1' : decide (i < N) = true := decide_eq_true hi
      obtain ⟨m, hm⟩ : ∃ m, gk = m + 1 := ⟨gk - 1, by have := HJ.out; omega⟩
      have HM := Aside0.mk hm
      have HI := Aside0.mk hi
      clear hm hi
      by_cases h0 : i = 0
      · have HF : Aside0 (lineBytes l (bytesOf S) gk true x ki = lineBytes l (bytesOf S) N true 0 k) := ⟨by have := HF.out; rwa [show decide (i = 0) = true from decide_eq_true h0] at this⟩
        have q2 : decide ((i : Int) > 0) = false := decide_eq_false (by omega)
        have q2' : decide (0 < i) = false := decide_eq_false (by omega)
        clear h0
        cases hnu : lineNumber l ki 3 255 with
        | none =>
          have HNU := Aside0.mk hnu
          have HN : Aside0 (lineBytes l (bytesOf S) N true 0 k = none) := ⟨by rw [← HF.out, HM.out]; exact lineBytes_no _ _ _ _ _ _ ki (if_pos rfl) hnu⟩
          clear hnu
          go_wp2_with (first | (go_at_call 51; refine (line_number.no p A c l 3 255 ki w0 _ HPW.out HR.out (HKW.out.below HB.out HG.out) HG.out HKL.out (by decide) HNU.out).mono ?_; rintro e' w2 ⟨rfl, hk'⟩))
          exact ⟨rfl, .inr ⟨HN.out, rfl, HKW.out.trans hk'⟩⟩
        | some vk =>
          obtain ⟨v, k2⟩ := vk
          have HNU := Aside0.mk hnu
          have HN : Aside0 (lineBytes l (bytesOf S) m false (x * 256 + v) k2 = lineBytes l (bytesOf S) N true 0 k) := ⟨by rw [← HF.out, HM.out]; exact (lineBytes_go _ _ _ _ _ _ _ ki _ (if_pos rfl) hnu).symm⟩
          have HV : Aside0 (0 ≤ v ∧ v ≤ 255) := ⟨⟨lineNumber_pos hnu, lineNumber_le hnu⟩⟩
          have HX2 : Aside0 (x * 256 + v < ((256 ^ (i + 1) : Nat) : Int) ∧ x < 1099511627776) := ⟨by
            have e1 := HX.out.2
            have e2 : 256 ^ i ≤ 256 ^ 5 := Nat.pow_le_pow_right (by omega) (by have := HN6.out; have := HI.out; omega)
            have e3 : 256 ^ (i + 1) = 256 ^ i * 256 := Nat.pow_succ 256 i
            have := HV.out
            constructor
            · rw [e3]; push_cast; push_cast at e1; omega
            · omega⟩
          obtain ⟨x2, hx2⟩ : ∃ x2, x2 = x * 256 + v := ⟨_, rfl⟩
          have HX3 := Aside0.mk hx2
          have r1 : Go.bits .or .u64 (IntKind.u64.wrap (x * 256)) (IntKind.u64.wrap v) = x2 := by rw [hx2]; exact line_or x v HX.out.1 (by have := HX2.out; omega) HV.out.1 (by have := HV.out; omega)
          have HR1 := Aside0.mk r1
          clear hnu hx2
          go_wp2_with (first | (go_at_call 51; refine (line_number.ok p A c l 3 255 v ki k2 w0 _ HPW.out HR.out (HKW.out.below HB.out HG.out) HG.out HKL.out (by decide) HNU.out).mono ?_; rintro e' w2 ⟨rfl, hkl', hv', hp', hk'⟩; have HKL2 := Aside0.mk hkl'; clear hkl' hv'; have n1 := Aside0.mk hp'; have n2 := Aside0.mk (HKW.out.trans hk'); clear HPW HKW hp' hk'; have HPW := n1; have HKW := n2; clear n1 n2))
          go_roundg m
          case measure => have := HM.out; omega
          case rel => exact ⟨i + 1, x2, k2, rfl, congrArg (Value.int .i64) (by have := HN6.out; have := HI.out; unfold wrap64; omega), ⟨by have := HM.out; have := HJ.out; omega⟩, ⟨by rw [HX3.out, show decide (i + 1 = 0) = false from by simp]; exact HN.out⟩, ⟨by have h1 := HX2.out; have := HV.out; have := HX.out; rw [HX3.out]; exact ⟨by omega, h1.1⟩⟩, HKL2, HPW, HKW⟩
      · have HF : Aside0 (lineBytes l (bytesOf S) gk false x ki = lineBytes l (bytesOf S) N true 0 k) := ⟨by have := HF.out; rwa [show decide (i = 0) = false from decide_eq_false h0] at this⟩
        have q2 : decide ((i : Int) > 0) = true := decide_eq_true (by omega)
        have q2' : decide (0 < i) = true := decide_eq_true (by omega)
        clear h0
        cases hsk : lineSkip l (bytesOf S) ki with
        | none =>
          have HSK := Aside0.mk hsk
          have HN : Aside0 (lineBytes l (bytesOf S) N true 0 k = none) := ⟨by rw [← HF.out, HM.out, lineBytes_step, if_neg (by simp), hsk]⟩
          clear hsk
          go_wp2_with (first | (go_at_call 47; refine (line_skip.no p A c l S ki w0 _ HPW.out HR.out (HKW.out.below HB.out HG.out) HG.out HSS.out HSK.out).mono ?_; rintro e' w1 ⟨rfl, hk'⟩))
          exact ⟨rfl, .inr ⟨HN.out, rfl, HKW.out.trans hk'⟩⟩
        | some kj =>
          have HKL1 := Aside0.mk (lineSkip_le l (bytesOf S) ki kj hsk HKL.out)
          clear HKL
          have HKL := HKL1
          clear HKL1
          have HSK := Aside0.mk hsk
          clear hsk
          cases hnu : lineNumber l kj 3 255 with
          | none =>
            have HNU := Aside0.mk hnu
            have HN : Aside0 (lineBytes l (bytesOf S) N true 0 k = none) := ⟨by rw [← HF.out, HM.out]; exact lineBytes_no _ _ _ _ _ _ kj ((if_neg (by simp)).trans HSK.out) hnu⟩
            clear hnu
            go_wp2_with (first | (go_at_call 47; refine (line_skip.ok p A c l S ki kj w0 _ HPW.out HR.out (HKW.out.below HB.out HG.out) HG.out HSS.out HSK.out).mono ?_; rintro e' w1 ⟨rfl, hp', hk'⟩; have n1 := Aside0.mk hp'; have n2 := Aside0.mk (HKW.out.trans hk'); clear HPW HKW hp' hk'; have HPW := n1; have HKW := n2; clear n1 n2) | (go_at_call 51; refine (line_number.no p A c l 3 255 kj w0 _ HPW.out HR.out (HKW.out.below HB.out HG.out) HG.out HKL.out (by decide) HNU.out).mono ?_; rintro e' w2 ⟨rfl, hk'⟩))
            exact ⟨rfl, .inr ⟨HN.out, rfl, HKW.out.trans hk'⟩⟩
          | some vk =>
            obtain ⟨v, k2⟩ := vk
            have HNU := Aside0.mk hnu
            have HN : Aside0 (lineBytes l (bytesOf S) m false (x * 256 + v) k2 = lineBytes l (bytesOf S) N true 0 k) := ⟨by rw [← HF.out, HM.out]; exact (lineBytes_go _ _ _ _ _ _ _ kj _ ((if_neg (by simp)).trans HSK.out) hnu).symm⟩
            have HV : Aside0 (0 ≤ v ∧ v ≤ 255) := ⟨⟨lineNumber_pos hnu, lineNumber_le hnu⟩⟩
            have HX2 : Aside0 (x * 256 + v < ((256 ^ (i + 1) : Nat) : Int) ∧ x < 1099511627776) := ⟨by
              have e1 := HX.out.2
              have e2 : 256 ^ i ≤ 256 ^ 5 := Nat.pow_le_pow_right (by omega) (by have := HN6.out; have := HI.out; omega)
              have e3 : 256 ^ (i + 1) = 256 ^ i * 256 := Nat.pow_succ 256 i
              have := HV.out
              constructor
              · rw [e3]; push_cast; push_cast at e1; omega
              · omega⟩
            obtain ⟨x2, hx2⟩ : ∃ x2, x2 = x * 256 + v := ⟨_, rfl⟩
            have HX3 := Aside0.mk hx2
            have r1 : Go.bits .or .u64 (IntKind.u64.wrap (x * 256)) (IntKind.u64.wrap v) = x2 := by rw [hx2]; exact line_or x v HX.out.1 (by have := HX2.out; omega) HV.out.1 (by have := HV.out; omega)
            have HR1 := Aside0.mk r1
            clear hnu hx2
            go_wp2_with (first | (go_at_call 47; refine (line_skip.ok p A c l S ki kj w0 _ HPW.out HR.out (HKW.out.below HB.out HG.out) HG.out HSS.out HSK.out).mono ?_; rintro e' w1 ⟨rfl, hp', hk'⟩; have n1 := Aside0.mk hp'; have n2 := Aside0.mk (HKW.out.trans hk'); clear HPW HKW hp' hk'; have HPW := n1; have HKW := n2; clear n1 n2) | (go_at_call 51; refine (line_number.ok p A c l 3 255 v kj k2 w0 _ HPW.out HR.out (HKW.out.below HB.out HG.out) HG.out HKL.out (by decide) HNU.out).mono ?_; rintro e' w2 ⟨rfl, hkl', hv', hp', hk'⟩; have HKL2 := Aside0.mk hkl'; clear hkl' hv'; have n1 := Aside0.mk hp'; have n2 := Aside0.mk (HKW.out.trans hk'); clear HPW HKW hp' hk'; have HPW := n1; have HKW := n2; clear n1 n2))
            go_roundg m
            case measure => have := HM.out; omega
            case rel => exact ⟨i + 1, x2, k2, rfl, congrArg (Value.int .i64) (by have := HN6.out; have := HI.out; unfold wrap64; omega), ⟨by have := HM.out; have := HJ.out; omega⟩, ⟨by rw [HX3.out, show decide (i + 1 = 0) = false from by simp]; exact HN.out⟩, ⟨by have h1 := HX2.out; have := HV.out; have := HX.out; rw [HX3.out]; exact ⟨by omega, h1.1⟩⟩, HKL2, HPW, HKW⟩
    · have q1 : decide ((i : Int) < (N : Int)) = false := decide_eq_false (by omega)
      have q1' : decide (i < N) = false := decide_eq_false hi
      have HN : Aside0 (lineBytes l (bytesOf S) N true 0 k = some (x, ki)) := ⟨by rw [← HF.out, show gk = 0 from by have := HJ.out; omega]; rfl⟩
      have HIN : Aside0 (i = N) := ⟨by have := HJ.out; omega⟩
      clear hi
      go_wp2_with (fail)
      go_ret
      exact .inl ⟨x, ki, HN.out, HKL.out, HX.out.1, by rw [← HIN.out]; exact HX.out.2, rfl, HPW.out, HKW.out⟩
theorem KeptP.far {p : Nat} {a b : World} (h : KeptP p a b) {g : Nat} (hg : a.heap.size ≤ g) (j : Nat) (v : Value) : KeptP p a (b.setCell ⟨g, j, none⟩ v) :=
  ⟨h.os, h.tape, h.output, by simp [World.setCell]; exact h.size, fun i hi hne => (Below.heap_setCell _ _ _ i (by show i ≠ g; omega)).trans (h.block i hi hne)⟩
theorem KeptP.alloc {p : Nat} {a b : World} (h : KeptP p a b) (o : Obj) : KeptP p a (b.alloc o) :=
  h.trans (KeptP.of_below (below_alloc (Below.refl _ _) o))
theorem line_bytes.ok (p : Nat) (A : Option Addr) (c : Nat) (l : List Int) (N : Nat) (S : ByteArray) (x : Int) (k k' : Nat) (w0 w : World) (h : w.heap[p]? = some (.cells #[.slice A l.length c, .int .i64 k] 69 (0, 0))) (hr : Kd.C (Kd.int .u8) w0 A l.length l)
    (hb : Below w0.heap.size w0 w) (hg : w0.heap.size ≤ p) (hk : k ≤ l.length) (hN : N ≤ 6) (hS : S.size ≤ 9223372036854775807) (hs : lineBytes l (bytesOf S) N true 0 k = some (x, k')) :
    Calls Tryd.prog 50 #[.pointer (some ⟨p, 0, none⟩), .int .i64 N, .string S] w fun e w' => e = .returned (.int .u64 x) ∧ k' ≤ l.length ∧ 0 ≤ x ∧ x < ((256 ^ N : Nat) : Int) ∧ w'.heap[p]? = some (.cells #[.slice A l.length c, .int .i64 k'] 69 (0, 0)) ∧ KeptP p w w' :=
  (line_bytes.calls p A c l N S k w0 w h hr hb hg hk hN hS).mono (by
    rintro e w' (⟨n2, k2, h1, h2, h3, h4, h5, h6, h7⟩ | ⟨h1, h2, h3⟩)
    · rw [hs] at h1
      cases h1
      exact ⟨h5, h2, h3, h4, h6, h7⟩
    · rw [hs] at h1
      cases h1)
theorem line_bytes.no (p : Nat) (A : Option Addr) (c : Nat) (l : List Int) (N : Nat) (S : ByteArray) (k : Nat) (w0 w : World) (h : w.heap[p]? = some (.cells #[.slice A l.length c, .int .i64 k] 69 (0, 0))) (hr : Kd.C (Kd.int .u8) w0 A l.length l)
    (hb : Below w0.heap.size w0 w) (hg : w0.heap.size ≤ p) (hk : k ≤ l.length) (hN : N ≤ 6) (hS : S.size ≤ 9223372036854775807) (hs : lineBytes l (bytesOf S) N true 0 k = none) :
    Calls Tryd.prog 50 #[.pointer (some ⟨p, 0, none⟩), .int .i64 N, .string S] w fun e w' => e = .panicked oddP ∧ KeptP p w w' :=
  (line_bytes.calls p A c l N S k w0 w h hr hb hg hk hN hS).mono (by
    rintro e w' (⟨n2, k2, h1, h2, h3, h4, h5, h6, h7⟩ | ⟨h1, h2, h3⟩)
    · rw [hs] at h1
      cases h1
    · exact ⟨h2, h3⟩)
theorem two_set {w : World} {g t : Nat} {u0 u1 v0 v1 : Value} (h : w.heap[g]? = some (.cells #[u0, u1] t (0, 0))) : ((w.setCell ⟨g, 0, none⟩ v0).setCell ⟨g, 1, none⟩ v1).heap[g]? = some (.cells #[v0, v1] t (0, 0)) :=
  blk_put (cs' := #[v0, v1]) (blk_put (cs' := #[v0, u1]) h 0 v0 rfl) 1 v1 rfl
set_option maxHeartbeats 8000000 in
set_option maxRecDepth 100000 in
theorem line_six.calls (p : Nat) (A : Option Addr) (c : Nat) (l : List Int) (k : Nat) (w0 w : World) (h : w.heap[p]? = some (.cells #[.slice A l.length c, .int .i64 k] 69 (0, 0))) (hr : Kd.C (Kd.int .u8) w0 A l.length l)
    (hb : Below w0.heap.size w0 w) (hg : w0.heap.size ≤ p) (hk : k ≤ l.length) :
    Calls Tryd.prog 48 #[.pointer (some ⟨p, 0, none⟩)] w fun e w' => (∃ a q k', lineSix l k = some (a, q, k') ∧ k' ≤ l.length ∧ e = .returned (.agg #[.int .u32 a, .int .i64 q]) ∧ w'.heap[p]? = some (.cells #[.slice A l.length c, .int .i64 k'] 69 (0, 0)) ∧ KeptP p w w') ∨ (lineSix l k = none ∧ e = .panicked oddP ∧ KeptP p w w') := by
  have hu := Tryd.underlying24
  have HR := Aside0.mk hr
  have HB := Aside0.mk hb
  have HG := Aside0.mk hg
  have HK := Aside0.mk hk
  have HPL := Aside0.mk (blk_lt h)
  obtain ⟨W, hW⟩ : ∃ W, W = w.alloc (.cells #[.int .u32 0, .int .i64 0] 24 (0, 0)) := ⟨_, rfl⟩
  have HP : Aside0 (W.heap[p]? = some (.cells #[.slice A l.length c, .int .i64 k] 69 (0, 0))) := ⟨by rw [hW]; exact (Below.heap_alloc _ _ _ HPL.out).trans h⟩
  have HKW : Aside0 (KeptP p w W) := ⟨by rw [hW]; exact (KeptP.refl _ _).alloc _⟩
  have HGW : Aside0 (W.heap[w.heap.size]? = some (.cells #[.int .u32 0, .int .i64 0] 24 (0, 0))) := ⟨by rw [hW]; exact heap_alloc_new _ _⟩
  have HNE : Aside0 (w.heap.size ≠ p) := ⟨by have := HPL.out; omega⟩
  have hbs : bytesOf ⟨#[44]⟩ = [44] := by decide
  have HW := Aside0.mk hW
  clear hr hb hg h hk
  cases hs : lineBytes l [44] 6 true 0 k with
  | none =>
    have HS : Aside0 (lineBytes l (bytesOf ⟨#[44]⟩) 6 true 0 k = none) := ⟨by rw [hbs]; exact hs⟩
    have HN : Aside0 (lineSix l k = none) := ⟨by unfold lineSix; rw [hs]⟩
    clear hs hbs hW
    go_enter Tryd.func48, Tryd.ntmps48
    go_wp2_with (first | (go_at_call 50; rw [← HW.out]; refine (line_bytes.no p A c l 6 ⟨#[44]⟩ k w0 _ HP.out HR.out (HKW.out.below HB.out HG.out) HG.out HK.out (by decide) (by decide) HS.out).mono ?_; rintro e' w1 ⟨rfl, hk'⟩))
    exact ⟨rfl, .inr ⟨HN.out, rfl, HKW.out.trans hk'⟩⟩
  | some xk =>
    obtain ⟨x, k'⟩ := xk
    have HS : Aside0 (lineBytes l (bytesOf ⟨#[44]⟩) 6 true 0 k = some (x, k')) := ⟨by rw [hbs]; exact hs⟩
    have HN : Aside0 (lineSix l k = some (x / 65536, x % 65536, k')) := ⟨by unfold lineSix; rw [hs]⟩
    clear hs hbs hW
    go_enter Tryd.func48, Tryd.ntmps48
    go_wp2_with (first | (go_at_call 50; rw [← HW.out]; refine (line_bytes.ok p A c l 6 ⟨#[44]⟩ x k k' w0 _ HP.out HR.out (HKW.out.below HB.out HG.out) HG.out HK.out (by decide) (by decide) HS.out).mono ?_; rintro e' w1 ⟨rfl, hkl, hx0, hx1, hp', hk'⟩; have HGX := Aside0.mk (hk'.row HGW.out HNE.out); have HKX := Aside0.mk (HKW.out.trans hk'); have HPX := Aside0.mk hp'; have HX := Aside0.mk (And.intro hx0 hx1); have HKL := Aside0.mk hkl; have hc0 : w1.cell? ⟨w.heap.size, 0, none⟩ = some (.int .u32 0) := (blk_cell HGX.out 0).trans rfl; have hc1 : w1.cell? ⟨w.heap.size, 1, none⟩ = some (.int .i64 0) := (blk_cell HGX.out 1).trans rfl; have hf0 : w1.frozen? ⟨w.heap.size, 0, none⟩ = false := blk_frozen HGX.out 0; have hf1 : w1.frozen? ⟨w.heap.size, 1, none⟩ = false := blk_frozen HGX.out 1; have r1 : Go.bits .and .u64 x 65535 = x % 65536 := line_and x; clear hkl hx0 hx1 hp' hk' HP HGW))
    have hx : x / 65536 % 4294967296 = x / 65536 := by have := HX.out; omega
    refine bodyPost_ret (results_cell_row rfl _ _ w.heap.size 24 #[.int .u32 (x / 65536 % 4294967296), .int .i64 (x % 65536)] (0, 0) _ rfl (two_set HGX.out) hu rfl (by kernel_rfl)) rfl ?_
    refine .inl ⟨_, _, k', HN.out, HKL.out, by rw [hx], ?_, (HKX.out.far (Nat.le_refl _) 0 _).far (Nat.le_refl _) 1 _⟩
    exact ((Below.heap_setCell _ _ _ p HNE.out.symm).trans (Below.heap_setCell _ _ _ p HNE.out.symm)).trans HPX.out
theorem line_six.ok (p : Nat) (A : Option Addr) (c : Nat) (l : List Int) (a q : Int) (k k' : Nat) (w0 w : World) (h : w.heap[p]? = some (.cells #[.slice A l.length c, .int .i64 k] 69 (0, 0))) (hr : Kd.C (Kd.int .u8) w0 A l.length l)
    (hb : Below w0.heap.size w0 w) (hg : w0.heap.size ≤ p) (hk : k ≤ l.length) (hs : lineSix l k = some (a, q, k')) :
    Calls Tryd.prog 48 #[.pointer (some ⟨p, 0, none⟩)] w fun e w' => e = .returned (.agg #[.int .u32 a, .int .i64 q]) ∧ k' ≤ l.length ∧ w'.heap[p]? = some (.cells #[.slice A l.length c, .int .i64 k'] 69 (0, 0)) ∧ KeptP p w w' :=
  (line_six.calls p A c l k w0 w h hr hb hg hk).mono (by
    rintro e w' (⟨a2, q2, k2, h1, h2, h3, h4, h5⟩ | ⟨h1, h2, h3⟩)
    · rw [hs] at h1
      cases h1
      exact ⟨h3, h2, h4, h5⟩
    · rw [hs] at h1
      cases h1)
theorem line_six.no (p : Nat) (A : Option Addr) (c : Nat) (l : List Int) (k : Nat) (w0 w : World) (h : w.heap[p]? = some (.cells #[.slice A l.length c, .int .i64 k] 69 (0, 0))) (hr : Kd.C (Kd.int .u8) w0 A l.length l)
    (hb : Below w0.heap.size w0 w) (hg : w0.heap.size ≤ p) (hk : k ≤ l.length) (hs : lineSix l k = none) :
    Calls Tryd.prog 48 #[.pointer (some ⟨p, 0, none⟩)] w fun e w' => e = .panicked oddP ∧ KeptP p w w' :=
  (line_six.calls p A c l k w0 w h hr hb hg hk).mono (by
    rintro e w' (⟨a2, q2, k2, h1, h2, h3, h4, h5⟩ | ⟨h1, h2, h3⟩)
    · rw [hs] at h1
      cases h1
    · exact ⟨h2, h3⟩)
theorem line_over.ok (p : Nat) (A : Option Addr) (c : Nat) (l : List Int) (k : Nat) (w : World) (h : w.heap[p]? = some (.cells #[.slice A l.length c, .int .i64 k] 69 (0, 0))) (hk : k = l.length) :
    Calls Tryd.prog 49 #[.pointer (some ⟨p, 0, none⟩)] w fun e w' => e = .returned (.tuple #[]) ∧ w'.heap[p]? = some (.cells #[.slice A l.length c, .int .i64 k] 69 (0, 0)) ∧ KeptP p w w' :=
  (line_over.calls p A c l k w h).mono (by
    rintro e w' ⟨h1, h2⟩
    rw [if_pos hk] at h1
    refine ⟨h1, ?_, (KeptP.refl _ _).drawn h2⟩
    obtain ⟨nd, rfl⟩ := h2
    exact h)
theorem line_over.no (p : Nat) (A : Option Addr) (c : Nat) (l : List Int) (k : Nat) (w : World) (h : w.heap[p]? = some (.cells #[.slice A l.length c, .int .i64 k] 69 (0, 0))) (hk : ¬ k = l.length) :
    Calls Tryd.prog 49 #[.pointer (some ⟨p, 0, none⟩)] w fun e w' => e = .panicked oddP ∧ KeptP p w w' :=
  (line_over.calls p A c l k w h).mono (by
    rintro e w' ⟨h1, h2⟩
    rw [if_neg hk] at h1
    exact ⟨h1, (KeptP.refl _ _).drawn h2⟩)
/-- The walk of 'line' in its midst: the reader, the result's block, the line's block. -/
structure LineSt (p : Nat) (A : Option Addr) (c : Nat) (l : List Int) (w W : World) (k : Nat) (cs : Array Value) : Prop where
  row : W.heap[p]? = some (.cells #[.slice A l.length c, .int .i64 k] 69 (0, 0))
  keep : KeptP p w W
  res : W.heap[w.heap.size]? = some (.cells #[.int .i64 0, .int .i64 0, .int .i64 0, .int .u32 0, .int .i64 0] 34 (0, 0))
  loc : W.heap[w.heap.size + 1]? = some (.cells cs 34 (0, 0))
  lt : p < w.heap.size
theorem LineSt.call {p : Nat} {A : Option Addr} {c : Nat} {l : List Int} {w W w1 : World} {k k' : Nat} {cs : Array Value} (h : LineSt p A c l w W k cs) (hp : w1.heap[p]? = some (.cells #[.slice A l.length c, .int .i64 k'] 69 (0, 0))) (hk : KeptP p W w1) : LineSt p A c l w w1 k' cs :=
  ⟨hp, h.keep.trans hk, hk.row h.res (by have := h.lt; omega), hk.row h.loc (by have := h.lt; omega), h.lt⟩
theorem LineSt.set {p : Nat} {A : Option Addr} {c : Nat} {l : List Int} {w W : World} {k : Nat} {cs cs' : Array Value} (h : LineSt p A c l w W k cs) (j : Nat) (v : Value) (hc : cs.setIfInBounds j v = cs') : LineSt p A c l w (W.setCell ⟨w.heap.size + 1, j, none⟩ v) k cs' :=
  ⟨(Below.heap_setCell _ _ _ p (by have := h.lt; show p ≠ w.heap.size + 1; omega)).trans h.row, h.keep.far (by omega) j v, (Below.heap_setCell _ _ _ _ (by show w.heap.size ≠ w.heap.size + 1; omega)).trans h.res, blk_put h.loc j v hc, h.lt⟩
theorem line_five {w : World} {g t : Nat} {u0 u1 u2 u3 u4 v0 v1 v2 v3 v4 : Value} (h : w.heap[g]? = some (.cells #[u0, u1, u2, u3, u4] t (0, 0))) :
    (((((w.setCell ⟨g, 0, none⟩ v0).setCell ⟨g, 1, none⟩ v1).setCell ⟨g, 2, none⟩ v2).setCell ⟨g, 3, none⟩ v3).setCell ⟨g, 4, none⟩ v4).heap[g]? = some (.cells #[v0, v1, v2, v3, v4] t (0, 0)) :=
  blk_put (cs' := #[v0, v1, v2, v3, v4]) (blk_put (cs' := #[v0, v1, v2, v3, u4]) (blk_put (cs' := #[v0, v1, v2, u3, u4]) (blk_put (cs' := #[v0, v1, u2, u3, u4]) (blk_put (cs' := #[v0, u1, u2, u3, u4]) h 0 v0 rfl) 1 v1 rfl) 2 v2 rfl) 3 v3 rfl) 4 v4 rfl
theorem LineSt.fin {p : Nat} {A : Option Addr} {c : Nat} {l : List Int} {w W : World} {k : Nat} {cs : Array Value} (h : LineSt p A c l w W k cs) (v0 v1 v2 v3 v4 : Value) :
    KeptP p w (((((W.setCell ⟨w.heap.size, 0, none⟩ v0).setCell ⟨w.heap.size, 1, none⟩ v1).setCell ⟨w.heap.size, 2, none⟩ v2).setCell ⟨w.heap.size, 3, none⟩ v3).setCell ⟨w.heap.size, 4, none⟩ v4) :=
  ((((h.keep.far (Nat.le_refl _) 0 _).far (Nat.le_refl _) 1 _).far (Nat.le_refl _) 2 _).far (Nat.le_refl _) 3 _).far (Nat.le_refl _) 4 _
theorem LineSt.new {p : Nat} {A : Option Addr} {c : Nat} {l : List Int} {w : World} {k : Nat} (h : w.heap[p]? = some (.cells #[.slice A l.length c, .int .i64 k] 69 (0, 0))) (cs : Array Value) :
    LineSt p A c l w ((w.alloc (.cells #[.int .i64 0, .int .i64 0, .int .i64 0, .int .u32 0, .int .i64 0] 34 (0, 0))).alloc (.cells cs 34 (0, 0))) k cs := by
  have hl := blk_lt h
  have hs : ∀ o : Obj, (w.alloc o).heap.size = w.heap.size + 1 := fun o => by show (w.heap.push o).size = _; simp
  refine ⟨?_, ((KeptP.refl _ _).alloc _).alloc _, ?_, ?_, hl⟩
  · exact ((Below.heap_alloc _ _ _ (by rw [hs]; omega)).trans (Below.heap_alloc _ _ _ hl)).trans h
  · exact (Below.heap_alloc _ _ _ (by rw [hs]; omega)).trans (heap_alloc_new _ _)
  · exact heap_alloc2_new w _ _
set_option maxHeartbeats 8000000 in
set_option maxRecDepth 100000 in
theorem line_line.port (p : Nat) (A : Option Addr) (c : Nat) (l : List Int) (w0 w : World) (h : w.heap[p]? = some (.cells #[.slice A l.length c, .int .i64 0] 69 (0, 0))) (hr : Kd.C (Kd.int .u8) w0 A l.length l)
    (hb : Below w0.heap.size w0 w) (hg : w0.heap.size ≤ p) :
    Calls Tryd.prog 32 #[.pointer (some ⟨p, 0, none⟩), .int .i64 1] w fun e w' => (∃ kd f t a q, linePort l = some (kd, f, t, a, q) ∧ e = .returned (.agg #[.int .i64 kd, .int .i64 (f : Nat), .int .i64 (t : Nat), .int .u32 a, .int .i64 q]) ∧ KeptP p w w') ∨ (linePort l = none ∧ e = .panicked oddP ∧ KeptP p w w') := by
  have hu := Tryd.underlying24
  have hu2 := Tryd.underlying34
  have HR := Aside0.mk hr
  have HB := Aside0.mk hb
  have HG := Aside0.mk hg
  obtain ⟨W0, hW0⟩ : ∃ W, W = (w.alloc (.cells #[.int .i64 0, .int .i64 0, .int .i64 0, .int .u32 0, .int .i64 0] 34 (0, 0))).alloc (.cells #[.int .i64 1, .int .i64 0, .int .i64 0, .int .u32 0, .int .i64 0] 34 (0, 0)) := ⟨_, rfl⟩
  have HST : Aside0 (LineSt p A c l w W0 0 #[.int .i64 1, .int .i64 0, .int .i64 0, .int .u32 0, .int .i64 0]) := ⟨by rw [hW0]; exact LineSt.new h _⟩
  have HW0 := Aside0.mk hW0
  clear hr hb hg h hW0
  go_enter Tryd.func32, Tryd.ntmps32
  go_upto_region 4 with (fail)
  rw [← HW0.out]
  have HZ : Aside0 (0 ≤ l.length) := ⟨Nat.zero_le _⟩
  have h0 : W0.cell? ⟨p, 0, none⟩ = some (.slice A l.length c) := (blk_cell HST.out.row 0).trans rfl
  have h1 : W0.cell? ⟨p, 1, none⟩ = some (.int .i64 0) := (blk_cell HST.out.row 1).trans rfl
  have hl0 : W0.cell? ⟨w.heap.size + 1, 0, none⟩ = some (.int .i64 1) := (blk_cell HST.out.loc 0).trans rfl
  have hm0 : W0.frozen? ⟨w.heap.size + 1, 0, none⟩ = false := blk_frozen HST.out.loc 0
  have hl1 : W0.cell? ⟨w.heap.size + 1, 1, none⟩ = some (.int .i64 0) := (blk_cell HST.out.loc 1).trans rfl
  have hm1 : W0.frozen? ⟨w.heap.size + 1, 1, none⟩ = false := blk_frozen HST.out.loc 1
  have hl2 : W0.cell? ⟨w.heap.size + 1, 2, none⟩ = some (.int .i64 0) := (blk_cell HST.out.loc 2).trans rfl
  have hm2 : W0.frozen? ⟨w.heap.size + 1, 2, none⟩ = false := blk_frozen HST.out.loc 2
  have hl3 : W0.cell? ⟨w.heap.size + 1, 3, none⟩ = some (.int .u32 0) := (blk_cell HST.out.loc 3).trans rfl
  have hm3 : W0.frozen? ⟨w.heap.size + 1, 3, none⟩ = false := blk_frozen HST.out.loc 3
  have hl4 : W0.cell? ⟨w.heap.size + 1, 4, none⟩ = some (.int .i64 0) := (blk_cell HST.out.loc 4).trans rfl
  have hm4 : W0.frozen? ⟨w.heap.size + 1, 4, none⟩ = false := blk_frozen HST.out.loc 4
  cases hs : lineSkip l [80, 79, 82, 84, 32] 0 with
  | none =>
    have E1 := Aside0.mk hs
    have HN : Aside0 (linePort l = none) := ⟨by simp only [linePort, E1.out]⟩
    clear hs
    go_wp2_with (first | (go_at_call 47; refine (line_skip.no p A c l ⟨#[80, 79, 82, 84, 32]⟩ 0 w0 _ HST.out.row HR.out (HST.out.keep.below HB.out HG.out) HG.out (by decide) (by rw [show bytesOf ⟨#[80, 79, 82, 84, 32]⟩ = [80, 79, 82, 84, 32] from by decide]; exact E1.out)).mono ?_; rintro e' w1 ⟨rfl, hk'⟩))
    exact ⟨rfl, .inr ⟨HN.out, rfl, HST.out.keep.trans hk'⟩⟩
  | some r1 =>
    obtain ⟨k1, hk⟩ : ∃ k1, k1 = r1 := ⟨_, rfl⟩
    rw [← hk] at hs
    clear hk
    have E1 := Aside0.mk hs
    have HK1 := Aside0.mk (lineSkip_le l [80, 79, 82, 84, 32] 0 k1 hs HZ.out)
    clear hs
    go_upto_region 5 with (first | (go_at_call 47; refine (line_skip.ok p A c l ⟨#[80, 79, 82, 84, 32]⟩ 0 k1 w0 _ HST.out.row HR.out (HST.out.keep.below HB.out HG.out) HG.out (by decide) (by rw [show bytesOf ⟨#[80, 79, 82, 84, 32]⟩ = [80, 79, 82, 84, 32] from by decide]; exact E1.out)).mono ?_; rintro e' w1 ⟨rfl, hp', hk'⟩; have n1 := Aside0.mk (HST.out.call hp' hk'); clear HST hp' hk'; clear h0 h1 hl0 hl1 hl2 hl3 hl4 hm0 hm1 hm2 hm3 hm4; have HST := n1; clear n1; have h0 : w1.cell? ⟨p, 0, none⟩ = some (.slice A l.length c) := (blk_cell HST.out.row 0).trans rfl; have h1 : w1.cell? ⟨p, 1, none⟩ = some (.int .i64 k1) := (blk_cell HST.out.row 1).trans rfl; have hl0 : w1.cell? ⟨w.heap.size + 1, 0, none⟩ = some (.int .i64 1) := (blk_cell HST.out.loc 0).trans rfl; have hm0 : w1.frozen? ⟨w.heap.size + 1, 0, none⟩ = false := blk_frozen HST.out.loc 0; have hl1 : w1.cell? ⟨w.heap.size + 1, 1, none⟩ = some (.int .i64 0) := (blk_cell HST.out.loc 1).trans rfl; have hm1 : w1.frozen? ⟨w.heap.size + 1, 1, none⟩ = false := blk_frozen HST.out.loc 1; have hl2 : w1.cell? ⟨w.heap.size + 1, 2, none⟩ = some (.int .i64 0) := (blk_cell HST.out.loc 2).trans rfl; have hm2 : w1.frozen? ⟨w.heap.size + 1, 2, none⟩ = false := blk_frozen HST.out.loc 2; have hl3 : w1.cell? ⟨w.heap.size + 1, 3, none⟩ = some (.int .u32 0) := (blk_cell HST.out.loc 3).trans rfl; have hm3 : w1.frozen? ⟨w.heap.size + 1, 3, none⟩ = false := blk_frozen HST.out.loc 3; have hl4 : w1.cell? ⟨w.heap.size + 1, 4, none⟩ = some (.int .i64 0) := (blk_cell HST.out.loc 4).trans rfl; have hm4 : w1.frozen? ⟨w.heap.size + 1, 4, none⟩ = false := blk_frozen HST.out.loc 4))
    obtain ⟨W1, hW⟩ : ∃ W, W = w1 := ⟨_, rfl⟩
    subst hW
    go_upto_region 6 with (fail)
    have n1 := Aside0.mk (HST.out.set 1 (.int .i64 k1) (cs' := #[.int .i64 1, .int .i64 k1, .int .i64 0, .int .u32 0, .int .i64 0]) rfl)
    clear h0 h1 hl0 hl1 hl2 hl3 hl4 hm0 hm1 hm2 hm3 hm4 HST
    have HST := n1
    clear n1
    generalize W1.setCell ⟨w.heap.size + 1, 1, none⟩ (.int .i64 k1) = W2 at HST ⊢
    have h0 : W2.cell? ⟨p, 0, none⟩ = some (.slice A l.length c) := (blk_cell HST.out.row 0).trans rfl
    have h1 : W2.cell? ⟨p, 1, none⟩ = some (.int .i64 k1) := (blk_cell HST.out.row 1).trans rfl
    have hl0 : W2.cell? ⟨w.heap.size + 1, 0, none⟩ = some (.int .i64 1) := (blk_cell HST.out.loc 0).trans rfl
    have hm0 : W2.frozen? ⟨w.heap.size + 1, 0, none⟩ = false := blk_frozen HST.out.loc 0
    have hl1 : W2.cell? ⟨w.heap.size + 1, 1, none⟩ = some (.int .i64 k1) := (blk_cell HST.out.loc 1).trans rfl
    have hm1 : W2.frozen? ⟨w.heap.size + 1, 1, none⟩ = false := blk_frozen HST.out.loc 1
    have hl2 : W2.cell? ⟨w.heap.size + 1, 2, none⟩ = some (.int .i64 0) := (blk_cell HST.out.loc 2).trans rfl
    have hm2 : W2.frozen? ⟨w.heap.size + 1, 2, none⟩ = false := blk_frozen HST.out.loc 2
    have hl3 : W2.cell? ⟨w.heap.size + 1, 3, none⟩ = some (.int .u32 0) := (blk_cell HST.out.loc 3).trans rfl
    have hm3 : W2.frozen? ⟨w.heap.size + 1, 3, none⟩ = false := blk_frozen HST.out.loc 3
    have hl4 : W2.cell? ⟨w.heap.size + 1, 4, none⟩ = some (.int .i64 0) := (blk_cell HST.out.loc 4).trans rfl
    have hm4 : W2.frozen? ⟨w.heap.size + 1, 4, none⟩ = false := blk_frozen HST.out.loc 4
    cases hs : lineSix l k1 with
    | none =>
      have E2 := Aside0.mk hs
      have HN : Aside0 (linePort l = none) := ⟨by simp only [linePort, E1.out, E2.out]⟩
      clear hs
      go_wp2_with (first | (go_at_call 48; refine (line_six.no p A c l k1 w0 _ HST.out.row HR.out (HST.out.keep.below HB.out HG.out) HG.out HK1.out E2.out).mono ?_; rintro e' w1 ⟨rfl, hk'⟩))
      exact ⟨rfl, .inr ⟨HN.out, rfl, HST.out.keep.trans hk'⟩⟩
    | some r2 =>
      obtain ⟨a1, qp, k2⟩ := r2
      have E2 := Aside0.mk hs
      clear hs
      go_upto_region 7 with (first | (go_at_call 48; refine (line_six.ok p A c l a1 qp k1 k2 w0 _ HST.out.row HR.out (HST.out.keep.below HB.out HG.out) HG.out HK1.out E2.out).mono ?_; rintro e' w1 ⟨rfl, hkl, hp', hk'⟩; have HK2 := Aside0.mk hkl; clear hkl; have n1 := Aside0.mk (HST.out.call hp' hk'); clear HST hp' hk'; clear h0 h1 hl0 hl1 hl2 hl3 hl4 hm0 hm1 hm2 hm3 hm4; have HST := n1; clear n1; have h0 : w1.cell? ⟨p, 0, none⟩ = some (.slice A l.length c) := (blk_cell HST.out.row 0).trans rfl; have h1 : w1.cell? ⟨p, 1, none⟩ = some (.int .i64 k2) := (blk_cell HST.out.row 1).trans rfl; have hl0 : w1.cell? ⟨w.heap.size + 1, 0, none⟩ = some (.int .i64 1) := (blk_cell HST.out.loc 0).trans rfl; have hm0 : w1.frozen? ⟨w.heap.size + 1, 0, none⟩ = false := blk_frozen HST.out.loc 0; have hl1 : w1.cell? ⟨w.heap.size + 1, 1, none⟩ = some (.int .i64 k1) := (blk_cell HST.out.loc 1).trans rfl; have hm1 : w1.frozen? ⟨w.heap.size + 1, 1, none⟩ = false := blk_frozen HST.out.loc 1; have hl2 : w1.cell? ⟨w.heap.size + 1, 2, none⟩ = some (.int .i64 0) := (blk_cell HST.out.loc 2).trans rfl; have hm2 : w1.frozen? ⟨w.heap.size + 1, 2, none⟩ = false := blk_frozen HST.out.loc 2; have hl3 : w1.cell? ⟨w.heap.size + 1, 3, none⟩ = some (.int .u32 0) := (blk_cell HST.out.loc 3).trans rfl; have hm3 : w1.frozen? ⟨w.heap.size + 1, 3, none⟩ = false := blk_frozen HST.out.loc 3; have hl4 : w1.cell? ⟨w.heap.size + 1, 4, none⟩ = some (.int .i64 0) := (blk_cell HST.out.loc 4).trans rfl; have hm4 : w1.frozen? ⟨w.heap.size + 1, 4, none⟩ = false := blk_frozen HST.out.loc 4))
      have n1 := Aside0.mk (HST.out.set 3 (.int .u32 a1) (cs' := #[.int .i64 1, .int .i64 k1, .int .i64 0, .int .u32 a1, .int .i64 0]) rfl)
      clear HST
      have HST := n1
      clear n1
      have n1 := Aside0.mk (HST.out.set 4 (.int .i64 qp) (cs' := #[.int .i64 1, .int .i64 k1, .int .i64 0, .int .u32 a1, .int .i64 qp]) rfl)
      clear HST
      have HST := n1
      clear n1
      clear h0 h1 hl0 hl1 hl2 hl3 hl4 hm0 hm1 hm2 hm3 hm4
      generalize ((w1.setCell ⟨w.heap.size + 1, 3, none⟩ (.int .u32 a1)).setCell ⟨w.heap.size + 1, 4, none⟩ (.int .i64 qp)) = W3 at HST ⊢
      clear w1
      have h0 : W3.cell? ⟨p, 0, none⟩ = some (.slice A l.length c) := (blk_cell HST.out.row 0).trans rfl
      have h1 : W3.cell? ⟨p, 1, none⟩ = some (.int .i64 k2) := (blk_cell HST.out.row 1).trans rfl
      have hl0 : W3.cell? ⟨w.heap.size + 1, 0, none⟩ = some (.int .i64 1) := (blk_cell HST.out.loc 0).trans rfl
      have hm0 : W3.frozen? ⟨w.heap.size + 1, 0, none⟩ = false := blk_frozen HST.out.loc 0
      have hl1 : W3.cell? ⟨w.heap.size + 1, 1, none⟩ = some (.int .i64 k1) := (blk_cell HST.out.loc 1).trans rfl
      have hm1 : W3.frozen? ⟨w.heap.size + 1, 1, none⟩ = false := blk_frozen HST.out.loc 1
      have hl2 : W3.cell? ⟨w.heap.size + 1, 2, none⟩ = some (.int .i64 0) := (blk_cell HST.out.loc 2).trans rfl
      have hm2 : W3.frozen? ⟨w.heap.size + 1, 2, none⟩ = false := blk_frozen HST.out.loc 2
      have hl3 : W3.cell? ⟨w.heap.size + 1, 3, none⟩ = some (.int .u32 a1) := (blk_cell HST.out.loc 3).trans rfl
      have hm3 : W3.frozen? ⟨w.heap.size + 1, 3, none⟩ = false := blk_frozen HST.out.loc 3
      have hl4 : W3.cell? ⟨w.heap.size + 1, 4, none⟩ = some (.int .i64 qp) := (blk_cell HST.out.loc 4).trans rfl
      have hm4 : W3.frozen? ⟨w.heap.size + 1, 4, none⟩ = false := blk_frozen HST.out.loc 4
      go_upto_region 8 with (fail)
      have n1 := Aside0.mk (HST.out.set 2 (.int .i64 k2) (cs' := #[.int .i64 1, .int .i64 k1, .int .i64 k2, .int .u32 a1, .int .i64 qp]) rfl)
      clear h0 h1 hl0 hl1 hl2 hl3 hl4 hm0 hm1 hm2 hm3 hm4 HST
      have HST := n1
      clear n1
      generalize W3.setCell ⟨w.heap.size + 1, 2, none⟩ (.int .i64 k2) = W4 at HST ⊢
      have h0 : W4.cell? ⟨p, 0, none⟩ = some (.slice A l.length c) := (blk_cell HST.out.row 0).trans rfl
      have h1 : W4.cell? ⟨p, 1, none⟩ = some (.int .i64 k2) := (blk_cell HST.out.row 1).trans rfl
      have hl0 : W4.cell? ⟨w.heap.size + 1, 0, none⟩ = some (.int .i64 1) := (blk_cell HST.out.loc 0).trans rfl
      have hm0 : W4.frozen? ⟨w.heap.size + 1, 0, none⟩ = false := blk_frozen HST.out.loc 0
      have hl1 : W4.cell? ⟨w.heap.size + 1, 1, none⟩ = some (.int .i64 k1) := (blk_cell HST.out.loc 1).trans rfl
      have hm1 : W4.frozen? ⟨w.heap.size + 1, 1, none⟩ = false := blk_frozen HST.out.loc 1
      have hl2 : W4.cell? ⟨w.heap.size + 1, 2, none⟩ = some (.int .i64 k2) := (blk_cell HST.out.loc 2).trans rfl
      have hm2 : W4.frozen? ⟨w.heap.size + 1, 2, none⟩ = false := blk_frozen HST.out.loc 2
      have hl3 : W4.cell? ⟨w.heap.size + 1, 3, none⟩ = some (.int .u32 a1) := (blk_cell HST.out.loc 3).trans rfl
      have hm3 : W4.frozen? ⟨w.heap.size + 1, 3, none⟩ = false := blk_frozen HST.out.loc 3
      have hl4 : W4.cell? ⟨w.heap.size + 1, 4, none⟩ = some (.int .i64 qp) := (blk_cell HST.out.loc 4).trans rfl
      have hm4 : W4.frozen? ⟨w.heap.size + 1, 4, none⟩ = false := blk_frozen HST.out.loc 4
      by_cases hov : k2 = l.length
      rotate_left
      · have HN : Aside0 (linePort l = none) := ⟨by simp only [linePort, E1.out, E2.out]; simp [hov]⟩
        have E3 := Aside0.mk hov
        clear hov
        go_wp2_with (first | (go_at_call 49; refine (line_over.no p A c l k2 _ HST.out.row E3.out).mono ?_; rintro e' w1 ⟨rfl, hk'⟩))
        exact ⟨rfl, .inr ⟨HN.out, rfl, HST.out.keep.trans hk'⟩⟩
      have HOV := Aside0.mk hov
      clear hov
      go_upto_region 35 with (first | (go_at_call 49; refine (line_over.ok p A c l k2 _ HST.out.row HOV.out).mono ?_; rintro e' w1 ⟨rfl, hp', hk'⟩; have n1 := Aside0.mk (HST.out.call hp' hk'); clear HST hp' hk'; clear h0 h1 hl0 hl1 hl2 hl3 hl4 hm0 hm1 hm2 hm3 hm4; have HST := n1; clear n1; have h0 : w1.cell? ⟨p, 0, none⟩ = some (.slice A l.length c) := (blk_cell HST.out.row 0).trans rfl; have h1 : w1.cell? ⟨p, 1, none⟩ = some (.int .i64 k2) := (blk_cell HST.out.row 1).trans rfl; have hl0 : w1.cell? ⟨w.heap.size + 1, 0, none⟩ = some (.int .i64 1) := (blk_cell HST.out.loc 0).trans rfl; have hm0 : w1.frozen? ⟨w.heap.size + 1, 0, none⟩ = false := blk_frozen HST.out.loc 0; have hl1 : w1.cell? ⟨w.heap.size + 1, 1, none⟩ = some (.int .i64 k1) := (blk_cell HST.out.loc 1).trans rfl; have hm1 : w1.frozen? ⟨w.heap.size + 1, 1, none⟩ = false := blk_frozen HST.out.loc 1; have hl2 : w1.cell? ⟨w.heap.size + 1, 2, none⟩ = some (.int .i64 k2) := (blk_cell HST.out.loc 2).trans rfl; have hm2 : w1.frozen? ⟨w.heap.size + 1, 2, none⟩ = false := blk_frozen HST.out.loc 2; have hl3 : w1.cell? ⟨w.heap.size + 1, 3, none⟩ = some (.int .u32 a1) := (blk_cell HST.out.loc 3).trans rfl; have hm3 : w1.frozen? ⟨w.heap.size + 1, 3, none⟩ = false := blk_frozen HST.out.loc 3; have hl4 : w1.cell? ⟨w.heap.size + 1, 4, none⟩ = some (.int .i64 qp) := (blk_cell HST.out.loc 4).trans rfl; have hm4 : w1.frozen? ⟨w.heap.size + 1, 4, none⟩ = false := blk_frozen HST.out.loc 4))
      obtain ⟨W5, hW⟩ : ∃ W, W = w1 := ⟨_, rfl⟩
      subst hW
      by_cases hq : 0 < qp
      · have q1 : decide (qp > 0) = true := decide_eq_true hq
        have HN : Aside0 (linePort l = some (1, k1, k2, a1, qp)) := ⟨by simp only [linePort, E1.out, E2.out]; simp [hq, HOV.out]⟩
        have q2 : decide (0 < qp) = true := decide_eq_true hq
        clear hq
        have hr0 : W5.cell? ⟨w.heap.size, 0, none⟩ = some (.int .i64 0) := (blk_cell HST.out.res 0).trans rfl
        have hs0 : W5.frozen? ⟨w.heap.size, 0, none⟩ = false := blk_frozen HST.out.res 0
        have hr1 : W5.cell? ⟨w.heap.size, 1, none⟩ = some (.int .i64 0) := (blk_cell HST.out.res 1).trans rfl
        have hs1 : W5.frozen? ⟨w.heap.size, 1, none⟩ = false := blk_frozen HST.out.res 1
        have hr2 : W5.cell? ⟨w.heap.size, 2, none⟩ = some (.int .i64 0) := (blk_cell HST.out.res 2).trans rfl
        have hs2 : W5.frozen? ⟨w.heap.size, 2, none⟩ = false := blk_frozen HST.out.res 2
        have hr3 : W5.cell? ⟨w.heap.size, 3, none⟩ = some (.int .u32 0) := (blk_cell HST.out.res 3).trans rfl
        have hs3 : W5.frozen? ⟨w.heap.size, 3, none⟩ = false := blk_frozen HST.out.res 3
        have hr4 : W5.cell? ⟨w.heap.size, 4, none⟩ = some (.int .i64 0) := (blk_cell HST.out.res 4).trans rfl
        have hs4 : W5.frozen? ⟨w.heap.size, 4, none⟩ = false := blk_frozen HST.out.res 4
        go_wp2_with (first | (go_at_call 53; refine (line_must.pass _).mono ?_; rintro e' w2 ⟨rfl, rfl⟩))
        refine bodyPost_ret (results_cell_row rfl _ _ w.heap.size 34 #[.int .i64 1, .int .i64 k1, .int .i64 k2, .int .u32 a1, .int .i64 qp] (0, 0) _ rfl (line_five HST.out.res) hu2 rfl (by kernel_rfl)) rfl ?_
        exact .inl ⟨_, _, _, _, _, HN.out, rfl, HST.out.fin _ _ _ _ _⟩
      · have q1 : decide (qp > 0) = false := decide_eq_false hq
        have q2 : decide (0 < qp) = false := decide_eq_false hq
        have HN : Aside0 (linePort l = none) := ⟨by simp only [linePort, E1.out, E2.out]; simp [hq]⟩
        clear hq
        go_wp2_with (first | (go_at_call 53; refine (line_must.gives _).mono ?_; rintro e' w2 ⟨rfl, rfl⟩))
        exact ⟨rfl, .inr ⟨HN.out, rfl, HST.out.keep⟩⟩
set_option maxHeartbeats 8000000 in
set_option maxRecDepth 100000 in
theorem line_line.eprt (p : Nat) (A : Option Addr) (c : Nat) (l : List Int) (w0 w : World) (h : w.heap[p]? = some (.cells #[.slice A l.length c, .int .i64 0] 69 (0, 0))) (hr : Kd.C (Kd.int .u8) w0 A l.length l)
    (hb : Below w0.heap.size w0 w) (hg : w0.heap.size ≤ p) :
    Calls Tryd.prog 32 #[.pointer (some ⟨p, 0, none⟩), .int .i64 2] w fun e w' => (∃ kd f t a q, lineEprt l = some (kd, f, t, a, q) ∧ e = .returned (.agg #[.int .i64 kd, .int .i64 (f : Nat), .int .i64 (t : Nat), .int .u32 a, .int .i64 q]) ∧ KeptP p w w') ∨ (lineEprt l = none ∧ e = .panicked oddP ∧ KeptP p w w') := by
  have hu := Tryd.underlying24
  have hu2 := Tryd.underlying34
  have HR := Aside0.mk hr
  have HB := Aside0.mk hb
  have HG := Aside0.mk hg
  obtain ⟨W0, hW0⟩ : ∃ W, W = (w.alloc (.cells #[.int .i64 0, .int .i64 0, .int .i64 0, .int .u32 0, .int .i64 0] 34 (0, 0))).alloc (.cells #[.int .i64 2, .int .i64 0, .int .i64 0, .int .u32 0, .int .i64 0] 34 (0, 0)) := ⟨_, rfl⟩
  have HST : Aside0 (LineSt p A c l w W0 0 #[.int .i64 2, .int .i64 0, .int .i64 0, .int .u32 0, .int .i64 0]) := ⟨by rw [hW0]; exact LineSt.new h _⟩
  have HW0 := Aside0.mk hW0
  clear hr hb hg h hW0
  go_enter Tryd.func32, Tryd.ntmps32
  go_upto_region 10 with (fail)
  rw [← HW0.out]
  have HZ : Aside0 (0 ≤ l.length) := ⟨Nat.zero_le _⟩
  have h0 : W0.cell? ⟨p, 0, none⟩ = some (.slice A l.length c) := (blk_cell HST.out.row 0).trans rfl
  have h1 : W0.cell? ⟨p, 1, none⟩ = some (.int .i64 0) := (blk_cell HST.out.row 1).trans rfl
  have hl0 : W0.cell? ⟨w.heap.size + 1, 0, none⟩ = some (.int .i64 2) := (blk_cell HST.out.loc 0).trans rfl
  have hm0 : W0.frozen? ⟨w.heap.size + 1, 0, none⟩ = false := blk_frozen HST.out.loc 0
  have hl1 : W0.cell? ⟨w.heap.size + 1, 1, none⟩ = some (.int .i64 0) := (blk_cell HST.out.loc 1).trans rfl
  have hm1 : W0.frozen? ⟨w.heap.size + 1, 1, none⟩ = false := blk_frozen HST.out.loc 1
  have hl2 : W0.cell? ⟨w.heap.size + 1, 2, none⟩ = some (.int .i64 0) := (blk_cell HST.out.loc 2).trans rfl
  have hm2 : W0.frozen? ⟨w.heap.size + 1, 2, none⟩ = false := blk_frozen HST.out.loc 2
  have hl3 : W0.cell? ⟨w.heap.size + 1, 3, none⟩ = some (.int .u32 0) := (blk_cell HST.out.loc 3).trans rfl
  have hm3 : W0.frozen? ⟨w.heap.size + 1, 3, none⟩ = false := blk_frozen HST.out.loc 3
  have hl4 : W0.cell? ⟨w.heap.size + 1, 4, none⟩ = some (.int .i64 0) := (blk_cell HST.out.loc 4).trans rfl
  have hm4 : W0.frozen? ⟨w.heap.size + 1, 4, none⟩ = false := blk_frozen HST.out.loc 4
  cases hs : lineSkip l [69, 80, 82, 84, 32] 0 with
  | none =>
    have E1 := Aside0.mk hs
    have HN : Aside0 (lineEprt l = none) := ⟨by simp only [lineEprt, E1.out]⟩
    clear hs
    go_wp2_with (first | (go_at_call 47; refine (line_skip.no p A c l ⟨#[69, 80, 82, 84, 32]⟩ 0 w0 _ HST.out.row HR.out (HST.out.keep.below HB.out HG.out) HG.out (by decide) (by rw [show bytesOf ⟨#[69, 80, 82, 84, 32]⟩ = [69, 80, 82, 84, 32] from by decide]; exact E1.out)).mono ?_; rintro e' w1 ⟨rfl, hk'⟩))
    exact ⟨rfl, .inr ⟨HN.out, rfl, HST.out.keep.trans hk'⟩⟩
  | some r1 =>
    obtain ⟨k1, hk⟩ : ∃ k1, k1 = r1 := ⟨_, rfl⟩
    rw [← hk] at hs
    clear hk
    have E1 := Aside0.mk hs
    have HK1 := Aside0.mk (lineSkip_le l [69, 80, 82, 84, 32] 0 k1 hs HZ.out)
    clear hs
    go_upto_region 11 with (first | (go_at_call 47; refine (line_skip.ok p A c l ⟨#[69, 80, 82, 84, 32]⟩ 0 k1 w0 _ HST.out.row HR.out (HST.out.keep.below HB.out HG.out) HG.out (by decide) (by rw [show bytesOf ⟨#[69, 80, 82, 84, 32]⟩ = [69, 80, 82, 84, 32] from by decide]; exact E1.out)).mono ?_; rintro e' w1 ⟨rfl, hp', hk'⟩; have n1 := Aside0.mk (HST.out.call hp' hk'); clear HST hp' hk'; clear h0 h1 hl0 hl1 hl2 hl3 hl4 hm0 hm1 hm2 hm3 hm4; have HST := n1; clear n1; have h0 : w1.cell? ⟨p, 0, none⟩ = some (.slice A l.length c) := (blk_cell HST.out.row 0).trans rfl; have h1 : w1.cell? ⟨p, 1, none⟩ = some (.int .i64 k1) := (blk_cell HST.out.row 1).trans rfl; have hl0 : w1.cell? ⟨w.heap.size + 1, 0, none⟩ = some (.int .i64 2) := (blk_cell HST.out.loc 0).trans rfl; have hm0 : w1.frozen? ⟨w.heap.size + 1, 0, none⟩ = false := blk_frozen HST.out.loc 0; have hl1 : w1.cell? ⟨w.heap.size + 1, 1, none⟩ = some (.int .i64 0) := (blk_cell HST.out.loc 1).trans rfl; have hm1 : w1.frozen? ⟨w.heap.size + 1, 1, none⟩ = false := blk_frozen HST.out.loc 1; have hl2 : w1.cell? ⟨w.heap.size + 1, 2, none⟩ = some (.int .i64 0) := (blk_cell HST.out.loc 2).trans rfl; have hm2 : w1.frozen? ⟨w.heap.size + 1, 2, none⟩ = false := blk_frozen HST.out.loc 2; have hl3 : w1.cell? ⟨w.heap.size + 1, 3, none⟩ = some (.int .u32 0) := (blk_cell HST.out.loc 3).trans rfl; have hm3 : w1.frozen? ⟨w.heap.size + 1, 3, none⟩ = false := blk_frozen HST.out.loc 3; have hl4 : w1.cell? ⟨w.heap.size + 1, 4, none⟩ = some (.int .i64 0) := (blk_cell HST.out.loc 4).trans rfl; have hm4 : w1.frozen? ⟨w.heap.size + 1, 4, none⟩ = false := blk_frozen HST.out.loc 4))
    obtain ⟨W1, hW⟩ : ∃ W, W = w1 := ⟨_, rfl⟩
    subst hW
    go_upto_region 12 with (fail)
    have n1 := Aside0.mk (HST.out.set 1 (.int .i64 k1) (cs' := #[.int .i64 2, .int .i64 k1, .int .i64 0, .int .u32 0, .int .i64 0]) rfl)
    clear h0 h1 hl0 hl1 hl2 hl3 hl4 hm0 hm1 hm2 hm3 hm4 HST
    have HST := n1
    clear n1
    generalize W1.setCell ⟨w.heap.size + 1, 1, none⟩ (.int .i64 k1) = W2 at HST ⊢
    have h0 : W2.cell? ⟨p, 0, none⟩ = some (.slice A l.length c) := (blk_cell HST.out.row 0).trans rfl
    have h1 : W2.cell? ⟨p, 1, none⟩ = some (.int .i64 k1) := (blk_cell HST.out.row 1).trans rfl
    have hl0 : W2.cell? ⟨w.heap.size + 1, 0, none⟩ = some (.int .i64 2) := (blk_cell HST.out.loc 0).trans rfl
    have hm0 : W2.frozen? ⟨w.heap.size + 1, 0, none⟩ = false := blk_frozen HST.out.loc 0
    have hl1 : W2.cell? ⟨w.heap.size + 1, 1, none⟩ = some (.int .i64 k1) := (blk_cell HST.out.loc 1).trans rfl
    have hm1 : W2.frozen? ⟨w.heap.size + 1, 1, none⟩ = false := blk_frozen HST.out.loc 1
    have hl2 : W2.cell? ⟨w.heap.size + 1, 2, none⟩ = some (.int .i64 0) := (blk_cell HST.out.loc 2).trans rfl
    have hm2 : W2.frozen? ⟨w.heap.size + 1, 2, none⟩ = false := blk_frozen HST.out.loc 2
    have hl3 : W2.cell? ⟨w.heap.size + 1, 3, none⟩ = some (.int .u32 0) := (blk_cell HST.out.loc 3).trans rfl
    have hm3 : W2.frozen? ⟨w.heap.size + 1, 3, none⟩ = false := blk_frozen HST.out.loc 3
    have hl4 : W2.cell? ⟨w.heap.size + 1, 4, none⟩ = some (.int .i64 0) := (blk_cell HST.out.loc 4).trans rfl
    have hm4 : W2.frozen? ⟨w.heap.size + 1, 4, none⟩ = false := blk_frozen HST.out.loc 4
    cases hs : lineSkip l [124, 49, 124] k1 with
    | none =>
      have E2 := Aside0.mk hs
      have HN : Aside0 (lineEprt l = none) := ⟨by simp only [lineEprt, E1.out, E2.out]⟩
      clear hs
      go_wp2_with (first | (go_at_call 47; refine (line_skip.no p A c l ⟨#[124, 49, 124]⟩ k1 w0 _ HST.out.row HR.out (HST.out.keep.below HB.out HG.out) HG.out (by decide) (by rw [show bytesOf ⟨#[124, 49, 124]⟩ = [124, 49, 124] from by decide]; exact E2.out)).mono ?_; rintro e' w1 ⟨rfl, hk'⟩))
      exact ⟨rfl, .inr ⟨HN.out, rfl, HST.out.keep.trans hk'⟩⟩
    | some r2 =>
      obtain ⟨k2, hk⟩ : ∃ k2, k2 = r2 := ⟨_, rfl⟩
      rw [← hk] at hs
      clear hk
      have E2 := Aside0.mk hs
      have HK2 := Aside0.mk (lineSkip_le l [124, 49, 124] k1 k2 hs HK1.out)
      clear hs
      go_upto_region 13 with (first | (go_at_call 47; refine (line_skip.ok p A c l ⟨#[124, 49, 124]⟩ k1 k2 w0 _ HST.out.row HR.out (HST.out.keep.below HB.out HG.out) HG.out (by decide) (by rw [show bytesOf ⟨#[124, 49, 124]⟩ = [124, 49, 124] from by decide]; exact E2.out)).mono ?_; rintro e' w1 ⟨rfl, hp', hk'⟩; have n1 := Aside0.mk (HST.out.call hp' hk'); clear HST hp' hk'; clear h0 h1 hl0 hl1 hl2 hl3 hl4 hm0 hm1 hm2 hm3 hm4; have HST := n1; clear n1; have h0 : w1.cell? ⟨p, 0, none⟩ = some (.slice A l.length c) := (blk_cell HST.out.row 0).trans rfl; have h1 : w1.cell? ⟨p, 1, none⟩ = some (.int .i64 k2) := (blk_cell HST.out.row 1).trans rfl; have hl0 : w1.cell? ⟨w.heap.size + 1, 0, none⟩ = some (.int .i64 2) := (blk_cell HST.out.loc 0).trans rfl; have hm0 : w1.frozen? ⟨w.heap.size + 1, 0, none⟩ = false := blk_frozen HST.out.loc 0; have hl1 : w1.cell? ⟨w.heap.size + 1, 1, none⟩ = some (.int .i64 k1) := (blk_cell HST.out.loc 1).trans rfl; have hm1 : w1.frozen? ⟨w.heap.size + 1, 1, none⟩ = false := blk_frozen HST.out.loc 1; have hl2 : w1.cell? ⟨w.heap.size + 1, 2, none⟩ = some (.int .i64 0) := (blk_cell HST.out.loc 2).trans rfl; have hm2 : w1.frozen? ⟨w.heap.size + 1, 2, none⟩ = false := blk_frozen HST.out.loc 2; have hl3 : w1.cell? ⟨w.heap.size + 1, 3, none⟩ = some (.int .u32 0) := (blk_cell HST.out.loc 3).trans rfl; have hm3 : w1.frozen? ⟨w.heap.size + 1, 3, none⟩ = false := blk_frozen HST.out.loc 3; have hl4 : w1.cell? ⟨w.heap.size + 1, 4, none⟩ = some (.int .i64 0) := (blk_cell HST.out.loc 4).trans rfl; have hm4 : w1.frozen? ⟨w.heap.size + 1, 4, none⟩ = false := blk_frozen HST.out.loc 4))
      obtain ⟨W3, hW⟩ : ∃ W, W = w1 := ⟨_, rfl⟩
      subst hW
      cases hs : lineBytes l [46] 4 true 0 k2 with
      | none =>
        have E3 := Aside0.mk hs
        have HN : Aside0 (lineEprt l = none) := ⟨by simp only [lineEprt, E1.out, E2.out, E3.out]⟩
        clear hs
        go_wp2_with (first | (go_at_call 50; refine (line_bytes.no p A c l 4 ⟨#[46]⟩ k2 w0 _ HST.out.row HR.out (HST.out.keep.below HB.out HG.out) HG.out HK2.out (by decide) (by decide) (by rw [show bytesOf ⟨#[46]⟩ = [46] from by decide]; exact E3.out)).mono ?_; rintro e' w1 ⟨rfl, hk'⟩))
        exact ⟨rfl, .inr ⟨HN.out, rfl, HST.out.keep.trans hk'⟩⟩
      | some r3 =>
        obtain ⟨a1, k3⟩ := r3
        have E3 := Aside0.mk hs
        have EB : Aside0 (lineBytes l (bytesOf ⟨#[46]⟩) 4 true 0 k2 = some (a1, k3)) := ⟨by rw [show bytesOf ⟨#[46]⟩ = [46] from by decide]; exact hs⟩
        clear hs
        go_upto_region 14 with (first | (go_at_call 50; refine (line_bytes.ok p A c l 4 ⟨#[46]⟩ a1 k2 k3 w0 _ HST.out.row HR.out (HST.out.keep.below HB.out HG.out) HG.out HK2.out (by decide) (by decide) EB.out).mono ?_; rintro e' w1 ⟨rfl, hkl, hx0, hx1, hp', hk'⟩; have HK3 := Aside0.mk hkl; have r1 : a1 % 4294967296 = a1 := (by omega); clear hkl hx0 hx1; have n1 := Aside0.mk (HST.out.call hp' hk'); clear HST hp' hk'; clear h0 h1 hl0 hl1 hl2 hl3 hl4 hm0 hm1 hm2 hm3 hm4; have HST := n1; clear n1; have h0 : w1.cell? ⟨p, 0, none⟩ = some (.slice A l.length c) := (blk_cell HST.out.row 0).trans rfl; have h1 : w1.cell? ⟨p, 1, none⟩ = some (.int .i64 k3) := (blk_cell HST.out.row 1).trans rfl; have hl0 : w1.cell? ⟨w.heap.size + 1, 0, none⟩ = some (.int .i64 2) := (blk_cell HST.out.loc 0).trans rfl; have hm0 : w1.frozen? ⟨w.heap.size + 1, 0, none⟩ = false := blk_frozen HST.out.loc 0; have hl1 : w1.cell? ⟨w.heap.size + 1, 1, none⟩ = some (.int .i64 k1) := (blk_cell HST.out.loc 1).trans rfl; have hm1 : w1.frozen? ⟨w.heap.size + 1, 1, none⟩ = false := blk_frozen HST.out.loc 1; have hl2 : w1.cell? ⟨w.heap.size + 1, 2, none⟩ = some (.int .i64 0) := (blk_cell HST.out.loc 2).trans rfl; have hm2 : w1.frozen? ⟨w.heap.size + 1, 2, none⟩ = false := blk_frozen HST.out.loc 2; have hl3 : w1.cell? ⟨w.heap.size + 1, 3, none⟩ = some (.int .u32 0) := (blk_cell HST.out.loc 3).trans rfl; have hm3 : w1.frozen? ⟨w.heap.size + 1, 3, none⟩ = false := blk_frozen HST.out.loc 3; have hl4 : w1.cell? ⟨w.heap.size + 1, 4, none⟩ = some (.int .i64 0) := (blk_cell HST.out.loc 4).trans rfl; have hm4 : w1.frozen? ⟨w.heap.size + 1, 4, none⟩ = false := blk_frozen HST.out.loc 4))
        have n1 := Aside0.mk (HST.out.set 3 (.int .u32 a1) (cs' := #[.int .i64 2, .int .i64 k1, .int .i64 0, .int .u32 a1, .int .i64 0]) rfl)
        clear HST
        have HST := n1
        clear n1
        clear h0 h1 hl0 hl1 hl2 hl3 hl4 hm0 hm1 hm2 hm3 hm4
        generalize (w1.setCell ⟨w.heap.size + 1, 3, none⟩ (.int .u32 a1)) = W4 at HST ⊢
        clear w1
        have h0 : W4.cell? ⟨p, 0, none⟩ = some (.slice A l.length c) := (blk_cell HST.out.row 0).trans rfl
        have h1 : W4.cell? ⟨p, 1, none⟩ = some (.int .i64 k3) := (blk_cell HST.out.row 1).trans rfl
        have hl0 : W4.cell? ⟨w.heap.size + 1, 0, none⟩ = some (.int .i64 2) := (blk_cell HST.out.loc 0).trans rfl
        have hm0 : W4.frozen? ⟨w.heap.size + 1, 0, none⟩ = false := blk_frozen HST.out.loc 0
        have hl1 : W4.cell? ⟨w.heap.size + 1, 1, none⟩ = some (.int .i64 k1) := (blk_cell HST.out.loc 1).trans rfl
        have hm1 : W4.frozen? ⟨w.heap.size + 1, 1, none⟩ = false := blk_frozen HST.out.loc 1
        have hl2 : W4.cell? ⟨w.heap.size + 1, 2, none⟩ = some (.int .i64 0) := (blk_cell HST.out.loc 2).trans rfl
        have hm2 : W4.frozen? ⟨w.heap.size + 1, 2, none⟩ = false := blk_frozen HST.out.loc 2
        have hl3 : W4.cell? ⟨w.heap.size + 1, 3, none⟩ = some (.int .u32 a1) := (blk_cell HST.out.loc 3).trans rfl
        have hm3 : W4.frozen? ⟨w.heap.size + 1, 3, none⟩ = false := blk_frozen HST.out.loc 3
        have hl4 : W4.cell? ⟨w.heap.size + 1, 4, none⟩ = some (.int .i64 0) := (blk_cell HST.out.loc 4).trans rfl
        have hm4 : W4.frozen? ⟨w.heap.size + 1, 4, none⟩ = false := blk_frozen HST.out.loc 4
        cases hs : lineSkip l [124] k3 with
        | none =>
          have E4 := Aside0.mk hs
          have HN : Aside0 (lineEprt l = none) := ⟨by simp only [lineEprt, E1.out, E2.out, E3.out, E4.out]⟩
          clear hs
          go_wp2_with (first | (go_at_call 47; refine (line_skip.no p A c l ⟨#[124]⟩ k3 w0 _ HST.out.row HR.out (HST.out.keep.below HB.out HG.out) HG.out (by decide) (by rw [show bytesOf ⟨#[124]⟩ = [124] from by decide]; exact E4.out)).mono ?_; rintro e' w1 ⟨rfl, hk'⟩))
          exact ⟨rfl, .inr ⟨HN.out, rfl, HST.out.keep.trans hk'⟩⟩
        | some r4 =>
          obtain ⟨k4, hk⟩ : ∃ k4, k4 = r4 := ⟨_, rfl⟩
          rw [← hk] at hs
          clear hk
          have E4 := Aside0.mk hs
          have HK4 := Aside0.mk (lineSkip_le l [124] k3 k4 hs HK3.out)
          clear hs
          go_upto_region 15 with (first | (go_at_call 47; refine (line_skip.ok p A c l ⟨#[124]⟩ k3 k4 w0 _ HST.out.row HR.out (HST.out.keep.below HB.out HG.out) HG.out (by decide) (by rw [show bytesOf ⟨#[124]⟩ = [124] from by decide]; exact E4.out)).mono ?_; rintro e' w1 ⟨rfl, hp', hk'⟩; have n1 := Aside0.mk (HST.out.call hp' hk'); clear HST hp' hk'; clear h0 h1 hl0 hl1 hl2 hl3 hl4 hm0 hm1 hm2 hm3 hm4; have HST := n1; clear n1; have h0 : w1.cell? ⟨p, 0, none⟩ = some (.slice A l.length c) := (blk_cell HST.out.row 0).trans rfl; have h1 : w1.cell? ⟨p, 1, none⟩ = some (.int .i64 k4) := (blk_cell HST.out.row 1).trans rfl; have hl0 : w1.cell? ⟨w.heap.size + 1, 0, none⟩ = some (.int .i64 2) := (blk_cell HST.out.loc 0).trans rfl; have hm0 : w1.frozen? ⟨w.heap.size + 1, 0, none⟩ = false := blk_frozen HST.out.loc 0; have hl1 : w1.cell? ⟨w.heap.size + 1, 1, none⟩ = some (.int .i64 k1) := (blk_cell HST.out.loc 1).trans rfl; have hm1 : w1.frozen? ⟨w.heap.size + 1, 1, none⟩ = false := blk_frozen HST.out.loc 1; have hl2 : w1.cell? ⟨w.heap.size + 1, 2, none⟩ = some (.int .i64 0) := (blk_cell HST.out.loc 2).trans rfl; have hm2 : w1.frozen? ⟨w.heap.size + 1, 2, none⟩ = false := blk_frozen HST.out.loc 2; have hl3 : w1.cell? ⟨w.heap.size + 1, 3, none⟩ = some (.int .u32 a1) := (blk_cell HST.out.loc 3).trans rfl; have hm3 : w1.frozen? ⟨w.heap.size + 1, 3, none⟩ = false := blk_frozen HST.out.loc 3; have hl4 : w1.cell? ⟨w.heap.size + 1, 4, none⟩ = some (.int .i64 0) := (blk_cell HST.out.loc 4).trans rfl; have hm4 : w1.frozen? ⟨w.heap.size + 1, 4, none⟩ = false := blk_frozen HST.out.loc 4))
          obtain ⟨W5, hW⟩ : ∃ W, W = w1 := ⟨_, rfl⟩
          subst hW
          cases hs : lineNumber l k4 5 65535 with
          | none =>
            have E5 := Aside0.mk hs
            have HN : Aside0 (lineEprt l = none) := ⟨by simp only [lineEprt, E1.out, E2.out, E3.out, E4.out, E5.out]⟩
            clear hs
            go_wp2_with (first | (go_at_call 51; refine (line_number.no p A c l 5 65535 k4 w0 _ HST.out.row HR.out (HST.out.keep.below HB.out HG.out) HG.out HK4.out (by decide) E5.out).mono ?_; rintro e' w1 ⟨rfl, hk'⟩))
            exact ⟨rfl, .inr ⟨HN.out, rfl, HST.out.keep.trans hk'⟩⟩
          | some r5 =>
            obtain ⟨qp, k5⟩ := r5
            have E5 := Aside0.mk hs
            clear hs
            go_upto_region 16 with (first | (go_at_call 51; refine (line_number.ok p A c l 5 65535 qp k4 k5 w0 _ HST.out.row HR.out (HST.out.keep.below HB.out HG.out) HG.out HK4.out (by decide) E5.out).mono ?_; rintro e' w1 ⟨rfl, hkl, hx0, hp', hk'⟩; have HK5 := Aside0.mk hkl; clear hkl hx0; have n1 := Aside0.mk (HST.out.call hp' hk'); clear HST hp' hk'; clear h0 h1 hl0 hl1 hl2 hl3 hl4 hm0 hm1 hm2 hm3 hm4; have HST := n1; clear n1; have h0 : w1.cell? ⟨p, 0, none⟩ = some (.slice A l.length c) := (blk_cell HST.out.row 0).trans rfl; have h1 : w1.cell? ⟨p, 1, none⟩ = some (.int .i64 k5) := (blk_cell HST.out.row 1).trans rfl; have hl0 : w1.cell? ⟨w.heap.size + 1, 0, none⟩ = some (.int .i64 2) := (blk_cell HST.out.loc 0).trans rfl; have hm0 : w1.frozen? ⟨w.heap.size + 1, 0, none⟩ = false := blk_frozen HST.out.loc 0; have hl1 : w1.cell? ⟨w.heap.size + 1, 1, none⟩ = some (.int .i64 k1) := (blk_cell HST.out.loc 1).trans rfl; have hm1 : w1.frozen? ⟨w.heap.size + 1, 1, none⟩ = false := blk_frozen HST.out.loc 1; have hl2 : w1.cell? ⟨w.heap.size + 1, 2, none⟩ = some (.int .i64 0) := (blk_cell HST.out.loc 2).trans rfl; have hm2 : w1.frozen? ⟨w.heap.size + 1, 2, none⟩ = false := blk_frozen HST.out.loc 2; have hl3 : w1.cell? ⟨w.heap.size + 1, 3, none⟩ = some (.int .u32 a1) := (blk_cell HST.out.loc 3).trans rfl; have hm3 : w1.frozen? ⟨w.heap.size + 1, 3, none⟩ = false := blk_frozen HST.out.loc 3; have hl4 : w1.cell? ⟨w.heap.size + 1, 4, none⟩ = some (.int .i64 0) := (blk_cell HST.out.loc 4).trans rfl; have hm4 : w1.frozen? ⟨w.heap.size + 1, 4, none⟩ = false := blk_frozen HST.out.loc 4))
            have n1 := Aside0.mk (HST.out.set 4 (.int .i64 qp) (cs' := #[.int .i64 2, .int .i64 k1, .int .i64 0, .int .u32 a1, .int .i64 qp]) rfl)
            clear HST
            have HST := n1
            clear n1
            clear h0 h1 hl0 hl1 hl2 hl3 hl4 hm0 hm1 hm2 hm3 hm4
            generalize (w1.setCell ⟨w.heap.size + 1, 4, none⟩ (.int .i64 qp)) = W6 at HST ⊢
            clear w1
            have h0 : W6.cell? ⟨p, 0, none⟩ = some (.slice A l.length c) := (blk_cell HST.out.row 0).trans rfl
            have h1 : W6.cell? ⟨p, 1, none⟩ = some (.int .i64 k5) := (blk_cell HST.out.row 1).trans rfl
            have hl0 : W6.cell? ⟨w.heap.size + 1, 0, none⟩ = some (.int .i64 2) := (blk_cell HST.out.loc 0).trans rfl
            have hm0 : W6.frozen? ⟨w.heap.size + 1, 0, none⟩ = false := blk_frozen HST.out.loc 0
            have hl1 : W6.cell? ⟨w.heap.size + 1, 1, none⟩ = some (.int .i64 k1) := (blk_cell HST.out.loc 1).trans rfl
            have hm1 : W6.frozen? ⟨w.heap.size + 1, 1, none⟩ = false := blk_frozen HST.out.loc 1
            have hl2 : W6.cell? ⟨w.heap.size + 1, 2, none⟩ = some (.int .i64 0) := (blk_cell HST.out.loc 2).trans rfl
            have hm2 : W6.frozen? ⟨w.heap.size + 1, 2, none⟩ = false := blk_frozen HST.out.loc 2
            have hl3 : W6.cell? ⟨w.heap.size + 1, 3, none⟩ = some (.int .u32 a1) := (blk_cell HST.out.loc 3).trans rfl
            have hm3 : W6.frozen? ⟨w.heap.size + 1, 3, none⟩ = false := blk_frozen HST.out.loc 3
            have hl4 : W6.cell? ⟨w.heap.size + 1, 4, none⟩ = some (.int .i64 qp) := (blk_cell HST.out.loc 4).trans rfl
            have hm4 : W6.frozen? ⟨w.heap.size + 1, 4, none⟩ = false := blk_frozen HST.out.loc 4
            cases hs : lineSkip l [124] k5 with
            | none =>
              have E6 := Aside0.mk hs
              have HN : Aside0 (lineEprt l = none) := ⟨by simp only [lineEprt, E1.out, E2.out, E3.out, E4.out, E5.out, E6.out]⟩
              clear hs
              go_wp2_with (first | (go_at_call 47; refine (line_skip.no p A c l ⟨#[124]⟩ k5 w0 _ HST.out.row HR.out (HST.out.keep.below HB.out HG.out) HG.out (by decide) (by rw [show bytesOf ⟨#[124]⟩ = [124] from by decide]; exact E6.out)).mono ?_; rintro e' w1 ⟨rfl, hk'⟩))
              exact ⟨rfl, .inr ⟨HN.out, rfl, HST.out.keep.trans hk'⟩⟩
            | some r6 =>
              obtain ⟨k6, hk⟩ : ∃ k6, k6 = r6 := ⟨_, rfl⟩
              rw [← hk] at hs
              clear hk
              have E6 := Aside0.mk hs
              have HK6 := Aside0.mk (lineSkip_le l [124] k5 k6 hs HK5.out)
              clear hs
              go_upto_region 17 with (first | (go_at_call 47; refine (line_skip.ok p A c l ⟨#[124]⟩ k5 k6 w0 _ HST.out.row HR.out (HST.out.keep.below HB.out HG.out) HG.out (by decide) (by rw [show bytesOf ⟨#[124]⟩ = [124] from by decide]; exact E6.out)).mono ?_; rintro e' w1 ⟨rfl, hp', hk'⟩; have n1 := Aside0.mk (HST.out.call hp' hk'); clear HST hp' hk'; clear h0 h1 hl0 hl1 hl2 hl3 hl4 hm0 hm1 hm2 hm3 hm4; have HST := n1; clear n1; have h0 : w1.cell? ⟨p, 0, none⟩ = some (.slice A l.length c) := (blk_cell HST.out.row 0).trans rfl; have h1 : w1.cell? ⟨p, 1, none⟩ = some (.int .i64 k6) := (blk_cell HST.out.row 1).trans rfl; have hl0 : w1.cell? ⟨w.heap.size + 1, 0, none⟩ = some (.int .i64 2) := (blk_cell HST.out.loc 0).trans rfl; have hm0 : w1.frozen? ⟨w.heap.size + 1, 0, none⟩ = false := blk_frozen HST.out.loc 0; have hl1 : w1.cell? ⟨w.heap.size + 1, 1, none⟩ = some (.int .i64 k1) := (blk_cell HST.out.loc 1).trans rfl; have hm1 : w1.frozen? ⟨w.heap.size + 1, 1, none⟩ = false := blk_frozen HST.out.loc 1; have hl2 : w1.cell? ⟨w.heap.size + 1, 2, none⟩ = some (.int .i64 0) := (blk_cell HST.out.loc 2).trans rfl; have hm2 : w1.frozen? ⟨w.heap.size + 1, 2, none⟩ = false := blk_frozen HST.out.loc 2; have hl3 : w1.cell? ⟨w.heap.size + 1, 3, none⟩ = some (.int .u32 a1) := (blk_cell HST.out.loc 3).trans rfl; have hm3 : w1.frozen? ⟨w.heap.size + 1, 3, none⟩ = false := blk_frozen HST.out.loc 3; have hl4 : w1.cell? ⟨w.heap.size + 1, 4, none⟩ = some (.int .i64 qp) := (blk_cell HST.out.loc 4).trans rfl; have hm4 : w1.frozen? ⟨w.heap.size + 1, 4, none⟩ = false := blk_frozen HST.out.loc 4))
              obtain ⟨W7, hW⟩ : ∃ W, W = w1 := ⟨_, rfl⟩
              subst hW
              go_upto_region 18 with (fail)
              have n1 := Aside0.mk (HST.out.set 2 (.int .i64 k6) (cs' := #[.int .i64 2, .int .i64 k1, .int .i64 k6, .int .u32 a1, .int .i64 qp]) rfl)
              clear h0 h1 hl0 hl1 hl2 hl3 hl4 hm0 hm1 hm2 hm3 hm4 HST
              have HST := n1
              clear n1
              generalize W7.setCell ⟨w.heap.size + 1, 2, none⟩ (.int .i64 k6) = W8 at HST ⊢
              have h0 : W8.cell? ⟨p, 0, none⟩ = some (.slice A l.length c) := (blk_cell HST.out.row 0).trans rfl
              have h1 : W8.cell? ⟨p, 1, none⟩ = some (.int .i64 k6) := (blk_cell HST.out.row 1).trans rfl
              have hl0 : W8.cell? ⟨w.heap.size + 1, 0, none⟩ = some (.int .i64 2) := (blk_cell HST.out.loc 0).trans rfl
              have hm0 : W8.frozen? ⟨w.heap.size + 1, 0, none⟩ = false := blk_frozen HST.out.loc 0
              have hl1 : W8.cell? ⟨w.heap.size + 1, 1, none⟩ = some (.int .i64 k1) := (blk_cell HST.out.loc 1).trans rfl
              have hm1 : W8.frozen? ⟨w.heap.size + 1, 1, none⟩ = false := blk_frozen HST.out.loc 1
              have hl2 : W8.cell? ⟨w.heap.size + 1, 2, none⟩ = some (.int .i64 k6) := (blk_cell HST.out.loc 2).trans rfl
              have hm2 : W8.frozen? ⟨w.heap.size + 1, 2, none⟩ = false := blk_frozen HST.out.loc 2
              have hl3 : W8.cell? ⟨w.heap.size + 1, 3, none⟩ = some (.int .u32 a1) := (blk_cell HST.out.loc 3).trans rfl
              have hm3 : W8.frozen? ⟨w.heap.size + 1, 3, none⟩ = false := blk_frozen HST.out.loc 3
              have hl4 : W8.cell? ⟨w.heap.size + 1, 4, none⟩ = some (.int .i64 qp) := (blk_cell HST.out.loc 4).trans rfl
              have hm4 : W8.frozen? ⟨w.heap.size + 1, 4, none⟩ = false := blk_frozen HST.out.loc 4
              by_cases hov : k6 = l.length
              rotate_left
              · have HN : Aside0 (lineEprt l = none) := ⟨by simp only [lineEprt, E1.out, E2.out, E3.out, E4.out, E5.out, E6.out]; simp [hov]⟩
                have E7 := Aside0.mk hov
                clear hov
                go_wp2_with (first | (go_at_call 49; refine (line_over.no p A c l k6 _ HST.out.row E7.out).mono ?_; rintro e' w1 ⟨rfl, hk'⟩))
                exact ⟨rfl, .inr ⟨HN.out, rfl, HST.out.keep.trans hk'⟩⟩
              have HOV := Aside0.mk hov
              clear hov
              go_upto_region 35 with (first | (go_at_call 49; refine (line_over.ok p A c l k6 _ HST.out.row HOV.out).mono ?_; rintro e' w1 ⟨rfl, hp', hk'⟩; have n1 := Aside0.mk (HST.out.call hp' hk'); clear HST hp' hk'; clear h0 h1 hl0 hl1 hl2 hl3 hl4 hm0 hm1 hm2 hm3 hm4; have HST := n1; clear n1; have h0 : w1.cell? ⟨p, 0, none⟩ = some (.slice A l.length c) := (blk_cell HST.out.row 0).trans rfl; have h1 : w1.cell? ⟨p, 1, none⟩ = some (.int .i64 k6) := (blk_cell HST.out.row 1).trans rfl; have hl0 : w1.cell? ⟨w.heap.size + 1, 0, none⟩ = some (.int .i64 2) := (blk_cell HST.out.loc 0).trans rfl; have hm0 : w1.frozen? ⟨w.heap.size + 1, 0, none⟩ = false := blk_frozen HST.out.loc 0; have hl1 : w1.cell? ⟨w.heap.size + 1, 1, none⟩ = some (.int .i64 k1) := (blk_cell HST.out.loc 1).trans rfl; have hm1 : w1.frozen? ⟨w.heap.size + 1, 1, none⟩ = false := blk_frozen HST.out.loc 1; have hl2 : w1.cell? ⟨w.heap.size + 1, 2, none⟩ = some (.int .i64 k6) := (blk_cell HST.out.loc 2).trans rfl; have hm2 : w1.frozen? ⟨w.heap.size + 1, 2, none⟩ = false := blk_frozen HST.out.loc 2; have hl3 : w1.cell? ⟨w.heap.size + 1, 3, none⟩ = some (.int .u32 a1) := (blk_cell HST.out.loc 3).trans rfl; have hm3 : w1.frozen? ⟨w.heap.size + 1, 3, none⟩ = false := blk_frozen HST.out.loc 3; have hl4 : w1.cell? ⟨w.heap.size + 1, 4, none⟩ = some (.int .i64 qp) := (blk_cell HST.out.loc 4).trans rfl; have hm4 : w1.frozen? ⟨w.heap.size + 1, 4, none⟩ = false := blk_frozen HST.out.loc 4))
              obtain ⟨W9, hW⟩ : ∃ W, W = w1 := ⟨_, rfl⟩
              subst hW
              by_cases hq : 0 < qp
              · have q1 : decide (qp > 0) = true := decide_eq_true hq
                have HN : Aside0 (lineEprt l = some (2, k1, k6, a1, qp)) := ⟨by simp only [lineEprt, E1.out, E2.out, E3.out, E4.out, E5.out, E6.out]; simp [hq, HOV.out]⟩
                have q2 : decide (0 < qp) = true := decide_eq_true hq
                clear hq
                have hr0 : W9.cell? ⟨w.heap.size, 0, none⟩ = some (.int .i64 0) := (blk_cell HST.out.res 0).trans rfl
                have hs0 : W9.frozen? ⟨w.heap.size, 0, none⟩ = false := blk_frozen HST.out.res 0
                have hr1 : W9.cell? ⟨w.heap.size, 1, none⟩ = some (.int .i64 0) := (blk_cell HST.out.res 1).trans rfl
                have hs1 : W9.frozen? ⟨w.heap.size, 1, none⟩ = false := blk_frozen HST.out.res 1
                have hr2 : W9.cell? ⟨w.heap.size, 2, none⟩ = some (.int .i64 0) := (blk_cell HST.out.res 2).trans rfl
                have hs2 : W9.frozen? ⟨w.heap.size, 2, none⟩ = false := blk_frozen HST.out.res 2
                have hr3 : W9.cell? ⟨w.heap.size, 3, none⟩ = some (.int .u32 0) := (blk_cell HST.out.res 3).trans rfl
                have hs3 : W9.frozen? ⟨w.heap.size, 3, none⟩ = false := blk_frozen HST.out.res 3
                have hr4 : W9.cell? ⟨w.heap.size, 4, none⟩ = some (.int .i64 0) := (blk_cell HST.out.res 4).trans rfl
                have hs4 : W9.frozen? ⟨w.heap.size, 4, none⟩ = false := blk_frozen HST.out.res 4
                go_wp2_with (first | (go_at_call 53; refine (line_must.pass _).mono ?_; rintro e' w2 ⟨rfl, rfl⟩))
                refine bodyPost_ret (results_cell_row rfl _ _ w.heap.size 34 #[.int .i64 2, .int .i64 k1, .int .i64 k6, .int .u32 a1, .int .i64 qp] (0, 0) _ rfl (line_five HST.out.res) hu2 rfl (by kernel_rfl)) rfl ?_
                exact .inl ⟨_, _, _, _, _, HN.out, rfl, HST.out.fin _ _ _ _ _⟩
              · have q1 : decide (qp > 0) = false := decide_eq_false hq
                have q2 : decide (0 < qp) = false := decide_eq_false hq
                have HN : Aside0 (lineEprt l = none) := ⟨by simp only [lineEprt, E1.out, E2.out, E3.out, E4.out, E5.out, E6.out]; simp [hq]⟩
                clear hq
                go_wp2_with (first | (go_at_call 53; refine (line_must.gives _).mono ?_; rintro e' w2 ⟨rfl, rfl⟩))
                exact ⟨rfl, .inr ⟨HN.out, rfl, HST.out.keep⟩⟩
set_option maxHeartbeats 8000000 in
set_option maxRecDepth 100000 in
theorem line_line.pasv (p : Nat) (A : Option Addr) (c : Nat) (l : List Int) (w0 w : World) (h : w.heap[p]? = some (.cells #[.slice A l.length c, .int .i64 0] 69 (0, 0))) (hr : Kd.C (Kd.int .u8) w0 A l.length l)
    (hb : Below w0.heap.size w0 w) (hg : w0.heap.size ≤ p) :
    Calls Tryd.prog 32 #[.pointer (some ⟨p, 0, none⟩), .int .i64 3] w fun e w' => (∃ kd f t a q, linePasv l = some (kd, f, t, a, q) ∧ e = .returned (.agg #[.int .i64 kd, .int .i64 (f : Nat), .int .i64 (t : Nat), .int .u32 a, .int .i64 q]) ∧ KeptP p w w') ∨ (linePasv l = none ∧ e = .panicked oddP ∧ KeptP p w w') := by
  have hu := Tryd.underlying24
  have hu2 := Tryd.underlying34
  have HR := Aside0.mk hr
  have HB := Aside0.mk hb
  have HG := Aside0.mk hg
  obtain ⟨W0, hW0⟩ : ∃ W, W = (w.alloc (.cells #[.int .i64 0, .int .i64 0, .int .i64 0, .int .u32 0, .int .i64 0] 34 (0, 0))).alloc (.cells #[.int .i64 3, .int .i64 0, .int .i64 0, .int .u32 0, .int .i64 0] 34 (0, 0)) := ⟨_, rfl⟩
  have HST : Aside0 (LineSt p A c l w W0 0 #[.int .i64 3, .int .i64 0, .int .i64 0, .int .u32 0, .int .i64 0]) := ⟨by rw [hW0]; exact LineSt.new h _⟩
  have HW0 := Aside0.mk hW0
  clear hr hb hg h hW0
  go_enter Tryd.func32, Tryd.ntmps32
  go_upto_region 20 with (fail)
  rw [← HW0.out]
  have HZ : Aside0 (0 ≤ l.length) := ⟨Nat.zero_le _⟩
  have h0 : W0.cell? ⟨p, 0, none⟩ = some (.slice A l.length c) := (blk_cell HST.out.row 0).trans rfl
  have h1 : W0.cell? ⟨p, 1, none⟩ = some (.int .i64 0) := (blk_cell HST.out.row 1).trans rfl
  have hl0 : W0.cell? ⟨w.heap.size + 1, 0, none⟩ = some (.int .i64 3) := (blk_cell HST.out.loc 0).trans rfl
  have hm0 : W0.frozen? ⟨w.heap.size + 1, 0, none⟩ = false := blk_frozen HST.out.loc 0
  have hl1 : W0.cell? ⟨w.heap.size + 1, 1, none⟩ = some (.int .i64 0) := (blk_cell HST.out.loc 1).trans rfl
  have hm1 : W0.frozen? ⟨w.heap.size + 1, 1, none⟩ = false := blk_frozen HST.out.loc 1
  have hl2 : W0.cell? ⟨w.heap.size + 1, 2, none⟩ = some (.int .i64 0) := (blk_cell HST.out.loc 2).trans rfl
  have hm2 : W0.frozen? ⟨w.heap.size + 1, 2, none⟩ = false := blk_frozen HST.out.loc 2
  have hl3 : W0.cell? ⟨w.heap.size + 1, 3, none⟩ = some (.int .u32 0) := (blk_cell HST.out.loc 3).trans rfl
  have hm3 : W0.frozen? ⟨w.heap.size + 1, 3, none⟩ = false := blk_frozen HST.out.loc 3
  have hl4 : W0.cell? ⟨w.heap.size + 1, 4, none⟩ = some (.int .i64 0) := (blk_cell HST.out.loc 4).trans rfl
  have hm4 : W0.frozen? ⟨w.heap.size + 1, 4, none⟩ = false := blk_frozen HST.out.loc 4
  cases hs : lineSkip l [50, 50, 55, 32] 0 with
  | none =>
    have E1 := Aside0.mk hs
    have HN : Aside0 (linePasv l = none) := ⟨by simp only [linePasv, E1.out]⟩
    clear hs
    go_wp2_with (first | (go_at_call 47; refine (line_skip.no p A c l ⟨#[50, 50, 55, 32]⟩ 0 w0 _ HST.out.row HR.out (HST.out.keep.below HB.out HG.out) HG.out (by decide) (by rw [show bytesOf ⟨#[50, 50, 55, 32]⟩ = [50, 50, 55, 32] from by decide]; exact E1.out)).mono ?_; rintro e' w1 ⟨rfl, hk'⟩))
    exact ⟨rfl, .inr ⟨HN.out, rfl, HST.out.keep.trans hk'⟩⟩
  | some r1 =>
    obtain ⟨k1, hk⟩ : ∃ k1, k1 = r1 := ⟨_, rfl⟩
    rw [← hk] at hs
    clear hk
    have E1 := Aside0.mk hs
    have HK1 := Aside0.mk (lineSkip_le l [50, 50, 55, 32] 0 k1 hs HZ.out)
    clear hs
    go_upto_region 21 with (first | (go_at_call 47; refine (line_skip.ok p A c l ⟨#[50, 50, 55, 32]⟩ 0 k1 w0 _ HST.out.row HR.out (HST.out.keep.below HB.out HG.out) HG.out (by decide) (by rw [show bytesOf ⟨#[50, 50, 55, 32]⟩ = [50, 50, 55, 32] from by decide]; exact E1.out)).mono ?_; rintro e' w1 ⟨rfl, hp', hk'⟩; have n1 := Aside0.mk (HST.out.call hp' hk'); clear HST hp' hk'; clear h0 h1 hl0 hl1 hl2 hl3 hl4 hm0 hm1 hm2 hm3 hm4; have HST := n1; clear n1; have h0 : w1.cell? ⟨p, 0, none⟩ = some (.slice A l.length c) := (blk_cell HST.out.row 0).trans rfl; have h1 : w1.cell? ⟨p, 1, none⟩ = some (.int .i64 k1) := (blk_cell HST.out.row 1).trans rfl; have hl0 : w1.cell? ⟨w.heap.size + 1, 0, none⟩ = some (.int .i64 3) := (blk_cell HST.out.loc 0).trans rfl; have hm0 : w1.frozen? ⟨w.heap.size + 1, 0, none⟩ = false := blk_frozen HST.out.loc 0; have hl1 : w1.cell? ⟨w.heap.size + 1, 1, none⟩ = some (.int .i64 0) := (blk_cell HST.out.loc 1).trans rfl; have hm1 : w1.frozen? ⟨w.heap.size + 1, 1, none⟩ = false := blk_frozen HST.out.loc 1; have hl2 : w1.cell? ⟨w.heap.size + 1, 2, none⟩ = some (.int .i64 0) := (blk_cell HST.out.loc 2).trans rfl; have hm2 : w1.frozen? ⟨w.heap.size + 1, 2, none⟩ = false := blk_frozen HST.out.loc 2; have hl3 : w1.cell? ⟨w.heap.size + 1, 3, none⟩ = some (.int .u32 0) := (blk_cell HST.out.loc 3).trans rfl; have hm3 : w1.frozen? ⟨w.heap.size + 1, 3, none⟩ = false := blk_frozen HST.out.loc 3; have hl4 : w1.cell? ⟨w.heap.size + 1, 4, none⟩ = some (.int .i64 0) := (blk_cell HST.out.loc 4).trans rfl; have hm4 : w1.frozen? ⟨w.heap.size + 1, 4, none⟩ = false := blk_frozen HST.out.loc 4))
    obtain ⟨W1, hW⟩ : ∃ W, W = w1 := ⟨_, rfl⟩
    subst hW
    cases hs : lineOpen (l.drop k1) k1 with
    | none =>
      have E2 := Aside0.mk hs
      have HN : Aside0 (linePasv l = none) := ⟨by simp only [linePasv, E1.out, E2.out]⟩
      clear hs
      go_wp2_with (first | (go_at_call 52; refine (line_open.no p A c l k1 w0 _ HST.out.row HR.out (HST.out.keep.below HB.out HG.out) HG.out HK1.out E2.out).mono ?_; rintro e' w1 ⟨rfl, hk'⟩))
      exact ⟨rfl, .inr ⟨HN.out, rfl, HST.out.keep.trans hk'⟩⟩
    | some r2 =>
      obtain ⟨k2, hk⟩ : ∃ k2, k2 = r2 := ⟨_, rfl⟩
      rw [← hk] at hs
      clear hk
      have E2 := Aside0.mk hs
      clear hs
      go_upto_region 22 with (first | (go_at_call 52; refine (line_open.ok p A c l k1 k2 w0 _ HST.out.row HR.out (HST.out.keep.below HB.out HG.out) HG.out HK1.out E2.out).mono ?_; rintro e' w1 ⟨rfl, hkl, hp', hk'⟩; have HK2 := Aside0.mk hkl; clear hkl; have n1 := Aside0.mk (HST.out.call hp' hk'); clear HST hp' hk'; clear h0 h1 hl0 hl1 hl2 hl3 hl4 hm0 hm1 hm2 hm3 hm4; have HST := n1; clear n1; have h0 : w1.cell? ⟨p, 0, none⟩ = some (.slice A l.length c) := (blk_cell HST.out.row 0).trans rfl; have h1 : w1.cell? ⟨p, 1, none⟩ = some (.int .i64 k2) := (blk_cell HST.out.row 1).trans rfl; have hl0 : w1.cell? ⟨w.heap.size + 1, 0, none⟩ = some (.int .i64 3) := (blk_cell HST.out.loc 0).trans rfl; have hm0 : w1.frozen? ⟨w.heap.size + 1, 0, none⟩ = false := blk_frozen HST.out.loc 0; have hl1 : w1.cell? ⟨w.heap.size + 1, 1, none⟩ = some (.int .i64 0) := (blk_cell HST.out.loc 1).trans rfl; have hm1 : w1.frozen? ⟨w.heap.size + 1, 1, none⟩ = false := blk_frozen HST.out.loc 1; have hl2 : w1.cell? ⟨w.heap.size + 1, 2, none⟩ = some (.int .i64 0) := (blk_cell HST.out.loc 2).trans rfl; have hm2 : w1.frozen? ⟨w.heap.size + 1, 2, none⟩ = false := blk_frozen HST.out.loc 2; have hl3 : w1.cell? ⟨w.heap.size + 1, 3, none⟩ = some (.int .u32 0) := (blk_cell HST.out.loc 3).trans rfl; have hm3 : w1.frozen? ⟨w.heap.size + 1, 3, none⟩ = false := blk_frozen HST.out.loc 3; have hl4 : w1.cell? ⟨w.heap.size + 1, 4, none⟩ = some (.int .i64 0) := (blk_cell HST.out.loc 4).trans rfl; have hm4 : w1.frozen? ⟨w.heap.size + 1, 4, none⟩ = false := blk_frozen HST.out.loc 4))
      obtain ⟨W2, hW⟩ : ∃ W, W = w1 := ⟨_, rfl⟩
      subst hW
      go_upto_region 23 with (fail)
      have n1 := Aside0.mk (HST.out.set 1 (.int .i64 k2) (cs' := #[.int .i64 3, .int .i64 k2, .int .i64 0, .int .u32 0, .int .i64 0]) rfl)
      clear h0 h1 hl0 hl1 hl2 hl3 hl4 hm0 hm1 hm2 hm3 hm4 HST
      have HST := n1
      clear n1
      generalize W2.setCell ⟨w.heap.size + 1, 1, none⟩ (.int .i64 k2) = W3 at HST ⊢
      have h0 : W3.cell? ⟨p, 0, none⟩ = some (.slice A l.length c) := (blk_cell HST.out.row 0).trans rfl
      have h1 : W3.cell? ⟨p, 1, none⟩ = some (.int .i64 k2) := (blk_cell HST.out.row 1).trans rfl
      have hl0 : W3.cell? ⟨w.heap.size + 1, 0, none⟩ = some (.int .i64 3) := (blk_cell HST.out.loc 0).trans rfl
      have hm0 : W3.frozen? ⟨w.heap.size + 1, 0, none⟩ = false := blk_frozen HST.out.loc 0
      have hl1 : W3.cell? ⟨w.heap.size + 1, 1, none⟩ = some (.int .i64 k2) := (blk_cell HST.out.loc 1).trans rfl
      have hm1 : W3.frozen? ⟨w.heap.size + 1, 1, none⟩ = false := blk_frozen HST.out.loc 1
      have hl2 : W3.cell? ⟨w.heap.size + 1, 2, none⟩ = some (.int .i64 0) := (blk_cell HST.out.loc 2).trans rfl
      have hm2 : W3.frozen? ⟨w.heap.size + 1, 2, none⟩ = false := blk_frozen HST.out.loc 2
      have hl3 : W3.cell? ⟨w.heap.size + 1, 3, none⟩ = some (.int .u32 0) := (blk_cell HST.out.loc 3).trans rfl
      have hm3 : W3.frozen? ⟨w.heap.size + 1, 3, none⟩ = false := blk_frozen HST.out.loc 3
      have hl4 : W3.cell? ⟨w.heap.size + 1, 4, none⟩ = some (.int .i64 0) := (blk_cell HST.out.loc 4).trans rfl
      have hm4 : W3.frozen? ⟨w.heap.size + 1, 4, none⟩ = false := blk_frozen HST.out.loc 4
      cases hs : lineSix l k2 with
      | none =>
        have E3 := Aside0.mk hs
        have HN : Aside0 (linePasv l = none) := ⟨by simp only [linePasv, E1.out, E2.out, E3.out]⟩
        clear hs
        go_wp2_with (first | (go_at_call 48; refine (line_six.no p A c l k2 w0 _ HST.out.row HR.out (HST.out.keep.below HB.out HG.out) HG.out HK2.out E3.out).mono ?_; rintro e' w1 ⟨rfl, hk'⟩))
        exact ⟨rfl, .inr ⟨HN.out, rfl, HST.out.keep.trans hk'⟩⟩
      | some r3 =>
        obtain ⟨a1, qp, k3⟩ := r3
        have E3 := Aside0.mk hs
        clear hs
        go_upto_region 24 with (first | (go_at_call 48; refine (line_six.ok p A c l a1 qp k2 k3 w0 _ HST.out.row HR.out (HST.out.keep.below HB.out HG.out) HG.out HK2.out E3.out).mono ?_; rintro e' w1 ⟨rfl, hkl, hp', hk'⟩; have HK3 := Aside0.mk hkl; clear hkl; have n1 := Aside0.mk (HST.out.call hp' hk'); clear HST hp' hk'; clear h0 h1 hl0 hl1 hl2 hl3 hl4 hm0 hm1 hm2 hm3 hm4; have HST := n1; clear n1; have h0 : w1.cell? ⟨p, 0, none⟩ = some (.slice A l.length c) := (blk_cell HST.out.row 0).trans rfl; have h1 : w1.cell? ⟨p, 1, none⟩ = some (.int .i64 k3) := (blk_cell HST.out.row 1).trans rfl; have hl0 : w1.cell? ⟨w.heap.size + 1, 0, none⟩ = some (.int .i64 3) := (blk_cell HST.out.loc 0).trans rfl; have hm0 : w1.frozen? ⟨w.heap.size + 1, 0, none⟩ = false := blk_frozen HST.out.loc 0; have hl1 : w1.cell? ⟨w.heap.size + 1, 1, none⟩ = some (.int .i64 k2) := (blk_cell HST.out.loc 1).trans rfl; have hm1 : w1.frozen? ⟨w.heap.size + 1, 1, none⟩ = false := blk_frozen HST.out.loc 1; have hl2 : w1.cell? ⟨w.heap.size + 1, 2, none⟩ = some (.int .i64 0) := (blk_cell HST.out.loc 2).trans rfl; have hm2 : w1.frozen? ⟨w.heap.size + 1, 2, none⟩ = false := blk_frozen HST.out.loc 2; have hl3 : w1.cell? ⟨w.heap.size + 1, 3, none⟩ = some (.int .u32 0) := (blk_cell HST.out.loc 3).trans rfl; have hm3 : w1.frozen? ⟨w.heap.size + 1, 3, none⟩ = false := blk_frozen HST.out.loc 3; have hl4 : w1.cell? ⟨w.heap.size + 1, 4, none⟩ = some (.int .i64 0) := (blk_cell HST.out.loc 4).trans rfl; have hm4 : w1.frozen? ⟨w.heap.size + 1, 4, none⟩ = false := blk_frozen HST.out.loc 4))
        have n1 := Aside0.mk (HST.out.set 3 (.int .u32 a1) (cs' := #[.int .i64 3, .int .i64 k2, .int .i64 0, .int .u32 a1, .int .i64 0]) rfl)
        clear HST
        have HST := n1
        clear n1
        have n1 := Aside0.mk (HST.out.set 4 (.int .i64 qp) (cs' := #[.int .i64 3, .int .i64 k2, .int .i64 0, .int .u32 a1, .int .i64 qp]) rfl)
        clear HST
        have HST := n1
        clear n1
        clear h0 h1 hl0 hl1 hl2 hl3 hl4 hm0 hm1 hm2 hm3 hm4
        generalize ((w1.setCell ⟨w.heap.size + 1, 3, none⟩ (.int .u32 a1)).setCell ⟨w.heap.size + 1, 4, none⟩ (.int .i64 qp)) = W4 at HST ⊢
        clear w1
        have h0 : W4.cell? ⟨p, 0, none⟩ = some (.slice A l.length c) := (blk_cell HST.out.row 0).trans rfl
        have h1 : W4.cell? ⟨p, 1, none⟩ = some (.int .i64 k3) := (blk_cell HST.out.row 1).trans rfl
        have hl0 : W4.cell? ⟨w.heap.size + 1, 0, none⟩ = some (.int .i64 3) := (blk_cell HST.out.loc 0).trans rfl
        have hm0 : W4.frozen? ⟨w.heap.size + 1, 0, none⟩ = false := blk_frozen HST.out.loc 0
        have hl1 : W4.cell? ⟨w.heap.size + 1, 1, none⟩ = some (.int .i64 k2) := (blk_cell HST.out.loc 1).trans rfl
        have hm1 : W4.frozen? ⟨w.heap.size + 1, 1, none⟩ = false := blk_frozen HST.out.loc 1
        have hl2 : W4.cell? ⟨w.heap.size + 1, 2, none⟩ = some (.int .i64 0) := (blk_cell HST.out.loc 2).trans rfl
        have hm2 : W4.frozen? ⟨w.heap.size + 1, 2, none⟩ = false := blk_frozen HST.out.loc 2
        have hl3 : W4.cell? ⟨w.heap.size + 1, 3, none⟩ = some (.int .u32 a1) := (blk_cell HST.out.loc 3).trans rfl
        have hm3 : W4.frozen? ⟨w.heap.size + 1, 3, none⟩ = false := blk_frozen HST.out.loc 3
        have hl4 : W4.cell? ⟨w.heap.size + 1, 4, none⟩ = some (.int .i64 qp) := (blk_cell HST.out.loc 4).trans rfl
        have hm4 : W4.frozen? ⟨w.heap.size + 1, 4, none⟩ = false := blk_frozen HST.out.loc 4
        go_upto_region 25 with (fail)
        have n1 := Aside0.mk (HST.out.set 2 (.int .i64 k3) (cs' := #[.int .i64 3, .int .i64 k2, .int .i64 k3, .int .u32 a1, .int .i64 qp]) rfl)
        clear h0 h1 hl0 hl1 hl2 hl3 hl4 hm0 hm1 hm2 hm3 hm4 HST
        have HST := n1
        clear n1
        generalize W4.setCell ⟨w.heap.size + 1, 2, none⟩ (.int .i64 k3) = W5 at HST ⊢
        have h0 : W5.cell? ⟨p, 0, none⟩ = some (.slice A l.length c) := (blk_cell HST.out.row 0).trans rfl
        have h1 : W5.cell? ⟨p, 1, none⟩ = some (.int .i64 k3) := (blk_cell HST.out.row 1).trans rfl
        have hl0 : W5.cell? ⟨w.heap.size + 1, 0, none⟩ = some (.int .i64 3) := (blk_cell HST.out.loc 0).trans rfl
        have hm0 : W5.frozen? ⟨w.heap.size + 1, 0, none⟩ = false := blk_frozen HST.out.loc 0
        have hl1 : W5.cell? ⟨w.heap.size + 1, 1, none⟩ = some (.int .i64 k2) := (blk_cell HST.out.loc 1).trans rfl
        have hm1 : W5.frozen? ⟨w.heap.size + 1, 1, none⟩ = false := blk_frozen HST.out.loc 1
        have hl2 : W5.cell? ⟨w.heap.size + 1, 2, none⟩ = some (.int .i64 k3) := (blk_cell HST.out.loc 2).trans rfl
        have hm2 : W5.frozen? ⟨w.heap.size + 1, 2, none⟩ = false := blk_frozen HST.out.loc 2
        have hl3 : W5.cell? ⟨w.heap.size + 1, 3, none⟩ = some (.int .u32 a1) := (blk_cell HST.out.loc 3).trans rfl
        have hm3 : W5.frozen? ⟨w.heap.size + 1, 3, none⟩ = false := blk_frozen HST.out.loc 3
        have hl4 : W5.cell? ⟨w.heap.size + 1, 4, none⟩ = some (.int .i64 qp) := (blk_cell HST.out.loc 4).trans rfl
        have hm4 : W5.frozen? ⟨w.heap.size + 1, 4, none⟩ = false := blk_frozen HST.out.loc 4
        cases hs : lineSkip l [41] k3 with
        | none =>
          have E4 := Aside0.mk hs
          have HN : Aside0 (linePasv l = none) := ⟨by simp only [linePasv, E1.out, E2.out, E3.out, E4.out]⟩
          clear hs
          go_wp2_with (first | (go_at_call 47; refine (line_skip.no p A c l ⟨#[41]⟩ k3 w0 _ HST.out.row HR.out (HST.out.keep.below HB.out HG.out) HG.out (by decide) (by rw [show bytesOf ⟨#[41]⟩ = [41] from by decide]; exact E4.out)).mono ?_; rintro e' w1 ⟨rfl, hk'⟩))
          exact ⟨rfl, .inr ⟨HN.out, rfl, HST.out.keep.trans hk'⟩⟩
        | some r4 =>
          obtain ⟨k4, hk⟩ : ∃ k4, k4 = r4 := ⟨_, rfl⟩
          rw [← hk] at hs
          clear hk
          have E4 := Aside0.mk hs
          have HK4 := Aside0.mk (lineSkip_le l [41] k3 k4 hs HK3.out)
          clear hs
          go_upto_region 35 with (first | (go_at_call 47; refine (line_skip.ok p A c l ⟨#[41]⟩ k3 k4 w0 _ HST.out.row HR.out (HST.out.keep.below HB.out HG.out) HG.out (by decide) (by rw [show bytesOf ⟨#[41]⟩ = [41] from by decide]; exact E4.out)).mono ?_; rintro e' w1 ⟨rfl, hp', hk'⟩; have n1 := Aside0.mk (HST.out.call hp' hk'); clear HST hp' hk'; clear h0 h1 hl0 hl1 hl2 hl3 hl4 hm0 hm1 hm2 hm3 hm4; have HST := n1; clear n1; have h0 : w1.cell? ⟨p, 0, none⟩ = some (.slice A l.length c) := (blk_cell HST.out.row 0).trans rfl; have h1 : w1.cell? ⟨p, 1, none⟩ = some (.int .i64 k4) := (blk_cell HST.out.row 1).trans rfl; have hl0 : w1.cell? ⟨w.heap.size + 1, 0, none⟩ = some (.int .i64 3) := (blk_cell HST.out.loc 0).trans rfl; have hm0 : w1.frozen? ⟨w.heap.size + 1, 0, none⟩ = false := blk_frozen HST.out.loc 0; have hl1 : w1.cell? ⟨w.heap.size + 1, 1, none⟩ = some (.int .i64 k2) := (blk_cell HST.out.loc 1).trans rfl; have hm1 : w1.frozen? ⟨w.heap.size + 1, 1, none⟩ = false := blk_frozen HST.out.loc 1; have hl2 : w1.cell? ⟨w.heap.size + 1, 2, none⟩ = some (.int .i64 k3) := (blk_cell HST.out.loc 2).trans rfl; have hm2 : w1.frozen? ⟨w.heap.size + 1, 2, none⟩ = false := blk_frozen HST.out.loc 2; have hl3 : w1.cell? ⟨w.heap.size + 1, 3, none⟩ = some (.int .u32 a1) := (blk_cell HST.out.loc 3).trans rfl; have hm3 : w1.frozen? ⟨w.heap.size + 1, 3, none⟩ = false := blk_frozen HST.out.loc 3; have hl4 : w1.cell? ⟨w.heap.size + 1, 4, none⟩ = some (.int .i64 qp) := (blk_cell HST.out.loc 4).trans rfl; have hm4 : w1.frozen? ⟨w.heap.size + 1, 4, none⟩ = false := blk_frozen HST.out.loc 4))
          obtain ⟨W6, hW⟩ : ∃ W, W = w1 := ⟨_, rfl⟩
          subst hW
          by_cases hq : 0 < qp
          · have q1 : decide (qp > 0) = true := decide_eq_true hq
            have HN : Aside0 (linePasv l = some (3, k2, k3, a1, qp)) := ⟨by simp only [linePasv, E1.out, E2.out, E3.out, E4.out]; simp [hq]⟩
            have q2 : decide (0 < qp) = true := decide_eq_true hq
            clear hq
            have hr0 : W6.cell? ⟨w.heap.size, 0, none⟩ = some (.int .i64 0) := (blk_cell HST.out.res 0).trans rfl
            have hs0 : W6.frozen? ⟨w.heap.size, 0, none⟩ = false := blk_frozen HST.out.res 0
            have hr1 : W6.cell? ⟨w.heap.size, 1, none⟩ = some (.int .i64 0) := (blk_cell HST.out.res 1).trans rfl
            have hs1 : W6.frozen? ⟨w.heap.size, 1, none⟩ = false := blk_frozen HST.out.res 1
            have hr2 : W6.cell? ⟨w.heap.size, 2, none⟩ = some (.int .i64 0) := (blk_cell HST.out.res 2).trans rfl
            have hs2 : W6.frozen? ⟨w.heap.size, 2, none⟩ = false := blk_frozen HST.out.res 2
            have hr3 : W6.cell? ⟨w.heap.size, 3, none⟩ = some (.int .u32 0) := (blk_cell HST.out.res 3).trans rfl
            have hs3 : W6.frozen? ⟨w.heap.size, 3, none⟩ = false := blk_frozen HST.out.res 3
            have hr4 : W6.cell? ⟨w.heap.size, 4, none⟩ = some (.int .i64 0) := (blk_cell HST.out.res 4).trans rfl
            have hs4 : W6.frozen? ⟨w.heap.size, 4, none⟩ = false := blk_frozen HST.out.res 4
            go_wp2_with (first | (go_at_call 53; refine (line_must.pass _).mono ?_; rintro e' w2 ⟨rfl, rfl⟩))
            refine bodyPost_ret (results_cell_row rfl _ _ w.heap.size 34 #[.int .i64 3, .int .i64 k2, .int .i64 k3, .int .u32 a1, .int .i64 qp] (0, 0) _ rfl (line_five HST.out.res) hu2 rfl (by kernel_rfl)) rfl ?_
            exact .inl ⟨_, _, _, _, _, HN.out, rfl, HST.out.fin _ _ _ _ _⟩
          · have q1 : decide (qp > 0) = false := decide_eq_false hq
            have q2 : decide (0 < qp) = false := decide_eq_false hq
            have HN : Aside0 (linePasv l = none) := ⟨by simp only [linePasv, E1.out, E2.out, E3.out, E4.out]; simp [hq]⟩
            clear hq
            go_wp2_with (first | (go_at_call 53; refine (line_must.gives _).mono ?_; rintro e' w2 ⟨rfl, rfl⟩))
            exact ⟨rfl, .inr ⟨HN.out, rfl, HST.out.keep⟩⟩
set_option maxHeartbeats 8000000 in
set_option maxRecDepth 100000 in
theorem line_line.epsv (p : Nat) (A : Option Addr) (c : Nat) (l : List Int) (w0 w : World) (h : w.heap[p]? = some (.cells #[.slice A l.length c, .int .i64 0] 69 (0, 0))) (hr : Kd.C (Kd.int .u8) w0 A l.length l)
    (hb : Below w0.heap.size w0 w) (hg : w0.heap.size ≤ p) :
    Calls Tryd.prog 32 #[.pointer (some ⟨p, 0, none⟩), .int .i64 4] w fun e w' => (∃ kd f t a q, lineEpsv l = some (kd, f, t, a, q) ∧ e = .returned (.agg #[.int .i64 kd, .int .i64 (f : Nat), .int .i64 (t : Nat), .int .u32 a, .int .i64 q]) ∧ KeptP p w w') ∨ (lineEpsv l = none ∧ e = .panicked oddP ∧ KeptP p w w') := by
  have hu := Tryd.underlying24
  have hu2 := Tryd.underlying34
  have HR := Aside0.mk hr
  have HB := Aside0.mk hb
  have HG := Aside0.mk hg
  obtain ⟨W0, hW0⟩ : ∃ W, W = (w.alloc (.cells #[.int .i64 0, .int .i64 0, .int .i64 0, .int .u32 0, .int .i64 0] 34 (0, 0))).alloc (.cells #[.int .i64 4, .int .i64 0, .int .i64 0, .int .u32 0, .int .i64 0] 34 (0, 0)) := ⟨_, rfl⟩
  have HST : Aside0 (LineSt p A c l w W0 0 #[.int .i64 4, .int .i64 0, .int .i64 0, .int .u32 0, .int .i64 0]) := ⟨by rw [hW0]; exact LineSt.new h _⟩
  have HW0 := Aside0.mk hW0
  clear hr hb hg h hW0
  go_enter Tryd.func32, Tryd.ntmps32
  go_upto_region 27 with (fail)
  rw [← HW0.out]
  have HZ : Aside0 (0 ≤ l.length) := ⟨Nat.zero_le _⟩
  have h0 : W0.cell? ⟨p, 0, none⟩ = some (.slice A l.length c) := (blk_cell HST.out.row 0).trans rfl
  have h1 : W0.cell? ⟨p, 1, none⟩ = some (.int .i64 0) := (blk_cell HST.out.row 1).trans rfl
  have hl0 : W0.cell? ⟨w.heap.size + 1, 0, none⟩ = some (.int .i64 4) := (blk_cell HST.out.loc 0).trans rfl
  have hm0 : W0.frozen? ⟨w.heap.size + 1, 0, none⟩ = false := blk_frozen HST.out.loc 0
  have hl1 : W0.cell? ⟨w.heap.size + 1, 1, none⟩ = some (.int .i64 0) := (blk_cell HST.out.loc 1).trans rfl
  have hm1 : W0.frozen? ⟨w.heap.size + 1, 1, none⟩ = false := blk_frozen HST.out.loc 1
  have hl2 : W0.cell? ⟨w.heap.size + 1, 2, none⟩ = some (.int .i64 0) := (blk_cell HST.out.loc 2).trans rfl
  have hm2 : W0.frozen? ⟨w.heap.size + 1, 2, none⟩ = false := blk_frozen HST.out.loc 2
  have hl3 : W0.cell? ⟨w.heap.size + 1, 3, none⟩ = some (.int .u32 0) := (blk_cell HST.out.loc 3).trans rfl
  have hm3 : W0.frozen? ⟨w.heap.size + 1, 3, none⟩ = false := blk_frozen HST.out.loc 3
  have hl4 : W0.cell? ⟨w.heap.size + 1, 4, none⟩ = some (.int .i64 0) := (blk_cell HST.out.loc 4).trans rfl
  have hm4 : W0.frozen? ⟨w.heap.size + 1, 4, none⟩ = false := blk_frozen HST.out.loc 4
  cases hs : lineSkip l [50, 50, 57, 32] 0 with
  | none =>
    have E1 := Aside0.mk hs
    have HN : Aside0 (lineEpsv l = none) := ⟨by simp only [lineEpsv, E1.out]⟩
    clear hs
    go_wp2_with (first | (go_at_call 47; refine (line_skip.no p A c l ⟨#[50, 50, 57, 32]⟩ 0 w0 _ HST.out.row HR.out (HST.out.keep.below HB.out HG.out) HG.out (by decide) (by rw [show bytesOf ⟨#[50, 50, 57, 32]⟩ = [50, 50, 57, 32] from by decide]; exact E1.out)).mono ?_; rintro e' w1 ⟨rfl, hk'⟩))
    exact ⟨rfl, .inr ⟨HN.out, rfl, HST.out.keep.trans hk'⟩⟩
  | some r1 =>
    obtain ⟨k1, hk⟩ : ∃ k1, k1 = r1 := ⟨_, rfl⟩
    rw [← hk] at hs
    clear hk
    have E1 := Aside0.mk hs
    have HK1 := Aside0.mk (lineSkip_le l [50, 50, 57, 32] 0 k1 hs HZ.out)
    clear hs
    go_upto_region 28 with (first | (go_at_call 47; refine (line_skip.ok p A c l ⟨#[50, 50, 57, 32]⟩ 0 k1 w0 _ HST.out.row HR.out (HST.out.keep.below HB.out HG.out) HG.out (by decide) (by rw [show bytesOf ⟨#[50, 50, 57, 32]⟩ = [50, 50, 57, 32] from by decide]; exact E1.out)).mono ?_; rintro e' w1 ⟨rfl, hp', hk'⟩; have n1 := Aside0.mk (HST.out.call hp' hk'); clear HST hp' hk'; clear h0 h1 hl0 hl1 hl2 hl3 hl4 hm0 hm1 hm2 hm3 hm4; have HST := n1; clear n1; have h0 : w1.cell? ⟨p, 0, none⟩ = some (.slice A l.length c) := (blk_cell HST.out.row 0).trans rfl; have h1 : w1.cell? ⟨p, 1, none⟩ = some (.int .i64 k1) := (blk_cell HST.out.row 1).trans rfl; have hl0 : w1.cell? ⟨w.heap.size + 1, 0, none⟩ = some (.int .i64 4) := (blk_cell HST.out.loc 0).trans rfl; have hm0 : w1.frozen? ⟨w.heap.size + 1, 0, none⟩ = false := blk_frozen HST.out.loc 0; have hl1 : w1.cell? ⟨w.heap.size + 1, 1, none⟩ = some (.int .i64 0) := (blk_cell HST.out.loc 1).trans rfl; have hm1 : w1.frozen? ⟨w.heap.size + 1, 1, none⟩ = false := blk_frozen HST.out.loc 1; have hl2 : w1.cell? ⟨w.heap.size + 1, 2, none⟩ = some (.int .i64 0) := (blk_cell HST.out.loc 2).trans rfl; have hm2 : w1.frozen? ⟨w.heap.size + 1, 2, none⟩ = false := blk_frozen HST.out.loc 2; have hl3 : w1.cell? ⟨w.heap.size + 1, 3, none⟩ = some (.int .u32 0) := (blk_cell HST.out.loc 3).trans rfl; have hm3 : w1.frozen? ⟨w.heap.size + 1, 3, none⟩ = false := blk_frozen HST.out.loc 3; have hl4 : w1.cell? ⟨w.heap.size + 1, 4, none⟩ = some (.int .i64 0) := (blk_cell HST.out.loc 4).trans rfl; have hm4 : w1.frozen? ⟨w.heap.size + 1, 4, none⟩ = false := blk_frozen HST.out.loc 4))
    obtain ⟨W1, hW⟩ : ∃ W, W = w1 := ⟨_, rfl⟩
    subst hW
    cases hs : lineOpen (l.drop k1) k1 with
    | none =>
      have E2 := Aside0.mk hs
      have HN : Aside0 (lineEpsv l = none) := ⟨by simp only [lineEpsv, E1.out, E2.out]⟩
      clear hs
      go_wp2_with (first | (go_at_call 52; refine (line_open.no p A c l k1 w0 _ HST.out.row HR.out (HST.out.keep.below HB.out HG.out) HG.out HK1.out E2.out).mono ?_; rintro e' w1 ⟨rfl, hk'⟩))
      exact ⟨rfl, .inr ⟨HN.out, rfl, HST.out.keep.trans hk'⟩⟩
    | some r2 =>
      obtain ⟨k2, hk⟩ : ∃ k2, k2 = r2 := ⟨_, rfl⟩
      rw [← hk] at hs
      clear hk
      have E2 := Aside0.mk hs
      clear hs
      go_upto_region 29 with (first | (go_at_call 52; refine (line_open.ok p A c l k1 k2 w0 _ HST.out.row HR.out (HST.out.keep.below HB.out HG.out) HG.out HK1.out E2.out).mono ?_; rintro e' w1 ⟨rfl, hkl, hp', hk'⟩; have HK2 := Aside0.mk hkl; clear hkl; have n1 := Aside0.mk (HST.out.call hp' hk'); clear HST hp' hk'; clear h0 h1 hl0 hl1 hl2 hl3 hl4 hm0 hm1 hm2 hm3 hm4; have HST := n1; clear n1; have h0 : w1.cell? ⟨p, 0, none⟩ = some (.slice A l.length c) := (blk_cell HST.out.row 0).trans rfl; have h1 : w1.cell? ⟨p, 1, none⟩ = some (.int .i64 k2) := (blk_cell HST.out.row 1).trans rfl; have hl0 : w1.cell? ⟨w.heap.size + 1, 0, none⟩ = some (.int .i64 4) := (blk_cell HST.out.loc 0).trans rfl; have hm0 : w1.frozen? ⟨w.heap.size + 1, 0, none⟩ = false := blk_frozen HST.out.loc 0; have hl1 : w1.cell? ⟨w.heap.size + 1, 1, none⟩ = some (.int .i64 0) := (blk_cell HST.out.loc 1).trans rfl; have hm1 : w1.frozen? ⟨w.heap.size + 1, 1, none⟩ = false := blk_frozen HST.out.loc 1; have hl2 : w1.cell? ⟨w.heap.size + 1, 2, none⟩ = some (.int .i64 0) := (blk_cell HST.out.loc 2).trans rfl; have hm2 : w1.frozen? ⟨w.heap.size + 1, 2, none⟩ = false := blk_frozen HST.out.loc 2; have hl3 : w1.cell? ⟨w.heap.size + 1, 3, none⟩ = some (.int .u32 0) := (blk_cell HST.out.loc 3).trans rfl; have hm3 : w1.frozen? ⟨w.heap.size + 1, 3, none⟩ = false := blk_frozen HST.out.loc 3; have hl4 : w1.cell? ⟨w.heap.size + 1, 4, none⟩ = some (.int .i64 0) := (blk_cell HST.out.loc 4).trans rfl; have hm4 : w1.frozen? ⟨w.heap.size + 1, 4, none⟩ = false := blk_frozen HST.out.loc 4))
      obtain ⟨W2, hW⟩ : ∃ W, W = w1 := ⟨_, rfl⟩
      subst hW
      go_upto_region 30 with (fail)
      have n1 := Aside0.mk (HST.out.set 1 (.int .i64 k2) (cs' := #[.int .i64 4, .int .i64 k2, .int .i64 0, .int .u32 0, .int .i64 0]) rfl)
      clear h0 h1 hl0 hl1 hl2 hl3 hl4 hm0 hm1 hm2 hm3 hm4 HST
      have HST := n1
      clear n1
      generalize W2.setCell ⟨w.heap.size + 1, 1, none⟩ (.int .i64 k2) = W3 at HST ⊢
      have h0 : W3.cell? ⟨p, 0, none⟩ = some (.slice A l.length c) := (blk_cell HST.out.row 0).trans rfl
      have h1 : W3.cell? ⟨p, 1, none⟩ = some (.int .i64 k2) := (blk_cell HST.out.row 1).trans rfl
      have hl0 : W3.cell? ⟨w.heap.size + 1, 0, none⟩ = some (.int .i64 4) := (blk_cell HST.out.loc 0).trans rfl
      have hm0 : W3.frozen? ⟨w.heap.size + 1, 0, none⟩ = false := blk_frozen HST.out.loc 0
      have hl1 : W3.cell? ⟨w.heap.size + 1, 1, none⟩ = some (.int .i64 k2) := (blk_cell HST.out.loc 1).trans rfl
      have hm1 : W3.frozen? ⟨w.heap.size + 1, 1, none⟩ = false := blk_frozen HST.out.loc 1
      have hl2 : W3.cell? ⟨w.heap.size + 1, 2, none⟩ = some (.int .i64 0) := (blk_cell HST.out.loc 2).trans rfl
      have hm2 : W3.frozen? ⟨w.heap.size + 1, 2, none⟩ = false := blk_frozen HST.out.loc 2
      have hl3 : W3.cell? ⟨w.heap.size + 1, 3, none⟩ = some (.int .u32 0) := (blk_cell HST.out.loc 3).trans rfl
      have hm3 : W3.frozen? ⟨w.heap.size + 1, 3, none⟩ = false := blk_frozen HST.out.loc 3
      have hl4 : W3.cell? ⟨w.heap.size + 1, 4, none⟩ = some (.int .i64 0) := (blk_cell HST.out.loc 4).trans rfl
      have hm4 : W3.frozen? ⟨w.heap.size + 1, 4, none⟩ = false := blk_frozen HST.out.loc 4
      cases hs : lineSkip l [124, 124, 124] k2 with
      | none =>
        have E3 := Aside0.mk hs
        have HN : Aside0 (lineEpsv l = none) := ⟨by simp only [lineEpsv, E1.out, E2.out, E3.out]⟩
        clear hs
        go_wp2_with (first | (go_at_call 47; refine (line_skip.no p A c l ⟨#[124, 124, 124]⟩ k2 w0 _ HST.out.row HR.out (HST.out.keep.below HB.out HG.out) HG.out (by decide) (by rw [show bytesOf ⟨#[124, 124, 124]⟩ = [124, 124, 124] from by decide]; exact E3.out)).mono ?_; rintro e' w1 ⟨rfl, hk'⟩))
        exact ⟨rfl, .inr ⟨HN.out, rfl, HST.out.keep.trans hk'⟩⟩
      | some r3 =>
        obtain ⟨k3, hk⟩ : ∃ k3, k3 = r3 := ⟨_, rfl⟩
        rw [← hk] at hs
        clear hk
        have E3 := Aside0.mk hs
        have HK3 := Aside0.mk (lineSkip_le l [124, 124, 124] k2 k3 hs HK2.out)
        clear hs
        go_upto_region 31 with (first | (go_at_call 47; refine (line_skip.ok p A c l ⟨#[124, 124, 124]⟩ k2 k3 w0 _ HST.out.row HR.out (HST.out.keep.below HB.out HG.out) HG.out (by decide) (by rw [show bytesOf ⟨#[124, 124, 124]⟩ = [124, 124, 124] from by decide]; exact E3.out)).mono ?_; rintro e' w1 ⟨rfl, hp', hk'⟩; have n1 := Aside0.mk (HST.out.call hp' hk'); clear HST hp' hk'; clear h0 h1 hl0 hl1 hl2 hl3 hl4 hm0 hm1 hm2 hm3 hm4; have HST := n1; clear n1; have h0 : w1.cell? ⟨p, 0, none⟩ = some (.slice A l.length c) := (blk_cell HST.out.row 0).trans rfl; have h1 : w1.cell? ⟨p, 1, none⟩ = some (.int .i64 k3) := (blk_cell HST.out.row 1).trans rfl; have hl0 : w1.cell? ⟨w.heap.size + 1, 0, none⟩ = some (.int .i64 4) := (blk_cell HST.out.loc 0).trans rfl; have hm0 : w1.frozen? ⟨w.heap.size + 1, 0, none⟩ = false := blk_frozen HST.out.loc 0; have hl1 : w1.cell? ⟨w.heap.size + 1, 1, none⟩ = some (.int .i64 k2) := (blk_cell HST.out.loc 1).trans rfl; have hm1 : w1.frozen? ⟨w.heap.size + 1, 1, none⟩ = false := blk_frozen HST.out.loc 1; have hl2 : w1.cell? ⟨w.heap.size + 1, 2, none⟩ = some (.int .i64 0) := (blk_cell HST.out.loc 2).trans rfl; have hm2 : w1.frozen? ⟨w.heap.size + 1, 2, none⟩ = false := blk_frozen HST.out.loc 2; have hl3 : w1.cell? ⟨w.heap.size + 1, 3, none⟩ = some (.int .u32 0) := (blk_cell HST.out.loc 3).trans rfl; have hm3 : w1.frozen? ⟨w.heap.size + 1, 3, none⟩ = false := blk_frozen HST.out.loc 3; have hl4 : w1.cell? ⟨w.heap.size + 1, 4, none⟩ = some (.int .i64 0) := (blk_cell HST.out.loc 4).trans rfl; have hm4 : w1.frozen? ⟨w.heap.size + 1, 4, none⟩ = false := blk_frozen HST.out.loc 4))
        obtain ⟨W4, hW⟩ : ∃ W, W = w1 := ⟨_, rfl⟩
        subst hW
        cases hs : lineNumber l k3 5 65535 with
        | none =>
          have E4 := Aside0.mk hs
          have HN : Aside0 (lineEpsv l = none) := ⟨by simp only [lineEpsv, E1.out, E2.out, E3.out, E4.out]⟩
          clear hs
          go_wp2_with (first | (go_at_call 51; refine (line_number.no p A c l 5 65535 k3 w0 _ HST.out.row HR.out (HST.out.keep.below HB.out HG.out) HG.out HK3.out (by decide) E4.out).mono ?_; rintro e' w1 ⟨rfl, hk'⟩))
          exact ⟨rfl, .inr ⟨HN.out, rfl, HST.out.keep.trans hk'⟩⟩
        | some r4 =>
          obtain ⟨qp, k4⟩ := r4
          have E4 := Aside0.mk hs
          clear hs
          go_upto_region 32 with (first | (go_at_call 51; refine (line_number.ok p A c l 5 65535 qp k3 k4 w0 _ HST.out.row HR.out (HST.out.keep.below HB.out HG.out) HG.out HK3.out (by decide) E4.out).mono ?_; rintro e' w1 ⟨rfl, hkl, hx0, hp', hk'⟩; have HK4 := Aside0.mk hkl; clear hkl hx0; have n1 := Aside0.mk (HST.out.call hp' hk'); clear HST hp' hk'; clear h0 h1 hl0 hl1 hl2 hl3 hl4 hm0 hm1 hm2 hm3 hm4; have HST := n1; clear n1; have h0 : w1.cell? ⟨p, 0, none⟩ = some (.slice A l.length c) := (blk_cell HST.out.row 0).trans rfl; have h1 : w1.cell? ⟨p, 1, none⟩ = some (.int .i64 k4) := (blk_cell HST.out.row 1).trans rfl; have hl0 : w1.cell? ⟨w.heap.size + 1, 0, none⟩ = some (.int .i64 4) := (blk_cell HST.out.loc 0).trans rfl; have hm0 : w1.frozen? ⟨w.heap.size + 1, 0, none⟩ = false := blk_frozen HST.out.loc 0; have hl1 : w1.cell? ⟨w.heap.size + 1, 1, none⟩ = some (.int .i64 k2) := (blk_cell HST.out.loc 1).trans rfl; have hm1 : w1.frozen? ⟨w.heap.size + 1, 1, none⟩ = false := blk_frozen HST.out.loc 1; have hl2 : w1.cell? ⟨w.heap.size + 1, 2, none⟩ = some (.int .i64 0) := (blk_cell HST.out.loc 2).trans rfl; have hm2 : w1.frozen? ⟨w.heap.size + 1, 2, none⟩ = false := blk_frozen HST.out.loc 2; have hl3 : w1.cell? ⟨w.heap.size + 1, 3, none⟩ = some (.int .u32 0) := (blk_cell HST.out.loc 3).trans rfl; have hm3 : w1.frozen? ⟨w.heap.size + 1, 3, none⟩ = false := blk_frozen HST.out.loc 3; have hl4 : w1.cell? ⟨w.heap.size + 1, 4, none⟩ = some (.int .i64 0) := (blk_cell HST.out.loc 4).trans rfl; have hm4 : w1.frozen? ⟨w.heap.size + 1, 4, none⟩ = false := blk_frozen HST.out.loc 4))
          have n1 := Aside0.mk (HST.out.set 4 (.int .i64 qp) (cs' := #[.int .i64 4, .int .i64 k2, .int .i64 0, .int .u32 0, .int .i64 qp]) rfl)
          clear HST
          have HST := n1
          clear n1
          clear h0 h1 hl0 hl1 hl2 hl3 hl4 hm0 hm1 hm2 hm3 hm4
          generalize (w1.setCell ⟨w.heap.size + 1, 4, none⟩ (.int .i64 qp)) = W5 at HST ⊢
          clear w1
          have h0 : W5.cell? ⟨p, 0, none⟩ = some (.slice A l.length c) := (blk_cell HST.out.row 0).trans rfl
          have h1 : W5.cell? ⟨p, 1, none⟩ = some (.int .i64 k4) := (blk_cell HST.out.row 1).trans rfl
          have hl0 : W5.cell? ⟨w.heap.size + 1, 0, none⟩ = some (.int .i64 4) := (blk_cell HST.out.loc 0).trans rfl
          have hm0 : W5.frozen? ⟨w.heap.size + 1, 0, none⟩ = false := blk_frozen HST.out.loc 0
          have hl1 : W5.cell? ⟨w.heap.size + 1, 1, none⟩ = some (.int .i64 k2) := (blk_cell HST.out.loc 1).trans rfl
          have hm1 : W5.frozen? ⟨w.heap.size + 1, 1, none⟩ = false := blk_frozen HST.out.loc 1
          have hl2 : W5.cell? ⟨w.heap.size + 1, 2, none⟩ = some (.int .i64 0) := (blk_cell HST.out.loc 2).trans rfl
          have hm2 : W5.frozen? ⟨w.heap.size + 1, 2, none⟩ = false := blk_frozen HST.out.loc 2
          have hl3 : W5.cell? ⟨w.heap.size + 1, 3, none⟩ = some (.int .u32 0) := (blk_cell HST.out.loc 3).trans rfl
          have hm3 : W5.frozen? ⟨w.heap.size + 1, 3, none⟩ = false := blk_frozen HST.out.loc 3
          have hl4 : W5.cell? ⟨w.heap.size + 1, 4, none⟩ = some (.int .i64 qp) := (blk_cell HST.out.loc 4).trans rfl
          have hm4 : W5.frozen? ⟨w.heap.size + 1, 4, none⟩ = false := blk_frozen HST.out.loc 4
          cases hs : lineSkip l [124] k4 with
          | none =>
            have E5 := Aside0.mk hs
            have HN : Aside0 (lineEpsv l = none) := ⟨by simp only [lineEpsv, E1.out, E2.out, E3.out, E4.out, E5.out]⟩
            clear hs
            go_wp2_with (first | (go_at_call 47; refine (line_skip.no p A c l ⟨#[124]⟩ k4 w0 _ HST.out.row HR.out (HST.out.keep.below HB.out HG.out) HG.out (by decide) (by rw [show bytesOf ⟨#[124]⟩ = [124] from by decide]; exact E5.out)).mono ?_; rintro e' w1 ⟨rfl, hk'⟩))
            exact ⟨rfl, .inr ⟨HN.out, rfl, HST.out.keep.trans hk'⟩⟩
          | some r5 =>
            obtain ⟨k5, hk⟩ : ∃ k5, k5 = r5 := ⟨_, rfl⟩
            rw [← hk] at hs
            clear hk
            have E5 := Aside0.mk hs
            have HK5 := Aside0.mk (lineSkip_le l [124] k4 k5 hs HK4.out)
            clear hs
            go_upto_region 33 with (first | (go_at_call 47; refine (line_skip.ok p A c l ⟨#[124]⟩ k4 k5 w0 _ HST.out.row HR.out (HST.out.keep.below HB.out HG.out) HG.out (by decide) (by rw [show bytesOf ⟨#[124]⟩ = [124] from by decide]; exact E5.out)).mono ?_; rintro e' w1 ⟨rfl, hp', hk'⟩; have n1 := Aside0.mk (HST.out.call hp' hk'); clear HST hp' hk'; clear h0 h1 hl0 hl1 hl2 hl3 hl4 hm0 hm1 hm2 hm3 hm4; have HST := n1; clear n1; have h0 : w1.cell? ⟨p, 0, none⟩ = some (.slice A l.length c) := (blk_cell HST.out.row 0).trans rfl; have h1 : w1.cell? ⟨p, 1, none⟩ = some (.int .i64 k5) := (blk_cell HST.out.row 1).trans rfl; have hl0 : w1.cell? ⟨w.heap.size + 1, 0, none⟩ = some (.int .i64 4) := (blk_cell HST.out.loc 0).trans rfl; have hm0 : w1.frozen? ⟨w.heap.size + 1, 0, none⟩ = false := blk_frozen HST.out.loc 0; have hl1 : w1.cell? ⟨w.heap.size + 1, 1, none⟩ = some (.int .i64 k2) := (blk_cell HST.out.loc 1).trans rfl; have hm1 : w1.frozen? ⟨w.heap.size + 1, 1, none⟩ = false := blk_frozen HST.out.loc 1; have hl2 : w1.cell? ⟨w.heap.size + 1, 2, none⟩ = some (.int .i64 0) := (blk_cell HST.out.loc 2).trans rfl; have hm2 : w1.frozen? ⟨w.heap.size + 1, 2, none⟩ = false := blk_frozen HST.out.loc 2; have hl3 : w1.cell? ⟨w.heap.size + 1, 3, none⟩ = some (.int .u32 0) := (blk_cell HST.out.loc 3).trans rfl; have hm3 : w1.frozen? ⟨w.heap.size + 1, 3, none⟩ = false := blk_frozen HST.out.loc 3; have hl4 : w1.cell? ⟨w.heap.size + 1, 4, none⟩ = some (.int .i64 qp) := (blk_cell HST.out.loc 4).trans rfl; have hm4 : w1.frozen? ⟨w.heap.size + 1, 4, none⟩ = false := blk_frozen HST.out.loc 4))
            obtain ⟨W6, hW⟩ : ∃ W, W = w1 := ⟨_, rfl⟩
            subst hW
            go_upto_region 34 with (fail)
            have n1 := Aside0.mk (HST.out.set 2 (.int .i64 k5) (cs' := #[.int .i64 4, .int .i64 k2, .int .i64 k5, .int .u32 0, .int .i64 qp]) rfl)
            clear h0 h1 hl0 hl1 hl2 hl3 hl4 hm0 hm1 hm2 hm3 hm4 HST
            have HST := n1
            clear n1
            generalize W6.setCell ⟨w.heap.size + 1, 2, none⟩ (.int .i64 k5) = W7 at HST ⊢
            have h0 : W7.cell? ⟨p, 0, none⟩ = some (.slice A l.length c) := (blk_cell HST.out.row 0).trans rfl
            have h1 : W7.cell? ⟨p, 1, none⟩ = some (.int .i64 k5) := (blk_cell HST.out.row 1).trans rfl
            have hl0 : W7.cell? ⟨w.heap.size + 1, 0, none⟩ = some (.int .i64 4) := (blk_cell HST.out.loc 0).trans rfl
            have hm0 : W7.frozen? ⟨w.heap.size + 1, 0, none⟩ = false := blk_frozen HST.out.loc 0
            have hl1 : W7.cell? ⟨w.heap.size + 1, 1, none⟩ = some (.int .i64 k2) := (blk_cell HST.out.loc 1).trans rfl
            have hm1 : W7.frozen? ⟨w.heap.size + 1, 1, none⟩ = false := blk_frozen HST.out.loc 1
            have hl2 : W7.cell? ⟨w.heap.size + 1, 2, none⟩ = some (.int .i64 k5) := (blk_cell HST.out.loc 2).trans rfl
            have hm2 : W7.frozen? ⟨w.heap.size + 1, 2, none⟩ = false := blk_frozen HST.out.loc 2
            have hl3 : W7.cell? ⟨w.heap.size + 1, 3, none⟩ = some (.int .u32 0) := (blk_cell HST.out.loc 3).trans rfl
            have hm3 : W7.frozen? ⟨w.heap.size + 1, 3, none⟩ = false := blk_frozen HST.out.loc 3
            have hl4 : W7.cell? ⟨w.heap.size + 1, 4, none⟩ = some (.int .i64 qp) := (blk_cell HST.out.loc 4).trans rfl
            have hm4 : W7.frozen? ⟨w.heap.size + 1, 4, none⟩ = false := blk_frozen HST.out.loc 4
            cases hs : lineSkip l [41] k5 with
            | none =>
              have E6 := Aside0.mk hs
              have HN : Aside0 (lineEpsv l = none) := ⟨by simp only [lineEpsv, E1.out, E2.out, E3.out, E4.out, E5.out, E6.out]⟩
              clear hs
              go_wp2_with (first | (go_at_call 47; refine (line_skip.no p A c l ⟨#[41]⟩ k5 w0 _ HST.out.row HR.out (HST.out.keep.below HB.out HG.out) HG.out (by decide) (by rw [show bytesOf ⟨#[41]⟩ = [41] from by decide]; exact E6.out)).mono ?_; rintro e' w1 ⟨rfl, hk'⟩))
              exact ⟨rfl, .inr ⟨HN.out, rfl, HST.out.keep.trans hk'⟩⟩
            | some r6 =>
              obtain ⟨k6, hk⟩ : ∃ k6, k6 = r6 := ⟨_, rfl⟩
              rw [← hk] at hs
              clear hk
              have E6 := Aside0.mk hs
              have HK6 := Aside0.mk (lineSkip_le l [41] k5 k6 hs HK5.out)
              clear hs
              go_upto_region 35 with (first | (go_at_call 47; refine (line_skip.ok p A c l ⟨#[41]⟩ k5 k6 w0 _ HST.out.row HR.out (HST.out.keep.below HB.out HG.out) HG.out (by decide) (by rw [show bytesOf ⟨#[41]⟩ = [41] from by decide]; exact E6.out)).mono ?_; rintro e' w1 ⟨rfl, hp', hk'⟩; have n1 := Aside0.mk (HST.out.call hp' hk'); clear HST hp' hk'; clear h0 h1 hl0 hl1 hl2 hl3 hl4 hm0 hm1 hm2 hm3 hm4; have HST := n1; clear n1; have h0 : w1.cell? ⟨p, 0, none⟩ = some (.slice A l.length c) := (blk_cell HST.out.row 0).trans rfl; have h1 : w1.cell? ⟨p, 1, none⟩ = some (.int .i64 k6) := (blk_cell HST.out.row 1).trans rfl; have hl0 : w1.cell? ⟨w.heap.size + 1, 0, none⟩ = some (.int .i64 4) := (blk_cell HST.out.loc 0).trans rfl; have hm0 : w1.frozen? ⟨w.heap.size + 1, 0, none⟩ = false := blk_frozen HST.out.loc 0; have hl1 : w1.cell? ⟨w.heap.size + 1, 1, none⟩ = some (.int .i64 k2) := (blk_cell HST.out.loc 1).trans rfl; have hm1 : w1.frozen? ⟨w.heap.size + 1, 1, none⟩ = false := blk_frozen HST.out.loc 1; have hl2 : w1.cell? ⟨w.heap.size + 1, 2, none⟩ = some (.int .i64 k5) := (blk_cell HST.out.loc 2).trans rfl; have hm2 : w1.frozen? ⟨w.heap.size + 1, 2, none⟩ = false := blk_frozen HST.out.loc 2; have hl3 : w1.cell? ⟨w.heap.size + 1, 3, none⟩ = some (.int .u32 0) := (blk_cell HST.out.loc 3).trans rfl; have hm3 : w1.frozen? ⟨w.heap.size + 1, 3, none⟩ = false := blk_frozen HST.out.loc 3; have hl4 : w1.cell? ⟨w.heap.size + 1, 4, none⟩ = some (.int .i64 qp) := (blk_cell HST.out.loc 4).trans rfl; have hm4 : w1.frozen? ⟨w.heap.size + 1, 4, none⟩ = false := blk_frozen HST.out.loc 4))
              obtain ⟨W8, hW⟩ : ∃ W, W = w1 := ⟨_, rfl⟩
              subst hW
              by_cases hq : 0 < qp
              · have q1 : decide (qp > 0) = true := decide_eq_true hq
                have HN : Aside0 (lineEpsv l = some (4, k2, k5, 0, qp)) := ⟨by simp only [lineEpsv, E1.out, E2.out, E3.out, E4.out, E5.out, E6.out]; simp [hq]⟩
                have q2 : decide (0 < qp) = true := decide_eq_true hq
                clear hq
                have hr0 : W8.cell? ⟨w.heap.size, 0, none⟩ = some (.int .i64 0) := (blk_cell HST.out.res 0).trans rfl
                have hs0 : W8.frozen? ⟨w.heap.size, 0, none⟩ = false := blk_frozen HST.out.res 0
                have hr1 : W8.cell? ⟨w.heap.size, 1, none⟩ = some (.int .i64 0) := (blk_cell HST.out.res 1).trans rfl
                have hs1 : W8.frozen? ⟨w.heap.size, 1, none⟩ = false := blk_frozen HST.out.res 1
                have hr2 : W8.cell? ⟨w.heap.size, 2, none⟩ = some (.int .i64 0) := (blk_cell HST.out.res 2).trans rfl
                have hs2 : W8.frozen? ⟨w.heap.size, 2, none⟩ = false := blk_frozen HST.out.res 2
                have hr3 : W8.cell? ⟨w.heap.size, 3, none⟩ = some (.int .u32 0) := (blk_cell HST.out.res 3).trans rfl
                have hs3 : W8.frozen? ⟨w.heap.size, 3, none⟩ = false := blk_frozen HST.out.res 3
                have hr4 : W8.cell? ⟨w.heap.size, 4, none⟩ = some (.int .i64 0) := (blk_cell HST.out.res 4).trans rfl
                have hs4 : W8.frozen? ⟨w.heap.size, 4, none⟩ = false := blk_frozen HST.out.res 4
                go_wp2_with (first | (go_at_call 53; refine (line_must.pass _).mono ?_; rintro e' w2 ⟨rfl, rfl⟩))
                refine bodyPost_ret (results_cell_row rfl _ _ w.heap.size 34 #[.int .i64 4, .int .i64 k2, .int .i64 k5, .int .u32 0, .int .i64 qp] (0, 0) _ rfl (line_five HST.out.res) hu2 rfl (by kernel_rfl)) rfl ?_
                exact .inl ⟨_, _, _, _, _, HN.out, rfl, HST.out.fin _ _ _ _ _⟩
              · have q1 : decide (qp > 0) = false := decide_eq_false hq
                have q2 : decide (0 < qp) = false := decide_eq_false hq
                have HN : Aside0 (lineEpsv l = none) := ⟨by simp only [lineEpsv, E1.out, E2.out, E3.out, E4.out, E5.out, E6.out]; simp [hq]⟩
                clear hq
                go_wp2_with (first | (go_at_call 53; refine (line_must.gives _).mono ?_; rintro e' w2 ⟨rfl, rfl⟩))
                exact ⟨rfl, .inr ⟨HN.out, rfl, HST.out.keep⟩⟩
theorem below_far {B : Nat} {w0 w : World} (h : Below B w0 w) {g : Nat} (hg : B ≤ g) (j : Nat) (v : Value) : Below B w0 (w.setCell ⟨g, j, none⟩ v) := h.setCell hg v
set_option maxRecDepth 100000 in
set_option maxHeartbeats 1600000 in
theorem line_reads.catch (p q : Nat) (u0 u1 u2 u3 u4 u : Value) (w : World) (hp : w.heap[p]? = some (.cells #[u0, u1, u2, u3, u4] 34 (0, 0))) (hq : w.heap[q]? = some (.cells #[u] 4 (0, 0))) (hne : ¬ p = q) :
    CallsD Tryd.prog 31 #[.pointer (some ⟨p, 0, none⟩), .pointer (some ⟨q, 0, none⟩)] (.panicking oddP) w fun e' u' w' =>
      e' = .returned (.tuple #[]) ∧ u' = .panicking [{ v := .iface 64 (.agg #[]), recovered := true }] ∧ w'.heap[p]? = some (.cells #[.int .i64 0, .int .i64 0, .int .i64 0, .int .u32 0, .int .i64 0] 34 (0, 0)) ∧ w'.heap[q]? = some (.cells #[.bool false] 4 (0, 0)) ∧ ∀ (B : Nat) (w0 : World), B ≤ p → B ≤ q → Below B w0 w → Below B w0 w' := by
  have hne' : ¬ q = p := fun h => hne h.symm
  have hu28 := Tryd.underlying34
  have ha : ∀ w : World, (Instr.typeAssert (.iface 64 (.agg #[])) 20 64 true).run Tryd.prog w = .ok (.tuple #[.agg #[], .bool true]) w := fun w => by
    first | rfl | kernel_rfl | (unfold Instr.typeAssert; simp [go_sem]; done)
  have HP := Aside0.mk hp
  have HQ := Aside0.mk hq
  clear hp hq
  refine callsD_of_wpS Tryd.func31 rfl fun c₀ cs hu => ?_
  apply wpS_seq
  apply wpS_region
  simp [oddP, wpOpsS, go_sem, recoverD, hu, Tryd.ntmps31, Exit.thenS]
  refine wpS_of_wp ?_
  change Code.wp Tryd.prog _ _ ⟨#[.pointer (some ⟨p, 0, none⟩), .pointer (some ⟨q, 0, none⟩), .iface 64 (.agg #[]), undef, undef, .iface 64 (.agg #[]), undef, undef, undef, undef, undef, undef, undef, undef, undef, undef, undef], []⟩ w
  clear hu
  go_upto_region 5 with (fail)
  obtain ⟨W, hW⟩ : ∃ W, W = w.alloc (.cells #[] 64 (0, 0)) := ⟨_, rfl⟩
  have HPW : Aside0 (W.heap[p]? = some (.cells #[u0, u1, u2, u3, u4] 34 (0, 0))) := ⟨by rw [hW]; exact (Below.heap_alloc _ _ _ (blk_lt HP.out)).trans HP.out⟩
  have HQW : Aside0 (W.heap[q]? = some (.cells #[u] 4 (0, 0))) := ⟨by rw [hW]; exact (Below.heap_alloc _ _ _ (blk_lt HQ.out)).trans HQ.out⟩
  have HBW : Aside0 (∀ (B : Nat) (w0 : World), B ≤ p → B ≤ q → Below B w0 w → Below B w0 W) := ⟨fun B w0 h1 h2 h3 => by rw [hW]; exact h3.alloc (by have := blk_lt HP.out; omega) _⟩
  rw [← hW]
  have hc0 : W.cell? ⟨p, 0, none⟩ = some u0 := (blk_cell HPW.out 0).trans rfl
  have hc1 : W.cell? ⟨p, 1, none⟩ = some u1 := (blk_cell HPW.out 1).trans rfl
  have hc2 : W.cell? ⟨p, 2, none⟩ = some u2 := (blk_cell HPW.out 2).trans rfl
  have hc3 : W.cell? ⟨p, 3, none⟩ = some u3 := (blk_cell HPW.out 3).trans rfl
  have hc4 : W.cell? ⟨p, 4, none⟩ = some u4 := (blk_cell HPW.out 4).trans rfl
  have hf0 := blk_frozen HPW.out 0
  have hf1 := blk_frozen HPW.out 1
  have hf2 := blk_frozen HPW.out 2
  have hf3 := blk_frozen HPW.out 3
  have hf4 := blk_frozen HPW.out 4
  have hcq : W.cell? ⟨q, 0, none⟩ = some u := (blk_cell HQW.out 0).trans rfl
  have hfq := blk_frozen HQW.out 0
  have K1 := line_five (v0 := .int .i64 0) (v1 := .int .i64 0) (v2 := .int .i64 0) (v3 := .int .u32 0) (v4 := .int .i64 0) HPW.out
  have K2 := Aside0.mk ((Below.heap_setCell _ ⟨q, 0, none⟩ (.bool false) p hne).trans K1)
  have K3 : Aside0 ((((((((W.setCell ⟨p, 0, none⟩ (.int .i64 0)).setCell ⟨p, 1, none⟩ (.int .i64 0)).setCell ⟨p, 2, none⟩ (.int .i64 0)).setCell ⟨p, 3, none⟩ (.int .u32 0)).setCell ⟨p, 4, none⟩ (.int .i64 0)).setCell ⟨q, 0, none⟩ (.bool false)).heap[q]? = some (.cells #[.bool false] 4 (0, 0)))) := ⟨blk_put (cs := #[u]) (cs' := #[.bool false]) ((Below.heap_setCell _ _ _ _ hne').trans ((Below.heap_setCell _ _ _ _ hne').trans ((Below.heap_setCell _ _ _ _ hne').trans ((Below.heap_setCell _ _ _ _ hne').trans ((Below.heap_setCell _ _ _ _ hne').trans HQW.out))))) 0 _ rfl⟩
  have K4 : Aside0 (∀ (B : Nat) (w0 : World), B ≤ p → B ≤ q → Below B w0 w → Below B w0 (((((((W.setCell ⟨p, 0, none⟩ (.int .i64 0)).setCell ⟨p, 1, none⟩ (.int .i64 0)).setCell ⟨p, 2, none⟩ (.int .i64 0)).setCell ⟨p, 3, none⟩ (.int .u32 0)).setCell ⟨p, 4, none⟩ (.int .i64 0)).setCell ⟨q, 0, none⟩ (.bool false)))) := ⟨fun B w0 h1 h2 h3 => below_far (below_far (below_far (below_far (below_far (below_far (HBW.out B w0 h1 h2 h3) h1 0 _) h1 1 _) h1 2 _) h1 3 _) h1 4 _) h2 0 _⟩
  clear K1 hW HP HQ HBW
  go_wp2_with (fail)
  clear hc0 hc1 hc2 hc3 hc4 hf0 hf1 hf2 hf3 hf4 hcq hfq HPW HQW
  generalize (((((((W.setCell ⟨p, 0, none⟩ (.int .i64 0)).setCell ⟨p, 1, none⟩ (.int .i64 0)).setCell ⟨p, 2, none⟩ (.int .i64 0)).setCell ⟨p, 3, none⟩ (.int .u32 0)).setCell ⟨p, 4, none⟩ (.int .i64 0)).setCell ⟨q, 0, none⟩ (.bool false))) = W2 at K2 K3 K4 ⊢
  simp [bodyPostS, results, Tryd.results31]
  exact ⟨K2.out, K3.out, K4.out⟩
theorem line_reads.idle (p q : Nat) (w : World) :
    CallsD Tryd.prog 31 #[.pointer (some ⟨p, 0, none⟩), .pointer (some ⟨q, 0, none⟩)] .returning w fun e' u' w' => e' = .returned (.tuple #[]) ∧ u' = .returning ∧ w = w' := by
  refine callsD_of_wpS Tryd.func31 rfl fun c₀ cs hu => ?_
  apply wpS_seq
  apply wpS_region
  simp [wpOpsS, go_sem, recoverD, hu, Tryd.ntmps31, Exit.thenS]
  refine wpS_of_wp ?_
  change Code.wp Tryd.prog _ _ ⟨#[.pointer (some ⟨p, 0, none⟩), .pointer (some ⟨q, 0, none⟩), .nilIface, undef, undef, .nilIface, undef, undef, undef, undef, undef, undef, undef, undef, undef, undef, undef], []⟩ w
  go_wp2
  cases c₀
  simp_all [bodyPostS, results, Tryd.results31]
theorem bool_load (g : Nat) (x : Value) (w : World) (h : w.cell? ⟨g, 0, none⟩ = some x) : (loadVar 4 ⟨g, 0, none⟩).run Tryd.prog w = .ok x w := by
  simp [go_sem, h]
set_option maxRecDepth 100000 in
theorem line_reads.refused {tmps : Array Value} {w w0 : World} {p q : Nat} {u0 u1 u2 u3 u4 u : Value} {R : Ending → World → Prop} (h2 : tmps.getD 4 undef = .pointer (some ⟨p, 0, none⟩)) (h3 : tmps.getD 5 undef = .pointer (some ⟨q, 0, none⟩))
    (hp : w.heap[p]? = some (.cells #[u0, u1, u2, u3, u4] 34 (0, 0))) (hq : w.heap[q]? = some (.cells #[u] 4 (0, 0))) (hne : ¬ p = q) (hB : Below w0.heap.size w0 w) (hgp : w0.heap.size ≤ p) (hgq : w0.heap.size ≤ q)
    (hR : ∀ w', Below w0.heap.size w0 w' → R (.returned (.tuple #[.agg #[.int .i64 0, .int .i64 0, .int .i64 0, .int .u32 0, .int .i64 0], .bool false])) w') :
    Leaves Tryd.prog Tryd.f22 tmps R [{ target := .fn (.func 31) #[.pointer (some ⟨p, 0, none⟩), .pointer (some ⟨q, 0, none⟩)], args := #[] }] (.panicking oddP) w := by
  refine leaves_cons (f := 31) (args := #[.pointer (some ⟨p, 0, none⟩), .pointer (some ⟨q, 0, none⟩)]) (by simp) (by simp [go_sem]) ?_
  refine (line_reads.catch p q u0 u1 u2 u3 u4 u w hp hq hne).mono ?_
  rintro e' u' w'' ⟨rfl, rfl, k1, k2, k3⟩
  refine ⟨_, results_cs rfl _ _ p q 34 4 #[.int .i64 0, .int .i64 0, .int .i64 0, .int .u32 0, .int .i64 0] (.bool false) (0, 0) (0, 0) _ h2 k1 Tryd.underlying34 rfl rfl h3 k2 (fun w h => bool_load q _ w h), ?_⟩
  exact hR _ (k3 _ _ hgp hgq hB)
set_option maxHeartbeats 8000000 in
set_option maxRecDepth 100000 in
theorem line_reads.calls (A : Option Addr) (c : Nat) (l : List Int) (kind : Int) (F : Option (Int × Nat × Nat × Int × Int)) (w : World) (hr : Kd.C (Kd.int .u8) w A l.length l)
    (HF : ∀ (p : Nat) (W : World), W.heap[p]? = some (.cells #[.slice A l.length c, .int .i64 0] 69 (0, 0)) → Below w.heap.size w W → w.heap.size ≤ p →
      Calls Tryd.prog 32 #[.pointer (some ⟨p, 0, none⟩), .int .i64 kind] W fun e w' => (∃ kd f t a q, F = some (kd, f, t, a, q) ∧ e = .returned (.agg #[.int .i64 kd, .int .i64 (f : Nat), .int .i64 (t : Nat), .int .u32 a, .int .i64 q]) ∧ KeptP p W w') ∨ (F = none ∧ e = .panicked oddP ∧ KeptP p W w')) :
    Calls Tryd.prog 22 #[.slice A l.length c, .int .i64 kind] w fun e w' => ((∃ kd f t a q, F = some (kd, f, t, a, q) ∧ e = .returned (.tuple #[.agg #[.int .i64 kd, .int .i64 (f : Nat), .int .i64 (t : Nat), .int .u32 a, .int .i64 q], .bool true])) ∨ (F = none ∧ e = .returned (.tuple #[.agg #[.int .i64 0, .int .i64 0, .int .i64 0, .int .u32 0, .int .i64 0], .bool false]))) ∧ Below w.heap.size w w' := by
  have hu28 := Tryd.underlying34
  have hmf : ∀ (fn : Fn) (first cap : Array Value) (w : World), (Instr.makeFunc fn first cap).run Tryd.prog w = .ok (.func fn first cap) w := fun _ _ _ _ => rfl
  obtain ⟨W, hW⟩ : ∃ W, W = ((w.alloc (.cells #[.int .i64 0, .int .i64 0, .int .i64 0, .int .u32 0, .int .i64 0] 34 (0, 0))).alloc (.cells #[.bool false] 4 (0, 0))).alloc (.cells #[.slice A l.length c, .int .i64 0] 69 (0, 0)) := ⟨_, rfl⟩
  have hs : ∀ (w : World) (o : Obj), (w.alloc o).heap.size = w.heap.size + 1 := fun w o => by show (w.heap.push o).size = _; simp
  have HR1 : Aside0 (W.heap[w.heap.size + 2]? = some (.cells #[.slice A l.length c, .int .i64 0] 69 (0, 0))) := ⟨by
    have h := heap_alloc_new ((w.alloc (.cells #[.int .i64 0, .int .i64 0, .int .i64 0, .int .u32 0, .int .i64 0] 34 (0, 0))).alloc (.cells #[.bool false] 4 (0, 0))) (.cells #[.slice A l.length c, .int .i64 0] 69 (0, 0))
    rw [hs, hs] at h
    rw [hW]
    exact h⟩
  have HP1 : Aside0 (W.heap[w.heap.size]? = some (.cells #[.int .i64 0, .int .i64 0, .int .i64 0, .int .u32 0, .int .i64 0] 34 (0, 0))) := ⟨by
    rw [hW]
    exact (Below.heap_alloc _ _ _ (by rw [hs, hs]; omega)).trans ((Below.heap_alloc _ _ _ (by rw [hs]; omega)).trans (heap_alloc_new _ _))⟩
  have HQ1 : Aside0 (W.heap[w.heap.size + 1]? = some (.cells #[.bool false] 4 (0, 0))) := ⟨by
    rw [hW]
    exact (Below.heap_alloc _ _ _ (by rw [hs, hs]; omega)).trans (heap_alloc2_new w _ _)⟩
  have HB1 : Aside0 (Below w.heap.size w W) := ⟨by
    rw [hW]
    exact (((Below.refl _ w).alloc (Nat.le_refl _) _).alloc (by rw [hs]; omega) _).alloc (by rw [hs, hs]; omega) _⟩
  have HW := Aside0.mk hW
  have HC0 := HF (w.heap.size + 2) W HR1.out HB1.out (by omega)
  have HC := Aside0.mk HC0
  clear hW HC0 HF
  go_enter_defers Tryd.func22, Tryd.ntmps22
  go_upto_region 3 with (fail)
  rw [← HW.out]
  have hq0 : W.cell? ⟨w.heap.size + 1, 0, none⟩ = some (.bool false) := (blk_cell HQ1.out 0).trans rfl
  cases hF : F with
  | none =>
    have HFE := Aside0.mk hF
    rw [hF] at HC
    clear hF hq0
    go_wp2_with (first | (go_at_call 32; refine HC.out.mono ?_; rintro e' w1 (⟨kd, f, t, a, q, h1, h2, h3⟩ | ⟨h1, rfl, hk⟩); (case inl => cases h1)))
    refine line_reads.refused (w0 := w) rfl rfl (hk.row HP1.out (by omega)) (hk.row HQ1.out (by omega)) (by omega) (hk.below HB1.out (by omega)) (Nat.le_refl _) (by omega) ?_
    intro w' hb
    exact ⟨.inr ⟨HFE.out, rfl⟩, hb⟩
  | some r =>
    obtain ⟨kd, f, t, a, q⟩ := r
    have HFE := Aside0.mk hF
    rw [hF] at HC
    clear hF hq0
    go_wp2_with (first | (go_at_call 32; refine HC.out.mono ?_; rintro e' w1 (⟨kd', f', t', a', q', h1, rfl, hk⟩ | ⟨h1, h2, h3⟩); (case inr => cases h1); cases h1; have HP2 := Aside0.mk (hk.row HP1.out (by omega)); have HQ2 := Aside0.mk (hk.row HQ1.out (by omega)); have HB2 := Aside0.mk (hk.below HB1.out (by omega)); clear hk; have hc0 : w1.cell? ⟨w.heap.size, 0, none⟩ = some (.int .i64 0) := (blk_cell HP2.out 0).trans rfl; have hf0 : w1.frozen? ⟨w.heap.size, 0, none⟩ = false := blk_frozen HP2.out 0; have hc1 : w1.cell? ⟨w.heap.size, 1, none⟩ = some (.int .i64 0) := (blk_cell HP2.out 1).trans rfl; have hf1 : w1.frozen? ⟨w.heap.size, 1, none⟩ = false := blk_frozen HP2.out 1; have hc2 : w1.cell? ⟨w.heap.size, 2, none⟩ = some (.int .i64 0) := (blk_cell HP2.out 2).trans rfl; have hf2 : w1.frozen? ⟨w.heap.size, 2, none⟩ = false := blk_frozen HP2.out 2; have hc3 : w1.cell? ⟨w.heap.size, 3, none⟩ = some (.int .u32 0) := (blk_cell HP2.out 3).trans rfl; have hf3 : w1.frozen? ⟨w.heap.size, 3, none⟩ = false := blk_frozen HP2.out 3; have hc4 : w1.cell? ⟨w.heap.size, 4, none⟩ = some (.int .i64 0) := (blk_cell HP2.out 4).trans rfl; have hf4 : w1.frozen? ⟨w.heap.size, 4, none⟩ = false := blk_frozen HP2.out 4; have hcq : w1.cell? ⟨w.heap.size + 1, 0, none⟩ = some (.bool false) := (blk_cell HQ2.out 0).trans rfl; have hfq : w1.frozen? ⟨w.heap.size + 1, 0, none⟩ = false := blk_frozen HQ2.out 0))
    obtain ⟨W2, hW2⟩ : ∃ W2, W2 = ((((((w1.setCell ⟨w.heap.size, 0, none⟩ (.int .i64 kd)).setCell ⟨w.heap.size, 1, none⟩ (.int .i64 (f : Int))).setCell ⟨w.heap.size, 2, none⟩ (.int .i64 (t : Int))).setCell ⟨w.heap.size, 3, none⟩ (.int .u32 a)).setCell ⟨w.heap.size, 4, none⟩ (.int .i64 q)).setCell ⟨w.heap.size + 1, 0, none⟩ (.bool true)) := ⟨_, rfl⟩
    rw [← hW2]
    have hne : w.heap.size ≠ w.heap.size + 1 := by omega
    have K1 : W2.heap[w.heap.size]? = some (.cells #[.int .i64 kd, .int .i64 (f : Int), .int .i64 (t : Int), .int .u32 a, .int .i64 q] 34 (0, 0)) := by
      rw [hW2, Below.heap_setCell _ _ _ _ hne]
      exact line_five HP2.out
    have K2 : W2.heap[w.heap.size + 1]? = some (.cells #[.bool true] 4 (0, 0)) := by
      rw [hW2]
      refine blk_put (cs := #[.bool false]) ?_ 0 _ rfl
      iterate 5 rw [Below.heap_setCell _ _ _ _ hne.symm]
      exact HQ2.out
    have K3 : Below w.heap.size w W2 := by
      rw [hW2]
      exact below_far (below_far (below_far (below_far (below_far (below_far HB2.out (Nat.le_refl _) 0 _) (Nat.le_refl _) 1 _) (Nat.le_refl _) 2 _) (Nat.le_refl _) 3 _) (Nat.le_refl _) 4 _) (Nat.le_succ _) 0 _
    clear hW2
    refine leaves_cons (f := 31) (args := #[.pointer (some ⟨w.heap.size, 0, none⟩), .pointer (some ⟨w.heap.size + 1, 0, none⟩)]) (by simp) (by simp [go_sem]) ?_
    refine (line_reads.idle w.heap.size (w.heap.size + 1) W2).mono ?_
    rintro e' u' w5 ⟨rfl, rfl, rfl⟩
    refine ⟨_, results_cs rfl _ _ w.heap.size (w.heap.size + 1) 34 4 #[.int .i64 kd, .int .i64 (f : Int), .int .i64 (t : Int), .int .u32 a, .int .i64 q] (.bool true) (0, 0) (0, 0) _ rfl K1 hu28 rfl rfl rfl K2 (fun w h => bool_load _ _ w h), ?_⟩
    exact ⟨.inl ⟨kd, f, t, a, q, HFE.out, rfl⟩, K3⟩
theorem line_back (b : List Int) (h : ∀ x ∈ b, 0 ≤ x ∧ x ≤ 255) : (b.map fun n => UInt8.ofNat n.toNat).map (fun c => (c.toNat : Int)) = b := by
  rw [List.map_map]
  conv => rhs; rw [← List.map_id b]
  refine List.map_congr_left fun x hx => ?_
  have := h x hx
  show ((UInt8.ofNat x.toNat).toNat : Int) = x
  rw [UInt8.toNat_ofNat']
  omega
theorem line_suffix (b : List Int) (h : ∀ x ∈ b, 0 ≤ x ∧ x ≤ 255) : Lib.hasSuffix (strOfNums b).data.toList [13, 10] = decide (2 ≤ b.length ∧ b.drop (b.length - 2) = [13, 10]) := by
  rw [strOfNums_data, ← Lib.hasSuffix_of_drop]
  have e1 : (b.map fun n => UInt8.ofNat n.toNat).length = b.length := List.length_map ..
  rw [e1, ← List.map_drop]
  show (decide (2 ≤ b.length) && _) = _
  have key : ((b.drop (b.length - 2)).map (fun n => UInt8.ofNat n.toNat) == [13, 10]) = decide (b.drop (b.length - 2) = [13, 10]) := by
    have hb : ∀ x ∈ b.drop (b.length - 2), 0 ≤ x ∧ x ≤ 255 := fun x hx => h x (List.mem_of_mem_drop hx)
    generalize b.drop (b.length - 2) = c at hb ⊢
    by_cases hc : c = [13, 10]
    · subst hc
      decide
    · rw [decide_eq_false hc]
      refine beq_eq_false_iff_ne.mpr fun he => hc ?_
      rw [← line_back c hb, he]
      decide
  show (decide (2 ≤ b.length) && ((b.drop (b.length - 2)).map (fun n => UInt8.ofNat n.toNat) == [13, 10])) = _
  rw [key, Bool.decide_and]
theorem line_trim (b : List Int) (h : ∀ x ∈ b, 0 ≤ x ∧ x ≤ 255) (hs : Lib.hasSuffix (strOfNums b).data.toList [13, 10] = true) :
    bytesOf ⟨(Lib.trimSuffix (strOfNums b).data.toList [13, 10]).toArray⟩ = b.take (b.length - 2) := by
  unfold Lib.trimSuffix
  rw [if_pos hs, strOfNums_data]
  have e1 : (b.map fun n => UInt8.ofNat n.toNat).length = b.length := List.length_map ..
  rw [e1]
  show (((b.map fun n => UInt8.ofNat n.toNat).take (b.length - 2)).toArray.toList.map (fun c => (c.toNat : Int))) = _
  rw [List.toList_toArray, List.map_take, line_back b h]
theorem line_index (l : List UInt8) (c : UInt8) : 0 ≤ Lib.indexByte l c ↔ c ∈ l := by
  induction l with
  | nil => simp [Lib.indexByte]
  | cons x l ih =>
    unfold Lib.indexByte
    by_cases hx : x = c
    · subst hx
      simp
    · have h1 : (x == c) = false := beq_eq_false_iff_ne.mpr hx
      have h2 := Lib.indexByte_ge l c
      rw [h1, if_neg (by simp)]
      have e : c ∈ x :: l ↔ c ∈ l := by
        rw [List.mem_cons]
        exact ⟨fun hh => hh.resolve_left (fun hc => hx hc.symm), .inr⟩
      rw [e, ← ih]
      by_cases h3 : Lib.indexByte l c = -1
      · rw [h3, if_pos (by decide)]
      · rw [if_neg (by simpa using h3)]
        omega
theorem line_index2 (S : ByteArray) (c : Int) (h0 : 0 ≤ c) (h1 : c ≤ 255) : decide (0 ≤ Lib.indexByte S.data.toList c.toNat.toUInt8) = decide (c ∈ bytesOf S) := by
  refine decide_eq_decide.mpr ((line_index _ _).trans ?_)
  unfold bytesOf
  rw [List.mem_map]
  constructor
  · intro h
    refine ⟨_, h, ?_⟩
    show ((UInt8.ofNat c.toNat).toNat : Int) = c
    rw [UInt8.toNat_ofNat']
    omega
  · rintro ⟨x, hx, rfl⟩
    simpa using hx
/-- The kinds from one on. -/
def lineFrom (l : List Int) : Nat → Option (Int × Nat × Nat × Int × Int)
  | 0 => none
  | m + 1 => match lineRead l (4 - (m : Int)) with
    | some r => some r
    | none => lineFrom l m
theorem lineFind_eq (b l : List Int) (h : lineText b = some l) : lineFind b = lineFrom l 4 := by
  unfold lineFind
  simp only [h]
  show _ = (match lineRead l 1 with
    | some r => some r
    | none => match lineRead l 2 with
      | some r => some r
      | none => match lineRead l 3 with
        | some r => some r
        | none => match lineRead l 4 with
          | some r => some r
          | none => none)
  cases h1 : lineRead l 1 <;> cases h2 : lineRead l 2 <;> cases h3 : lineRead l 3 <;> cases h4 : lineRead l 4 <;> simp only [h1, h2, h3, h4]
theorem line_CutSuffix (s p : ByteArray) (w : World) (hs : s.size ≤ 9223372036854775807) :
    Calls Tryd.prog 20 #[.string s, .string p] w fun e w' => e = .returned (.tuple #[.string ⟨(Lib.trimSuffix s.data.toList p.data.toList).toArray⟩, .bool (Lib.hasSuffix s.data.toList p.data.toList)]) ∧ w' = w := by
  have hlo : p.size ≤ s.size → ((s.size : Int) - (p.size : Int) + 9223372036854775808) % 18446744073709551616 - 9223372036854775808 = ((s.size - p.size : Nat) : Int) := fun _ => by omega
  go_enter Tryd.func20, Tryd.ntmps20
  go_wp2
  · have h2 : (!((s.extract (s.size - p.size) s.size).toList == p.toList)) = true := by assumption
    have h3 : (decide (p.size ≤ s.size) && ((s.extract (s.size - p.size) s.size).toList == p.toList)) = false := by
      have : ((s.extract (s.size - p.size) s.size).toList == p.toList) = false := by simpa using h2
      rw [this]
      simp
    go_ret2
    refine ⟨?_, rfl⟩
    rw [Lib.trimSuffix_miss s p h3, ← Lib.hasSuffix_raw, h3]
    rfl
  · have h1 : p.size ≤ s.size := by assumption
    have h2 : (!((s.extract (s.size - p.size) s.size).toList == p.toList)) = false := by assumption
    have h2' : ((s.extract (s.size - p.size) s.size).toList == p.toList) = true := by simpa using h2
    go_ret2
    refine ⟨?_, rfl⟩
    rw [Lib.trimSuffix_hit s p h1 h2', ← Lib.hasSuffix_raw, h2', decide_eq_true h1]
    rfl
  · have h1 : ¬ p.size ≤ s.size := by assumption
    have h3 : (decide (p.size ≤ s.size) && ((s.extract (s.size - p.size) s.size).toList == p.toList)) = false := by simp [h1]
    go_ret2
    refine ⟨?_, rfl⟩
    rw [Lib.trimSuffix_miss s p h3, ← Lib.hasSuffix_raw, h3]
    rfl
set_option maxHeartbeats 1000000 in
set_option maxRecDepth 100000 in
theorem line_IndexByte0 (s : ByteArray) (c : Int) (w : World) :
    Calls Tryd.prog 30 #[.string s, .int .u8 c] w fun e w' => e = .returned (.int .i64 (Lib.indexByte s.data.toList c.toNat.toUInt8)) ∧ w' = w := by
  go_enter Tryd.func30, Tryd.ntmps30
  go_wp2
  rw [run_callFunc_extern Tryd.func46 (by kernel_rfl) (by kernel_rfl) (by kernel_rfl) (e := Extern.BytealgIndexByte.indexByte) (by kernel_rfl), Lib.run_indexByteString]
  simp only [Result.andThen]
  rw [Oper.upon_value]
  go_wp2
  go_ret
  exact ⟨rfl, rfl⟩
set_option maxHeartbeats 1000000 in
theorem line_IndexByte (s : ByteArray) (c : Int) (w : World) :
    Calls Tryd.prog 21 #[.string s, .int .u8 c] w fun e w' => e = .returned (.int .i64 (Lib.indexByte s.data.toList c.toNat.toUInt8)) ∧ w' = w := by
  go_enter Tryd.func21, Tryd.ntmps21
  go_wp2_with (go_at_call 30; refine (line_IndexByte0 _ _ _).mono ?_; rintro e w' ⟨rfl, rfl⟩)
  go_ret
  exact ⟨rfl, rfl⟩
theorem line_line.any (kind : Int) (h1 : 1 ≤ kind) (h4 : kind ≤ 4) (p : Nat) (A : Option Addr) (c : Nat) (l : List Int) (w0 w : World) (h : w.heap[p]? = some (.cells #[.slice A l.length c, .int .i64 0] 69 (0, 0))) (hr : Kd.C (Kd.int .u8) w0 A l.length l)
    (hb : Below w0.heap.size w0 w) (hg : w0.heap.size ≤ p) :
    Calls Tryd.prog 32 #[.pointer (some ⟨p, 0, none⟩), .int .i64 kind] w fun e w' => (∃ kd f t a q, lineRead l kind = some (kd, f, t, a, q) ∧ e = .returned (.agg #[.int .i64 kd, .int .i64 (f : Nat), .int .i64 (t : Nat), .int .u32 a, .int .i64 q]) ∧ KeptP p w w') ∨ (lineRead l kind = none ∧ e = .panicked oddP ∧ KeptP p w w') := by
  obtain rfl | rfl | rfl | rfl : kind = 1 ∨ kind = 2 ∨ kind = 3 ∨ kind = 4 := by omega
  · exact line_line.port p A c l w0 w h hr hb hg
  · exact line_line.eprt p A c l w0 w h hr hb hg
  · exact line_line.pasv p A c l w0 w h hr hb hg
  · exact line_line.epsv p A c l w0 w h hr hb hg
theorem line_reads.text (S : ByteArray) (hS : S.size ≤ 9223372036854775807) (kind : Int) (h1 : 1 ≤ kind) (h4 : kind ≤ 4) (W : World) :
    Calls Tryd.prog 22 #[.slice (some ⟨W.heap.size, 0, none⟩) S.size (grownCap W S.size 0 5), .int .i64 kind] (Lib.bytesWorld W 5 S) fun e w' => ((∃ kd f t a q, lineRead (bytesOf S) kind = some (kd, f, t, a, q) ∧ e = .returned (.tuple #[.agg #[.int .i64 kd, .int .i64 (f : Nat), .int .i64 (t : Nat), .int .u32 a, .int .i64 q], .bool true])) ∨ (lineRead (bytesOf S) kind = none ∧ e = .returned (.tuple #[.agg #[.int .i64 0, .int .i64 0, .int .i64 0, .int .u32 0, .int .i64 0], .bool false]))) ∧ Below W.heap.size W w' := by
  have hr : Kd.C (Kd.int .u8) (Lib.bytesWorld W 5 S) (some ⟨W.heap.size, 0, none⟩) (bytesOf S).length (bytesOf S) := by
    rw [bytesOf_length]
    exact Kd.C_of_reads (h1 := fun _ => rfl) (bytes_reads W 5 S hS)
  have h := line_reads.calls (some ⟨W.heap.size, 0, none⟩) (grownCap W S.size 0 5) (bytesOf S) kind (lineRead (bytesOf S) kind) (Lib.bytesWorld W 5 S) hr (fun p W2 hp hb hg => line_line.any kind h1 h4 p _ _ _ _ W2 hp hr hb hg)
  rw [bytesOf_length] at h
  refine h.mono fun e w' hh => ⟨hh.1, (bytes_below (Below.refl _ _) (Nat.le_refl _) _ _).trans (hh.2.mono (by rw [Lib.bytesWorld_size]; omega))⟩
theorem lineFrom_step (l : List Int) (m : Nat) : lineFrom l (m + 1) = match lineRead l (4 - (m : Int)) with
    | some r => some r
    | none => lineFrom l m := rfl
set_option maxHeartbeats 8000000 in
set_option maxRecDepth 100000 in
theorem line_Find.run (A0 : Option Addr) (c0 : Nat) (l0 : List Int) (w : World) (hr0 : Kd.C (Kd.int .u8) w A0 l0.length l0) (hby : ∀ x ∈ l0, 0 ≤ x ∧ x ≤ 255) :
    Calls Tryd.prog 10 #[.slice A0 l0.length c0] w fun e w' => ((∃ kd f t a q, lineFind l0 = some (kd, f, t, a, q) ∧ e = .returned (.tuple #[.agg #[.int .i64 kd, .int .i64 (f : Nat), .int .i64 (t : Nat), .int .u32 a, .int .i64 q], .bool true])) ∨ (lineFind l0 = none ∧ e = .returned (.tuple #[.agg #[.int .i64 0, .int .i64 0, .int .i64 0, .int .u32 0, .int .i64 0], .bool false]))) ∧ Below w.heap.size w w' := by
  have hu28 := Tryd.underlying34
  have kc : (convert 32 9 (.slice A0 l0.length c0)).run Tryd.prog (w.alloc (.cells #[.int .i64 0, .int .i64 0, .int .i64 0, .int .u32 0, .int .i64 0] 34 (0, 0))) = .ok (.string (strOfNums l0)) (w.alloc (.cells #[.int .i64 0, .int .i64 0, .int .i64 0, .int .u32 0, .int .i64 0] 34 (0, 0))) :=
    Kd.C_string Tryd.underlying32 Tryd.underlying5 Tryd.underlying9 (Kd.C_below hr0 ((Below.refl _ w).alloc (Nat.le_refl _) _))
  have HLEN := Aside0.mk hr0.2.1
  have HBY := Aside0.mk hby
  obtain ⟨W, hW⟩ : ∃ W, W = w.alloc (.cells #[.int .i64 0, .int .i64 0, .int .i64 0, .int .u32 0, .int .i64 0] 34 (0, 0)) := ⟨_, rfl⟩
  have HP : Aside0 (W.heap[w.heap.size]? = some (.cells #[.int .i64 0, .int .i64 0, .int .i64 0, .int .u32 0, .int .i64 0] 34 (0, 0))) := ⟨by rw [hW]; exact heap_alloc_new _ _⟩
  have HB : Aside0 (Below w.heap.size w W) := ⟨by rw [hW]; exact (Below.refl _ w).alloc (Nat.le_refl _) _⟩
  have HW := Aside0.mk hW
  have hSS : (strOfNums l0).size ≤ 9223372036854775807 := by rw [strOfNums_size]; exact HLEN.out
  have HSS := Aside0.mk hSS
  have HSUF := Aside0.mk (line_suffix l0 hby)
  have HTRIM := Aside0.mk (line_trim l0 hby)
  clear hr0 hby hW hSS
  obtain ⟨S0, hS0⟩ : ∃ S0, S0 = strOfNums l0 := ⟨_, rfl⟩
  rw [← hS0] at kc HSS HSUF HTRIM
  have HS0 := Aside0.mk hS0
  clear hS0
  by_cases hsuf : 2 ≤ l0.length ∧ l0.drop (l0.length - 2) = [13, 10]
  case neg =>
    have HOK : Aside0 (Lib.hasSuffix S0.data.toList [13, 10] = false) := ⟨by rw [HSUF.out]; exact decide_eq_false hsuf⟩
    have HN : Aside0 (lineFind l0 = none) := ⟨by unfold lineFind lineText; rw [if_neg (fun hh => hsuf ⟨hh.1, hh.2.1⟩)]⟩
    clear hsuf HTRIM HSUF
    go_enter Tryd.func10, Tryd.ntmps10
    go_wp2_with (first | (go_at_call 20; refine (line_CutSuffix S0 ⟨#[13, 10]⟩ _ HSS.out).mono ?_; rintro e' w1 ⟨he, rfl⟩; rw [show (⟨#[13, 10]⟩ : ByteArray).data.toList = [13, 10] from rfl, HOK.out] at he; subst he; clear kc; rw [← HW.out]; have hc0 : W.cell? ⟨w.heap.size, 0, none⟩ = some (.int .i64 0) := (blk_cell HP.out 0).trans rfl; have hf0 : W.frozen? ⟨w.heap.size, 0, none⟩ = false := blk_frozen HP.out 0; have hc1 : W.cell? ⟨w.heap.size, 1, none⟩ = some (.int .i64 0) := (blk_cell HP.out 1).trans rfl; have hf1 : W.frozen? ⟨w.heap.size, 1, none⟩ = false := blk_frozen HP.out 1; have hc2 : W.cell? ⟨w.heap.size, 2, none⟩ = some (.int .i64 0) := (blk_cell HP.out 2).trans rfl; have hf2 : W.frozen? ⟨w.heap.size, 2, none⟩ = false := blk_frozen HP.out 2; have hc3 : W.cell? ⟨w.heap.size, 3, none⟩ = some (.int .u32 0) := (blk_cell HP.out 3).trans rfl; have hf3 : W.frozen? ⟨w.heap.size, 3, none⟩ = false := blk_frozen HP.out 3; have hc4 : W.cell? ⟨w.heap.size, 4, none⟩ = some (.int .i64 0) := (blk_cell HP.out 4).trans rfl; have hf4 : W.frozen? ⟨w.heap.size, 4, none⟩ = false := blk_frozen HP.out 4))
    refine bodyPost_ret (results_ct rfl _ _ w.heap.size 34 #[.int .i64 0, .int .i64 0, .int .i64 0, .int .u32 0, .int .i64 0] (0, 0) _ rfl (line_five HP.out) hu28 rfl (by kernel_rfl)) rfl ?_
    exact ⟨.inr ⟨HN.out, rfl⟩, below_far (below_far (below_far (below_far (below_far HB.out (Nat.le_refl _) 0 _) (Nat.le_refl _) 1 _) (Nat.le_refl _) 2 _) (Nat.le_refl _) 3 _) (Nat.le_refl _) 4 _⟩
  have HOK : Aside0 (Lib.hasSuffix S0.data.toList [13, 10] = true) := ⟨by rw [HSUF.out]; exact decide_eq_true hsuf⟩
  have HTR := Aside0.mk (HTRIM.out HOK.out)
  obtain ⟨S, hS⟩ : ∃ S, S = (⟨(Lib.trimSuffix S0.data.toList [13, 10]).toArray⟩ : ByteArray) := ⟨_, rfl⟩
  have HS := Aside0.mk hS
  rw [← hS] at HTR
  have HSUF2 := Aside0.mk hsuf
  clear hS hsuf HSUF HTRIM
  have HI13 := Aside0.mk (line_index2 S 13 (by decide) (by decide))
  have HI10 := Aside0.mk (line_index2 S 10 (by decide) (by decide))
  rw [HTR.out] at HI13 HI10
  by_cases h13 : (13 : Int) ∈ l0.take (l0.length - 2)
  · have HN : Aside0 (lineFind l0 = none) := ⟨by unfold lineFind lineText; rw [if_neg (fun hh => hh.2.2.1 h13)]⟩
    obtain ⟨i13, hi⟩ : ∃ i, i = Lib.indexByte S.data.toList (13 : Int).toNat.toUInt8 := ⟨_, rfl⟩
    rw [← hi, decide_eq_true h13] at HI13
    have d1 : decide (i13 ≥ 0) = true := HI13.out
    have d1' : decide (0 ≤ i13) = true := HI13.out
    have HI := Aside0.mk hi
    clear h13 hi
    go_enter Tryd.func10, Tryd.ntmps10
    go_wp2_with (first | (go_at_call 20; refine (line_CutSuffix S0 ⟨#[13, 10]⟩ _ HSS.out).mono ?_; rintro e' w1 ⟨he, rfl⟩; rw [show (⟨#[13, 10]⟩ : ByteArray).data.toList = [13, 10] from rfl, HOK.out, ← HS.out] at he; subst he; clear kc; rw [← HW.out]; have hc0 : W.cell? ⟨w.heap.size, 0, none⟩ = some (.int .i64 0) := (blk_cell HP.out 0).trans rfl; have hf0 : W.frozen? ⟨w.heap.size, 0, none⟩ = false := blk_frozen HP.out 0; have hc1 : W.cell? ⟨w.heap.size, 1, none⟩ = some (.int .i64 0) := (blk_cell HP.out 1).trans rfl; have hf1 : W.frozen? ⟨w.heap.size, 1, none⟩ = false := blk_frozen HP.out 1; have hc2 : W.cell? ⟨w.heap.size, 2, none⟩ = some (.int .i64 0) := (blk_cell HP.out 2).trans rfl; have hf2 : W.frozen? ⟨w.heap.size, 2, none⟩ = false := blk_frozen HP.out 2; have hc3 : W.cell? ⟨w.heap.size, 3, none⟩ = some (.int .u32 0) := (blk_cell HP.out 3).trans rfl; have hf3 : W.frozen? ⟨w.heap.size, 3, none⟩ = false := blk_frozen HP.out 3; have hc4 : W.cell? ⟨w.heap.size, 4, none⟩ = some (.int .i64 0) := (blk_cell HP.out 4).trans rfl; have hf4 : W.frozen? ⟨w.heap.size, 4, none⟩ = false := blk_frozen HP.out 4) | (go_at_call 21; have tk := HI; refine (line_IndexByte S 13 _).mono ?_; rintro e' w1 ⟨he, rfl⟩; rw [← HI.out] at he; subst he; clear HI tk))
    refine bodyPost_ret (results_ct rfl _ _ w.heap.size 34 #[.int .i64 0, .int .i64 0, .int .i64 0, .int .u32 0, .int .i64 0] (0, 0) _ rfl (line_five HP.out) hu28 rfl (by kernel_rfl)) rfl ?_
    exact ⟨.inr ⟨HN.out, rfl⟩, below_far (below_far (below_far (below_far (below_far HB.out (Nat.le_refl _) 0 _) (Nat.le_refl _) 1 _) (Nat.le_refl _) 2 _) (Nat.le_refl _) 3 _) (Nat.le_refl _) 4 _⟩
  have d1 : decide (0 ≤ Lib.indexByte S.data.toList (13 : Int).toNat.toUInt8) = false := by rw [HI13.out]; exact decide_eq_false h13
  obtain ⟨i13, hi⟩ : ∃ i, i = Lib.indexByte S.data.toList (13 : Int).toNat.toUInt8 := ⟨_, rfl⟩
  rw [← hi] at d1
  have d1' : decide (i13 ≥ 0) = false := d1
  have HI := Aside0.mk hi
  clear hi HI13
  by_cases h10 : (10 : Int) ∈ l0.take (l0.length - 2)
  · have HN : Aside0 (lineFind l0 = none) := ⟨by unfold lineFind lineText; rw [if_neg (fun hh => hh.2.2.2 h10)]⟩
    obtain ⟨i10, hi⟩ : ∃ i, i = Lib.indexByte S.data.toList (10 : Int).toNat.toUInt8 := ⟨_, rfl⟩
    rw [← hi, decide_eq_true h10] at HI10
    have d2 : decide (i10 ≥ 0) = true := HI10.out
    have d2' : decide (0 ≤ i10) = true := HI10.out
    have HJ := Aside0.mk hi
    clear h10 hi h13
    go_enter Tryd.func10, Tryd.ntmps10
    go_wp2_with (first | (go_at_call 20; refine (line_CutSuffix S0 ⟨#[13, 10]⟩ _ HSS.out).mono ?_; rintro e' w1 ⟨he, rfl⟩; rw [show (⟨#[13, 10]⟩ : ByteArray).data.toList = [13, 10] from rfl, HOK.out, ← HS.out] at he; subst he; clear kc; rw [← HW.out]; have hc0 : W.cell? ⟨w.heap.size, 0, none⟩ = some (.int .i64 0) := (blk_cell HP.out 0).trans rfl; have hf0 : W.frozen? ⟨w.heap.size, 0, none⟩ = false := blk_frozen HP.out 0; have hc1 : W.cell? ⟨w.heap.size, 1, none⟩ = some (.int .i64 0) := (blk_cell HP.out 1).trans rfl; have hf1 : W.frozen? ⟨w.heap.size, 1, none⟩ = false := blk_frozen HP.out 1; have hc2 : W.cell? ⟨w.heap.size, 2, none⟩ = some (.int .i64 0) := (blk_cell HP.out 2).trans rfl; have hf2 : W.frozen? ⟨w.heap.size, 2, none⟩ = false := blk_frozen HP.out 2; have hc3 : W.cell? ⟨w.heap.size, 3, none⟩ = some (.int .u32 0) := (blk_cell HP.out 3).trans rfl; have hf3 : W.frozen? ⟨w.heap.size, 3, none⟩ = false := blk_frozen HP.out 3; have hc4 : W.cell? ⟨w.heap.size, 4, none⟩ = some (.int .i64 0) := (blk_cell HP.out 4).trans rfl; have hf4 : W.frozen? ⟨w.heap.size, 4, none⟩ = false := blk_frozen HP.out 4) | (go_at_call 21; have tk := HI; refine (line_IndexByte S 13 _).mono ?_; rintro e' w1 ⟨he, rfl⟩; rw [← HI.out] at he; subst he; clear HI tk) | (go_at_call 21; refine (line_IndexByte S 10 _).mono ?_; rintro e' w1 ⟨he, rfl⟩; rw [← HJ.out] at he; subst he; clear HJ))
    refine bodyPost_ret (results_ct rfl _ _ w.heap.size 34 #[.int .i64 0, .int .i64 0, .int .i64 0, .int .u32 0, .int .i64 0] (0, 0) _ rfl (line_five HP.out) hu28 rfl (by kernel_rfl)) rfl ?_
    exact ⟨.inr ⟨HN.out, rfl⟩, below_far (below_far (below_far (below_far (below_far HB.out (Nat.le_refl _) 0 _) (Nat.le_refl _) 1 _) (Nat.le_refl _) 2 _) (Nat.le_refl _) 3 _) (Nat.le_refl _) 4 _⟩
  have d2 : decide (0 ≤ Lib.indexByte S.data.toList (10 : Int).toNat.toUInt8) = false := by rw [HI10.out]; exact decide_eq_false h10
  obtain ⟨i10, hi⟩ : ∃ i, i = Lib.indexByte S.data.toList (10 : Int).toNat.toUInt8 := ⟨_, rfl⟩
  rw [← hi] at d2
  have d2' : decide (i10 ≥ 0) = false := d2
  have HJ := Aside0.mk hi
  have HFF : Aside0 (lineFind l0 = lineFrom (bytesOf S) 4) := ⟨by rw [HTR.out]; exact lineFind_eq l0 _ (by unfold lineText; rw [if_pos ⟨HSUF2.out.1, HSUF2.out.2, h13, h10⟩])⟩
  have HSZ : Aside0 (S.size ≤ 9223372036854775807) := ⟨by rw [← bytesOf_length, HTR.out, List.length_take]; have := HLEN.out; omega⟩
  clear hi HI10 h13 h10 HSUF2
  go_enter Tryd.func10, Tryd.ntmps10
  go_wp2_with (first | (go_at_call 20; refine (line_CutSuffix S0 ⟨#[13, 10]⟩ _ HSS.out).mono ?_; rintro e' w1 ⟨he, rfl⟩; rw [show (⟨#[13, 10]⟩ : ByteArray).data.toList = [13, 10] from rfl, HOK.out, ← HS.out] at he; subst he; clear kc; rw [← HW.out]; have hc0 : W.cell? ⟨w.heap.size, 0, none⟩ = some (.int .i64 0) := (blk_cell HP.out 0).trans rfl; have hf0 : W.frozen? ⟨w.heap.size, 0, none⟩ = false := blk_frozen HP.out 0; have hc1 : W.cell? ⟨w.heap.size, 1, none⟩ = some (.int .i64 0) := (blk_cell HP.out 1).trans rfl; have hf1 : W.frozen? ⟨w.heap.size, 1, none⟩ = false := blk_frozen HP.out 1; have hc2 : W.cell? ⟨w.heap.size, 2, none⟩ = some (.int .i64 0) := (blk_cell HP.out 2).trans rfl; have hf2 : W.frozen? ⟨w.heap.size, 2, none⟩ = false := blk_frozen HP.out 2; have hc3 : W.cell? ⟨w.heap.size, 3, none⟩ = some (.int .u32 0) := (blk_cell HP.out 3).trans rfl; have hf3 : W.frozen? ⟨w.heap.size, 3, none⟩ = false := blk_frozen HP.out 3; have hc4 : W.cell? ⟨w.heap.size, 4, none⟩ = some (.int .i64 0) := (blk_cell HP.out 4).trans rfl; have hf4 : W.frozen? ⟨w.heap.size, 4, none⟩ = false := blk_frozen HP.out 4) | (go_at_call 21; have tk := HI; refine (line_IndexByte S 13 _).mono ?_; rintro e' w1 ⟨he, rfl⟩; rw [← HI.out] at he; subst he; clear HI tk) | (go_at_call 21; refine (line_IndexByte S 10 _).mono ?_; rintro e' w1 ⟨he, rfl⟩; rw [← HJ.out] at he; subst he; clear HJ))
  have kb := fun W => print_bytes (P := Tryd.prog) 9 32 5 Tryd.underlying9 Tryd.underlying32 Tryd.underlying5 S W
  go_loopg [6] 4 (fun kq v6 w' => ∃ (j : Nat), v6 = .int .i64 j ∧ Aside0 (j + kq = 5 ∧ 1 ≤ j) ∧ Aside0 (lineFrom (bytesOf S) kq = lineFrom (bytesOf S) 4) ∧ Aside0 (w'.heap[w.heap.size]? = some (.cells #[.int .i64 0, .int .i64 0, .int .i64 0, .int .u32 0, .int .i64 0] 34 (0, 0))) ∧ Aside0 (Below w.heap.size w w'))
  case atStart => exact ⟨1, rfl, ⟨by decide⟩, ⟨rfl⟩, HP, HB⟩
  case round =>
    clear HP HB HW hc0 hc1 hc2 hc3 hc4 hf0 hf1 hf2 hf3 hf4
    obtain ⟨j, rfl, HJJ, HFR, HP, HB⟩ := hrel
    obtain ⟨wo, rfl⟩ : ∃ wo : World, wo = wr := ⟨_, rfl⟩
    have hlt := blk_lt HP.out
    have HLT := Aside0.mk hlt
    clear hlt
    by_cases hj : j ≤ 4
    · have q1 : decide ((j : Int) ≤ 4) = true := decide_eq_true (by omega)
      have q1' : decide (j ≤ 4) = true := decide_eq_true hj
      obtain ⟨m, hm⟩ : ∃ m, gk = m + 1 := ⟨gk - 1, by have := HJJ.out; omega⟩
      have HM := Aside0.mk hm
      have HKIND : Aside0 (4 - (m : Int) = (j : Int)) := ⟨by have := HJJ.out; omega⟩
      have HRD := Aside0.mk (line_reads.text S HSZ.out (j : Int) (by have := HJJ.out; omega) (by omega) wo)
      have q2 : wrap64 ((j : Int) + 1) = ((j + 1 : Nat) : Int) := by unfold wrap64; omega
      clear hm hj
      cases hF : lineRead (bytesOf S) (j : Int) with
      | none =>
        rw [hF] at HRD
        have HFR2 : Aside0 (lineFrom (bytesOf S) m = lineFrom (bytesOf S) 4) := ⟨by have h := HFR.out; rw [HM.out, lineFrom_step, HKIND.out] at h; simp only [hF] at h; exact h⟩
        clear hF
        go_wp2_with (first | (go_at_call 22; refine HRD.out.mono ?_; rintro e' w1 ⟨(⟨kd, f, t, a, q, h1, h2⟩ | ⟨h1, rfl⟩), hb⟩; (case inl => cases h1); have HB1 := Aside0.mk hb; clear hb h1))
        go_roundg m
        case measure => have := HM.out; omega
        case rel => exact ⟨j + 1, congrArg (Value.int .i64) (by have := HJJ.out; have := HM.out; unfold wrap64; omega), ⟨by have := HJJ.out; have := HM.out; omega⟩, HFR2, ⟨(Below.heap_alloc _ _ _ (by have := HB1.out.size; have := HLT.out; omega)).trans ((HB1.out.block _ HLT.out).trans HP.out)⟩, ⟨(HB.out.trans (HB1.out.mono (Nat.le_of_lt HLT.out))).alloc (by have := HB1.out.size; have := HLT.out; omega) _⟩⟩
      | some r =>
        obtain ⟨kd, f, t, a, q⟩ := r
        rw [hF] at HRD
        have HN : Aside0 (lineFind l0 = some (kd, f, t, a, q)) := ⟨by have h := HFR.out; rw [HM.out, lineFrom_step, HKIND.out] at h; simp only [hF] at h; rw [HFF.out]; exact h.symm⟩
        clear hF
        go_upto_region 9 with (first | (go_at_call 22; refine HRD.out.mono ?_; rintro e' w1 ⟨(⟨kd', f', t', a', q', h1, rfl⟩ | ⟨h1, h2⟩), hb⟩; (case inr => cases h1); cases h1; have HB1 := Aside0.mk hb; clear hb))
        obtain ⟨W3, hW3⟩ : ∃ W3, W3 = w1.alloc (.cells #[.int .i64 kd, .int .i64 (f : Int), .int .i64 (t : Int), .int .u32 a, .int .i64 q] 34 (0, 0)) := ⟨_, rfl⟩
        have HP3 : Aside0 (W3.heap[w.heap.size]? = some (.cells #[.int .i64 0, .int .i64 0, .int .i64 0, .int .u32 0, .int .i64 0] 34 (0, 0))) := ⟨by rw [hW3]; exact (Below.heap_alloc _ _ _ (by have := HB1.out.size; have := HLT.out; omega)).trans ((HB1.out.block _ HLT.out).trans HP.out)⟩
        have HB3 : Aside0 (Below w.heap.size w W3) := ⟨by rw [hW3]; exact (HB.out.trans (HB1.out.mono (Nat.le_of_lt HLT.out))).alloc (by have := HB1.out.size; have := HLT.out; omega) _⟩
        have HQ3 : Aside0 (W3.heap[w1.heap.size]? = some (.cells #[.int .i64 kd, .int .i64 (f : Int), .int .i64 (t : Int), .int .u32 a, .int .i64 q] 34 (0, 0))) := ⟨by rw [hW3]; exact heap_alloc_new _ _⟩
        rw [← hW3]
        clear hW3 kb
        have hu28' := hu28
        have hc0 : W3.cell? ⟨w.heap.size, 0, none⟩ = some (.int .i64 0) := (blk_cell HP3.out 0).trans rfl
        have hf0 : W3.frozen? ⟨w.heap.size, 0, none⟩ = false := blk_frozen HP3.out 0
        have hc1 : W3.cell? ⟨w.heap.size, 1, none⟩ = some (.int .i64 0) := (blk_cell HP3.out 1).trans rfl
        have hf1 : W3.frozen? ⟨w.heap.size, 1, none⟩ = false := blk_frozen HP3.out 1
        have hc2 : W3.cell? ⟨w.heap.size, 2, none⟩ = some (.int .i64 0) := (blk_cell HP3.out 2).trans rfl
        have hf2 : W3.frozen? ⟨w.heap.size, 2, none⟩ = false := blk_frozen HP3.out 2
        have hc3 : W3.cell? ⟨w.heap.size, 3, none⟩ = some (.int .u32 0) := (blk_cell HP3.out 3).trans rfl
        have hf3 : W3.frozen? ⟨w.heap.size, 3, none⟩ = false := blk_frozen HP3.out 3
        have hc4 : W3.cell? ⟨w.heap.size, 4, none⟩ = some (.int .i64 0) := (blk_cell HP3.out 4).trans rfl
        have hf4 : W3.frozen? ⟨w.heap.size, 4, none⟩ = false := blk_frozen HP3.out 4
        have hd0 : W3.cell? ⟨w1.heap.size, 0, none⟩ = some (.int .i64 kd) := (blk_cell HQ3.out 0).trans rfl
        have hd1 : W3.cell? ⟨w1.heap.size, 1, none⟩ = some (.int .i64 (f : Int)) := (blk_cell HQ3.out 1).trans rfl
        have hd2 : W3.cell? ⟨w1.heap.size, 2, none⟩ = some (.int .i64 (t : Int)) := (blk_cell HQ3.out 2).trans rfl
        have hd3 : W3.cell? ⟨w1.heap.size, 3, none⟩ = some (.int .u32 a) := (blk_cell HQ3.out 3).trans rfl
        have hd4 : W3.cell? ⟨w1.heap.size, 4, none⟩ = some (.int .i64 q) := (blk_cell HQ3.out 4).trans rfl
        go_wp2_with (fail)
        obtain ⟨W4, hW4⟩ : ∃ W4, W4 = (((((W3.setCell ⟨w.heap.size, 0, none⟩ (.int .i64 kd)).setCell ⟨w.heap.size, 1, none⟩ (.int .i64 (f : Int))).setCell ⟨w.heap.size, 2, none⟩ (.int .i64 (t : Int))).setCell ⟨w.heap.size, 3, none⟩ (.int .u32 a)).setCell ⟨w.heap.size, 4, none⟩ (.int .i64 q)) := ⟨_, rfl⟩
        rw [← hW4]
        have K1 : W4.heap[w.heap.size]? = some (.cells #[.int .i64 kd, .int .i64 (f : Int), .int .i64 (t : Int), .int .u32 a, .int .i64 q] 34 (0, 0)) := by
          rw [hW4]
          exact line_five HP3.out
        have K3 : Below w.heap.size w W4 := by
          rw [hW4]
          exact below_far (below_far (below_far (below_far (below_far HB3.out (Nat.le_refl _) 0 _) (Nat.le_refl _) 1 _) (Nat.le_refl _) 2 _) (Nat.le_refl _) 3 _) (Nat.le_refl _) 4 _
        refine bodyPost_ret (results_ct rfl _ _ w.heap.size 34 #[.int .i64 kd, .int .i64 (f : Int), .int .i64 (t : Int), .int .u32 a, .int .i64 q] (0, 0) _ rfl K1 hu28 rfl (by kernel_rfl)) rfl ?_
        exact ⟨.inl ⟨kd, f, t, a, q, HN.out, rfl⟩, K3⟩
    · have q1 : decide ((j : Int) ≤ 4) = false := decide_eq_false (by omega)
      have q1' : decide (j ≤ 4) = false := decide_eq_false hj
      have HN : Aside0 (lineFind l0 = none) := ⟨by rw [HFF.out, ← HFR.out, show gk = 0 from by have := HJJ.out; omega]; rfl⟩
      clear hj kb
      have hc0 : wo.cell? ⟨w.heap.size, 0, none⟩ = some (.int .i64 0) := (blk_cell HP.out 0).trans rfl
      have hf0 : wo.frozen? ⟨w.heap.size, 0, none⟩ = false := blk_frozen HP.out 0
      have hc1 : wo.cell? ⟨w.heap.size, 1, none⟩ = some (.int .i64 0) := (blk_cell HP.out 1).trans rfl
      have hf1 : wo.frozen? ⟨w.heap.size, 1, none⟩ = false := blk_frozen HP.out 1
      have hc2 : wo.cell? ⟨w.heap.size, 2, none⟩ = some (.int .i64 0) := (blk_cell HP.out 2).trans rfl
      have hf2 : wo.frozen? ⟨w.heap.size, 2, none⟩ = false := blk_frozen HP.out 2
      have hc3 : wo.cell? ⟨w.heap.size, 3, none⟩ = some (.int .u32 0) := (blk_cell HP.out 3).trans rfl
      have hf3 : wo.frozen? ⟨w.heap.size, 3, none⟩ = false := blk_frozen HP.out 3
      have hc4 : wo.cell? ⟨w.heap.size, 4, none⟩ = some (.int .i64 0) := (blk_cell HP.out 4).trans rfl
      have hf4 : wo.frozen? ⟨w.heap.size, 4, none⟩ = false := blk_frozen HP.out 4
      go_wp2_with (fail)
      refine bodyPost_ret (results_ct rfl _ _ w.heap.size 34 #[.int .i64 0, .int .i64 0, .int .i64 0, .int .u32 0, .int .i64 0] (0, 0) _ rfl (line_five HP.out) hu28 rfl (by kernel_rfl)) rfl ?_
      exact ⟨.inr ⟨HN.out, rfl⟩, below_far (below_far (below_far (below_far (below_far HB.out (Nat.le_refl _) 0 _) (Nat.le_refl _) 1 _) (Nat.le_refl _) 2 _) (Nat.le_refl _) 3 _) (Nat.le_refl _) 4 _⟩
def line_Find.f (l : List Int) : Option (Int × Int × Int × Int × Int × Bool) :=
  if ∀ x ∈ l, 0 ≤ x ∧ x ≤ 255 then (match lineFind l with
    | some (k, f, t, a, p) => some (k, (f : Int), (t : Int), a, p, true)
    | none => some (0, 0, 0, 0, 0, false)) else none
theorem line_Find.calls (A0 : Option Addr) (c0 : Nat) (l0 : List Int) (r1 r2 r3 r4 r5 : Int) (r6 : Bool) (w : World) (hr0 : Kd.C (Kd.int .u8) w A0 l0.length l0) (hc0 : l0.length ≤ c0) (h : line_Find.f l0 = some (r1, r2, r3, r4, r5, r6)) :
    Calls Tryd.prog 10 #[.slice A0 l0.length c0] w fun e w' => e = .returned (.tuple #[.agg #[.int .i64 r1, .int .i64 r2, .int .i64 r3, .int .u32 r4, .int .i64 r5], .bool r6]) ∧ Below w.heap.size w w' := by
  unfold line_Find.f at h
  split at h
  case isFalse => cases h
  rename_i hby
  refine (line_Find.run A0 c0 l0 w hr0 hby).mono ?_
  rintro e w' ⟨⟨kd, f, t, a, q, h1, rfl⟩ | ⟨h1, rfl⟩, hb⟩
  · rw [h1] at h
    simp only [Option.some.injEq, Prod.mk.injEq] at h
    obtain ⟨rfl, rfl, rfl, rfl, rfl, rfl⟩ := h
    exact ⟨rfl, hb⟩
  · rw [h1] at h
    simp only [Option.some.injEq, Prod.mk.injEq] at h
    obtain ⟨rfl, rfl, rfl, rfl, rfl, rfl⟩ := h
    exact ⟨rfl, hb⟩

end Go.Proofs.YtnbanjbhjjhkdaaDoor.P
