-- Laid by a program (wip/tools/myprint.py) out of the translation. Not trusted: Lean checks it.
import Derived.Test.YtdppnkgblklmmaaP0
import Derived.Test.YtdppnkgblklmmaaPoctetadderstep
import Derived.Test.YtdppnkgblklmmaaPoctetfold
namespace Go.Proofs.Ytdppnkgblklmmaa.P
open Go.RowKit Go.Proofs.YtdppnkgblklmmaaW.PrintWords Go.Proofs.YtdppnkgblklmmaaW.PrintLast Go.Proofs.YtdppnkgblklmmaaW.PrintMore
attribute [local go_sem] max2_int min2_int max_two min_two max_three min_three max_four min_four   -- for this text's walks alone
set_option linter.unusedVariables false
set_option linter.unusedSimpArgs false

/-! ### octet_Sum: function 26, by hand -/
def octet_Sum.step (s : Int × Bool) (c : Int) : Int × Bool := if s.2 = true then (IntKind.u64.wrap (s.1 + (IntKind.u64.wrap c)), !s.2) else (IntKind.u64.wrap (s.1 + (IntKind.u64.wrap ((IntKind.u64.wrap c) * 256))), !s.2)
def octet_Sum.tot (s : Int × Bool) (l0 : List (List Int)) : Int × Bool := l0.foldl (fun s b => b.foldl octet_Sum.step s) s
def octet_Sum.f (l0 : List (List Int)) : Option Int := octet_fold.f 8 (octet_Sum.tot (0, false) l0).1
theorem octet_Sum.step_some (t : Int) (o : Bool) (c : Int) : octet_adder_step.f t o c = some ((octet_Sum.step (t, o) c).1, (octet_Sum.step (t, o) c).2) := by
  unfold octet_adder_step.f octet_Sum.step
  cases o <;> rfl
def octet_Sum.rdL (xs : List (List Int)) (i : Int) : (List Int) := xs.getD i.toNat ([] : List Int)
theorem octet_Sum.at_L {e : Nat} {w : World} {A : Option Addr} {n : Nat} {xs : List (List Int)} (h : Kd.C (Kd.slice e (Kd.int .u8)) w A n xs) (i : Int) (h0 : 0 ≤ i) (h1 : i < n) : ∃ ad A0 c0, A = some ad ∧ w.cell? (ad.add i.toNat) = some (.slice A0 (octet_Sum.rdL xs i).length c0) ∧ (octet_Sum.rdL xs i).length ≤ c0 ∧ (Kd.int .u8).C w A0 (octet_Sum.rdL xs i).length (octet_Sum.rdL xs i) := by
  obtain ⟨ad, c, e, _, hK, hc0⟩ := Kd.C_get h ([] : List Int) i h0 h1
  have hc : ∀ j u, c[j]? = some u → w.cell? (ad.add (i.toNat * 1 + j)) = some u := hc0
  obtain ⟨A0, c0, rfl, l0, g0⟩ := hK
  exact ⟨ad, A0, c0, e, by have hq := hc 0 _ rfl; rwa [Nat.mul_one, Nat.add_zero] at hq, l0, g0⟩
theorem octet_Sum.tot_snoc (s : Int × Bool) (l0 : List (List Int)) (j : Nat) (h : j < l0.length) : octet_Sum.tot s (l0.take (j + 1)) = (octet_Sum.rdL l0 (j : Int)).foldl octet_Sum.step (octet_Sum.tot s (l0.take j)) := by
  unfold octet_Sum.tot octet_Sum.rdL
  rw [List.take_succ_eq_append_getElem h, List.foldl_append]
  simp [h]
theorem octet_Sum.row_snoc (s : Int × Bool) (l : List Int) (i : Nat) (h : i < l.length) : (l.take (i + 1)).foldl octet_Sum.step s = octet_Sum.step ((l.take i).foldl octet_Sum.step s) (rd l (i : Int)) := by
  rw [List.take_succ_eq_append_getElem h, List.foldl_append]
  simp [rd, h]
set_option maxHeartbeats 800000 in
set_option maxRecDepth 100000 in
theorem octet_Sum.calls (A0 : Option Addr) (c0 : Nat) (l0 : List (List Int)) (r : Int) (w : World) (hr0 : Kd.C (Kd.slice 5 (Kd.int .u8)) w A0 l0.length l0) (hc0 : l0.length ≤ c0) (h : octet_Sum.f l0 = some r) :
    Calls Try.prog 26 #[.slice A0 l0.length c0] w fun e w' => e = .returned (.int .i64 r) ∧ Below w.heap.size w w' := by
  have HR0 := Aside0.mk hr0
  have HC0 := Aside0.mk hc0
  have HN := hr0.2.1
  clear hr0 hc0
  have HF := Aside0.mk h
  clear h
  have HB := Aside0.mk (Below.refl w.heap.size w)
  have HI := Aside0.mk (IsS81.new w w 0 false (Below.refl w.heap.size w))
  have hmf : ∀ (fn : Fn) (first cap : Array Value) (w : World), (Instr.makeFunc fn first cap).run Try.prog w = .ok (.func fn first cap) w := fun _ _ _ _ => rfl
  go_enter Try.func26, Try.ntmps26
  go_wp2_with (fail)
  go_loopg [15] l0.length (fun kq v15 w' => ∃ (j : Nat) (t : Int) (o : Bool), v15 = .int .i64 j ∧ Aside0 (j + kq = l0.length) ∧ Aside0 (octet_Sum.tot (0, false) (l0.take j) = (t, o)) ∧ Aside0 (IsS81 w w' w.heap.size t o) ∧ Aside0 (Below w.heap.size w w'))
  case atStart => exact ⟨0, 0, false, rfl, ⟨by simp⟩, ⟨rfl⟩, HI, ⟨below_alloc HB.out _⟩⟩
  case round =>
    clear HI HB
    obtain ⟨j, t, o, rfl, HJ, HT, HI, HB⟩ := hrel
    by_cases c2 : j < l0.length
    · have c2b0 : decide (j < l0.length) = true := decide_eq_true c2
      have c2b1 : decide ((j : Int) < (l0.length : Int)) = true := decide_eq_true (by omega)
      obtain ⟨ad, A1, c1, e1, hx, hl1, hr1⟩ := octet_Sum.at_L HR0.out (j : Int) (by omega) (by omega)
      cases e1
      have HR1 := Aside0.mk hr1
      have HC1 := Aside0.mk hl1
      have HN1 := hr1.2.1
      have HS := Aside0.mk (octet_Sum.tot_snoc (0, false) l0 j c2)
      generalize octet_Sum.rdL l0 (j : Int) = l1 at *
      replace hx := (HB.out.cell (World.block_lt_of_cell? w _ hx)).trans hx
      simp only [Int.toNat_natCast] at hx
      clear hr1 hl1
      obtain ⟨wo, rfl⟩ : ∃ wo : World, wo = wr := ⟨_, rfl⟩
      obtain ⟨g0, rfl⟩ : ∃ g0, gk = g0 + 1 := ⟨gk - 1, by have := HJ.out; omega⟩
      go_wp2_with (fail)
      go_loopg [21] l1.length (fun kq v21 w' => ∃ (i : Nat) (t2 : Int) (o2 : Bool), v21 = .int .i64 i ∧ Aside0 (i + kq = l1.length) ∧ Aside0 ((l1.take i).foldl octet_Sum.step (t, o) = (t2, o2)) ∧ Aside0 (IsS81 w w' w.heap.size t2 o2) ∧ Aside0 (Below w.heap.size w w'))
      case atStart => exact ⟨0, t, o, rfl, ⟨by simp⟩, ⟨rfl⟩, HI, HB⟩
      case round =>
        clear HI HB hx
        obtain ⟨i, t2, o2, rfl, HJ2, HT2, HI, HB⟩ := hrel
        by_cases c3 : i < l1.length
        · have c3b0 : decide (i < l1.length) = true := decide_eq_true c3
          have c3b1 : decide ((i : Int) < (l1.length : Int)) = true := decide_eq_true (by omega)
          obtain ⟨ad1, e2, hx1⟩ := Kd.at_int HR1.out (i : Int) (by omega) (by omega)
          cases e2
          have HS2 := Aside0.mk (octet_Sum.row_snoc (t, o) l1 i c3)
          generalize rd l1 (i : Int) = c at *
          replace hx1 := (HB.out.cell (World.block_lt_of_cell? w _ hx1)).trans hx1
          simp only [Int.toNat_natCast] at hx1
          have HX := Aside0.mk (octet_Sum.step_some t2 o2 c)
          rcases hst : octet_Sum.step (t2, o2) c with ⟨t3, o3⟩
          have Hst := Aside0.mk hst
          clear hst
          go_wp2_with (fail)
          ((with_reducible refine (octet_adder_step.calls w.heap.size t2 o2 c _ _ w _ HI.out HB.out HX.out).mono ?_); rintro e w2 ⟨rfl, hi, hb, -⟩)
          have HI2 := Aside0.mk hi
          have HB2 := Aside0.mk hb
          clear hi hb HI HB HX hx1
          obtain ⟨k1, rfl⟩ : ∃ k1, gk = k1 + 1 := ⟨gk - 1, by have := HJ2.out; omega⟩
          go_wp2
          go_roundg k1
          case measure => omega
          case rel => exact ⟨i + 1, t3, o3, by go_num, ⟨by have := HJ2.out; omega⟩, ⟨by rw [HS2.out, HT2.out, Hst.out]⟩, by rw [Hst.out] at HI2; exact HI2, HB2⟩
        · have c3b0 : decide (i < l1.length) = false := decide_eq_false c3
          have c3b1 : decide ((i : Int) < (l1.length : Int)) = false := decide_eq_false (by omega)
          have HE : Aside0 (l1.take i = l1) := ⟨List.take_of_length_le (by omega)⟩
          go_wp2
          go_roundg g0
          case measure => omega
          case rel => exact ⟨j + 1, t2, o2, by go_num, ⟨by have := HJ.out; omega⟩, ⟨by rw [HS.out, HT.out]; have h := HT2.out; rw [HE.out] at h; exact h⟩, HI, HB⟩
    · have c2b0 : decide (j < l0.length) = false := decide_eq_false c2
      have c2b1 : decide ((j : Int) < (l0.length : Int)) = false := decide_eq_false (by omega)
      have HE : Aside0 (l0.take j = l0) := ⟨List.take_of_length_le (by omega)⟩
      obtain ⟨HG, hg⟩ := HI.out
      have hc0 := cellS81_0 HG
      clear HG hg
      have HF2 : Aside0 (octet_fold.f 8 t = some r) := ⟨by have h := HF.out; unfold octet_Sum.f at h; have h2 := HT.out; rw [HE.out] at h2; rw [h2] at h; exact h⟩
      go_wp2_with (fail)
      ((with_reducible refine (octet_fold.calls 8 t r _ HF2.out).mono ?_); rintro e w2 ⟨rfl, ⟨nd, rfl⟩⟩)
      go_wp2
      go_ret
      exact ⟨rfl, pw_below_drewN HB.out nd⟩

end Go.Proofs.Ytdppnkgblklmmaa.P
