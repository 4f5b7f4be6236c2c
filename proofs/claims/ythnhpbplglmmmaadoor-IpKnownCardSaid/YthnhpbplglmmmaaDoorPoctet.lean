-- Laid by a program (wip/tools/myprint.py) out of the translation. Not trusted: Lean checks it.
import Derived.Test.YthnhpbplglmmmaaDoorP0
namespace Go.Proofs.YthnhpbplglmmmaaDoor.P
open Go.RowKit Go.Proofs.YthnhpbplglmmmaaDoorW.PrintWords Go.Proofs.YthnhpbplglmmmaaDoorW.PrintLast
set_option linter.unusedVariables false
set_option linter.unusedSimpArgs false

/-- A state of type 73 at block g of W; what its slices lead to came in by w0. -/
def IsS73 (w0 W : World) (g : Nat) (f0 : Int) (f1 : Bool) : Prop := W.heap[g]? = some (.cells #[.int .u64 f0, .bool f1] 73 (0, 0)) ∧ w0.heap.size ≤ g
theorem IsS73.grown {w0 W : World} {g : Nat} {f0 : Int} {f1 : Bool} {W1 : World} {row : Option Nat} (h : IsS73 w0 W g f0 f1) (hw : W.grownBy W1 row) (hne : some g ≠ row) : IsS73 w0 W1 g f0 f1 := by
  obtain ⟨hb, hg⟩ := h
  exact ⟨blk_grown hb hw hne, hg⟩
theorem IsS73.own_neN {w0 W : World} {g : Nat} {f0 : Int} {f1 : Bool} {α : Type} {d : Kd α} {e : Nat} {base : Nat} {ok : Nat → Prop} {v : Value} {xs : List α} (h : IsS73 w0 W g f0 f1) (ho : Kd.N d e W base ok v xs) (ht : e ≠ 73) : some g ≠ v.ownBlock := by
  obtain ⟨hb, hg⟩ := h
  exact Kd.N_ne ho hb ht
theorem IsS73.fresh {w0 W : World} {g : Nat} {f0 : Int} {f1 : Bool} (h : IsS73 w0 W g f0 f1) : ∀ k, W.heap.size ≤ k → k ≠ g := by
  obtain ⟨hb, hg⟩ := h
  exact Kd.freshB hb
theorem IsS73.kept {w0 W : World} {g : Nat} {f0 : Int} {f1 : Bool} {W1 : World} {S : Nat → Prop} (h : IsS73 w0 W g f0 f1) (hk : Kept W W1 S) (hne : ¬ S g) : IsS73 w0 W1 g f0 f1 := by
  obtain ⟨hb, hg⟩ := h
  exact ⟨blk_kept hb hk hne, hg⟩
theorem IsS73.below {w0 W : World} {g : Nat} {f0 : Int} {f1 : Bool} {W1 : World} (h : IsS73 w0 W g f0 f1) (hw : Below W.heap.size W W1) : IsS73 w0 W1 g f0 f1 := h.grown (grown_of_below hw none) (by simp)
theorem IsS73.alloc {w0 W : World} {g : Nat} {f0 : Int} {f1 : Bool} (h : IsS73 w0 W g f0 f1) (o : Obj) : IsS73 w0 (W.alloc o) g f0 f1 := h.below (below_alloc (Below.refl _ _) o)
theorem IsS73.drewN {w0 W : World} {g : Nat} {f0 : Int} {f1 : Bool} (h : IsS73 w0 W g f0 f1) (m : Nat) : IsS73 w0 (W.drewN m) g f0 f1 := h
theorem IsS73.drew {w0 W : World} {g : Nat} {f0 : Int} {f1 : Bool} (h : IsS73 w0 W g f0 f1) : IsS73 w0 W.drew g f0 f1 := h
theorem IsS73.at_ {w0 W : World} {g : Nat} {f0 : Int} {f1 : Bool} {w' : World} {m : Nat} (hq : W.drewN m = w') (h : IsS73 w0 W g f0 f1) : IsS73 w0 w' g f0 f1 := by subst hq; exact IsS73.drewN h m
theorem IsS73.apart {w0 W : World} {g : Nat} {f0 : Int} {f1 : Bool} {α : Type} {d : Kd α} {e : Nat} {base : Nat} {ok : Nat → Prop} {v : Value} {xs : List α} (h : IsS73 w0 W g f0 f1) (ho : d.R e W base ok v xs) (ht : ∀ q, q ∈ e :: d.E → q ≠ 73) : d.R e W base (fun k => ok k ∧ k ≠ g) v xs := by
  obtain ⟨hb, hg⟩ := h
  exact Kd.R_types ho hb ht
theorem IsS73.own_ne {w0 W : World} {g : Nat} {f0 : Int} {f1 : Bool} {α : Type} {d : Kd α} {e : Nat} {base : Nat} {ok : Nat → Prop} {v : Value} {xs : List α} (h : IsS73 w0 W g f0 f1) (ho : d.R e W base ok v xs) (ht : e ≠ 73) : some g ≠ v.ownBlock := by
  obtain ⟨hb, hg⟩ := h
  exact Kd.R_ne ho hb ht
theorem IsS73.apartQ {w0 W : World} {g : Nat} {f0 : Int} {f1 : Bool} {α : Type} {d : Kd α} {e : Nat} {base : Nat} {ok : Nat → Prop} {v : Value} {xs : List α} (h : IsS73 w0 W g f0 f1) (ho : d.Q e W base ok v xs) (ht : ∀ q, q ∈ e :: d.E → q ≠ 73) : d.Q e W base (fun k => ok k ∧ k ≠ g) v xs := by
  obtain ⟨hb, hg⟩ := h
  exact Kd.Q_types ho hb ht
theorem IsS73.own_neQ {w0 W : World} {g : Nat} {f0 : Int} {f1 : Bool} {α : Type} {d : Kd α} {e : Nat} {base : Nat} {ok : Nat → Prop} {v : Value} {xs : List α} (h : IsS73 w0 W g f0 f1) (ho : d.Q e W base ok v xs) (ht : e ≠ 73) : some g ≠ v.ownBlock := by
  obtain ⟨hb, hg⟩ := h
  exact Kd.Q_ne ho hb ht
theorem IsS73.apartS {w0 W : World} {g : Nat} {f0 : Int} {f1 : Bool} {α : Type} {d : Kd α} {e : Nat} {base : Nat} {ok : Nat → Prop} {v : Value} {xs : List α} (h : IsS73 w0 W g f0 f1) (ho : d.S e W base ok v xs) (ht : ∀ q, q ∈ e :: d.E → q ≠ 73) : d.S e W base (fun k => ok k ∧ k ≠ g) v xs := by
  obtain ⟨hb, hg⟩ := h
  exact Kd.S_types ho hb ht
theorem IsS73.own_neS {w0 W : World} {g : Nat} {f0 : Int} {f1 : Bool} {α : Type} {d : Kd α} {e : Nat} {base : Nat} {ok : Nat → Prop} {v : Value} {xs : List α} (h : IsS73 w0 W g f0 f1) (ho : d.S e W base ok v xs) (ht : e ≠ 73) : some g ≠ v.ownBlock := by
  obtain ⟨hb, hg⟩ := h
  exact Kd.S_ne ho hb ht
theorem IsS73.lt {w0 W : World} {g : Nat} {f0 : Int} {f1 : Bool} (h : IsS73 w0 W g f0 f1) : g < W.heap.size := by
  obtain ⟨hb, hg⟩ := h
  exact blk_lt hb
theorem IsS73.ge {w0 W : World} {g : Nat} {f0 : Int} {f1 : Bool} (h : IsS73 w0 W g f0 f1) : w0.heap.size ≤ g := by
  obtain ⟨hb, hg⟩ := h
  exact hg
theorem IsS73.ne_blk {w0 W : World} {g : Nat} {f0 : Int} {f1 : Bool} {a : Nat} {cs : Array Value} {t : TypeId} {fr : Nat × Nat} (h : IsS73 w0 W g f0 f1) (hb2 : W.heap[a]? = some (.cells cs t fr)) (ht : t ≠ 73) : g ≠ a := by
  obtain ⟨hb, hg⟩ := h
  rintro rfl
  rw [hb] at hb2
  injection hb2 with hb2
  injection hb2 with _ ht2
  exact ht ht2.symm
theorem IsS73.far {w0 W : World} {g : Nat} {f0 : Int} {f1 : Bool} {p : Addr} (h : IsS73 w0 W g f0 f1) (hne : g ≠ p.block) (u : Value) : IsS73 w0 (W.setCell p u) g f0 f1 := by
  obtain ⟨hb, hg⟩ := h
  exact ⟨blk_far hb hne u, hg⟩
theorem cellS73_0 {W : World} {g : Nat} {f0 : Int} {f1 : Bool} (h : W.heap[g]? = some (.cells #[.int .u64 f0, .bool f1] 73 (0, 0))) : W.cell? ⟨g, 0, none⟩ = some (.int .u64 f0) := (blk_cell h 0).trans rfl
theorem IsS73.set_0 {w0 W : World} {g : Nat} {f0 : Int} {f1 : Bool} (h : IsS73 w0 W g f0 f1) (x : Int) : IsS73 w0 (W.setCell ⟨g, 0, none⟩ (.int .u64 x)) g x f1 := by
  obtain ⟨hb, hg⟩ := h
  exact ⟨by simpa using blk_set hb 0 (.int .u64 x), hg⟩
theorem cellS73_1 {W : World} {g : Nat} {f0 : Int} {f1 : Bool} (h : W.heap[g]? = some (.cells #[.int .u64 f0, .bool f1] 73 (0, 0))) : W.cell? ⟨g, 1, none⟩ = some (.bool f1) := (blk_cell h 1).trans rfl
theorem IsS73.set_1 {w0 W : World} {g : Nat} {f0 : Int} {f1 : Bool} (h : IsS73 w0 W g f0 f1) (x : Bool) : IsS73 w0 (W.setCell ⟨g, 1, none⟩ (.bool x)) g f0 x := by
  obtain ⟨hb, hg⟩ := h
  exact ⟨by simpa using blk_set hb 1 (.bool x), hg⟩
theorem IsS73.new (w0 W : World) (f0 : Int) (f1 : Bool) (hB : Below w0.heap.size w0 W) : IsS73 w0 (W.alloc (.cells #[.int .u64 f0, .bool f1] 73)) W.heap.size f0 f1 := ⟨by simpa using heap_alloc_new W _, hB.size⟩

/-! ### octet_adder_step: function 39 -/
def octet_adder_step.f (s0_0 : Int) (s0_1 : Bool) (a1 : Int) : Option (Int × Bool) := if s0_1 = true then (some (IntKind.u64.wrap (s0_0 + (IntKind.u64.wrap (a1))), !s0_1)) else (some (IntKind.u64.wrap (s0_0 + (IntKind.u64.wrap ((IntKind.u64.wrap (a1)) * 256))), !s0_1))
set_option maxHeartbeats 8000000 in
set_option maxRecDepth 100000 in
theorem octet_adder_step.calls (g : Nat) (s0_0 : Int) (s0_1 : Bool) (a1 : Int) (r1 : Int) (r2 : Bool) (w0 w : World) (hI : IsS73 w0 w g s0_0 s0_1) (hB : Below w0.heap.size w0 w) (h : octet_adder_step.f s0_0 s0_1 a1 = some (r1, r2)) :
    Calls Tryd.prog 39 #[.pointer (some ⟨g, 0, none⟩), .int .u8 a1] w fun e w' => e = .returned (.tuple #[]) ∧ IsS73 w0 w' g r1 r2 ∧ Below w0.heap.size w0 w' ∧ KeepBut w w' g none := by
  have HI0 := Aside0.mk hI
  have HK := Aside0.mk (KeepBut.refl w g none)
  have HL := Aside0.mk hB.size
  clear hI
  have HW0 := Aside0.mk hB.size
  have HB := Aside0.mk hB
  clear hB
  have H : (if s0_1 = true then (some (IntKind.u64.wrap (s0_0 + (IntKind.u64.wrap (a1))), !s0_1)) else (some (IntKind.u64.wrap (s0_0 + (IntKind.u64.wrap ((IntKind.u64.wrap (a1)) * 256))), !s0_1))) = some (r1, r2) := h
  clear h
  by_cases c3 : s0_1 = true
  · subst c3
    have H1 : (some (IntKind.u64.wrap (s0_0 + (IntKind.u64.wrap (a1))), !true)) = some (r1, r2) := by rw [if_pos rfl] at H; exact H
    clear H
    have H := H1
    clear H1
    simp only [Option.some.injEq, Prod.mk.injEq] at H
    obtain ⟨rfl, rfl⟩ := H
    obtain ⟨HGz4, hgz4⟩ := HI0.out
    have hcz4_0 := cellS73_0 HGz4
    have hcz4_1 := cellS73_1 HGz4
    have hfz4_0 := blk_frozen HGz4 0
    have hfz4_1 := blk_frozen HGz4 1
    clear HGz4 hgz4
    go_enter Tryd.func39, Tryd.ntmps39
    go_wp2
    first | go_end0 | ((try simp only [Exit.inBlock, Exit.then]); refine bodyPost_ret (results_none rfl _ _ _) rfl ?_)
    exact ⟨by first | rfl | (simp [errW_none, errW_some] <;> rfl) | (simp [*, errW_none, errW_some] <;> rfl), by (try simp only [Bool.not_true, Bool.not_false]); repeat (first | (with_reducible first | exact HI0.out | apply IsS73.alloc | apply IsS73.drewN | apply IsS73.drew | apply IsS73.set_0 | apply IsS73.set_1) | exact HI0.out), by repeat (first | (with_reducible first | exact HB.out | apply below_alloc | apply pw_below_drewN | apply below_drew1 | refine below_set ?_ (IsS73.ge HI0.out)) | exact HB.out), by repeat (first | (with_reducible first | exact HK.out | apply KeepBut.set_ | apply keep_drewN | apply keep_drew | apply keep_alloc) | exact HK.out)⟩
  · replace c3 := Bool.eq_false_iff.mpr c3
    subst c3
    have H1 : (some (IntKind.u64.wrap (s0_0 + (IntKind.u64.wrap ((IntKind.u64.wrap (a1)) * 256))), !false)) = some (r1, r2) := by rw [if_neg (show ¬ (false = true) by decide)] at H; exact H
    clear H
    have H := H1
    clear H1
    simp only [Option.some.injEq, Prod.mk.injEq] at H
    obtain ⟨rfl, rfl⟩ := H
    obtain ⟨HGz5, hgz5⟩ := HI0.out
    have hcz5_0 := cellS73_0 HGz5
    have hcz5_1 := cellS73_1 HGz5
    have hfz5_0 := blk_frozen HGz5 0
    have hfz5_1 := blk_frozen HGz5 1
    clear HGz5 hgz5
    go_enter Tryd.func39, Tryd.ntmps39
    go_wp2
    first | go_end0 | ((try simp only [Exit.inBlock, Exit.then]); refine bodyPost_ret (results_none rfl _ _ _) rfl ?_)
    exact ⟨by first | rfl | (simp [errW_none, errW_some] <;> rfl) | (simp [*, errW_none, errW_some] <;> rfl), by (try simp only [Bool.not_true, Bool.not_false]); repeat (first | (with_reducible first | exact HI0.out | apply IsS73.alloc | apply IsS73.drewN | apply IsS73.drew | apply IsS73.set_0 | apply IsS73.set_1) | exact HI0.out), by repeat (first | (with_reducible first | exact HB.out | apply below_alloc | apply pw_below_drewN | apply below_drew1 | refine below_set ?_ (IsS73.ge HI0.out)) | exact HB.out), by repeat (first | (with_reducible first | exact HK.out | apply KeepBut.set_ | apply keep_drewN | apply keep_drew | apply keep_alloc) | exact HK.out)⟩

/-! ### octet_fold: function 40 -/
def octet_fold.l0 : Nat → Int → Option (Int)
  | 0, _ => none
  | k + 1, x0 => if x0 > 65535 then (octet_fold.l0 k (IntKind.u64.wrap ((x0 / 65536) + (Go.bits .and .u64 x0 65535)))) else (some (wrap64 (x0)))
def octet_fold.f (k : Nat) (a0 : Int) : Option (Int) := octet_fold.l0 k a0
theorem octet_fold.mono_l : ∀ k, (∀ y0, LeO (octet_fold.l0 k y0) (octet_fold.l0 (k + 1) y0))
  | 0 => fun _ r h => by simp [octet_fold.l0] at h
  | k + 1 => by
    have ih0 := octet_fold.mono_l k
    · intro y0
      unfold octet_fold.l0
      repeat' first
      | (with_reducible exact ih0 _)
      | (with_reducible exact LeO.refl _)
      | (with_reducible exact LeO.none _)
      | (with_reducible refine LeO.ite ?_ ?_)
      | (with_reducible refine LeO.bind ?_ (fun _ => ?_))
      | exact ih0 _
      | exact LeO.none _
      | refine LeO.ite ?_ ?_
      | refine LeO.bind ?_ (fun _ => ?_)
theorem octet_fold.mono : ∀ a0 k, LeO (octet_fold.f k a0) (octet_fold.f (k + 1) a0) := by
  intro a0 k
  have ih0 := octet_fold.mono_l k
  unfold octet_fold.f
  repeat' first
      | (with_reducible exact ih0 _)
      | (with_reducible exact LeO.refl _)
      | (with_reducible exact LeO.none _)
      | (with_reducible refine LeO.ite ?_ ?_)
      | (with_reducible refine LeO.bind ?_ (fun _ => ?_))
      | exact ih0 _
      | exact LeO.none _
      | refine LeO.ite ?_ ?_
      | refine LeO.bind ?_ (fun _ => ?_)
set_option maxHeartbeats 8000000 in
set_option maxRecDepth 100000 in
theorem octet_fold.calls (k : Nat) (a0 : Int) (r : Int) (w : World) (h : octet_fold.f k a0 = some r) :
    Calls Tryd.prog 40 #[.int .u64 a0] w fun e w' => e = .returned (.int .i64 r) ∧ Drawn0 w w' := by
  have H : (octet_fold.l0 k a0) = some r := h
  clear h
  have H' := Aside0.mk H
  clear H
  go_enter Tryd.func40, Tryd.ntmps40
  go_wp2
  go_loopg [0] k (fun kq v0 w' => ∃ (x0_1 : Int), v0 = .int .u64 x0_1 ∧ Aside0 (octet_fold.l0 kq x0_1 = some r) ∧ Aside0 (kq ≤ k) ∧ Drawn0 w w')
  case atStart => exact ⟨(a0), (by first | rfl | (simp; done) | (simp [*]; done)), H', ⟨Nat.le_refl _⟩, by repeat (first | exact Drawn0.refl _ | apply Drawn0.step)⟩
  case round =>
    clear H'
    obtain ⟨x0_1, rfl, HA, HK1, ⟨m1, rfl⟩⟩ := hrel
    cases gk with
    | zero => exact absurd HA.out (by simp [octet_fold.l0])
    | succ k1 =>
      have H := HA.out
      clear HA
      simp only [octet_fold.l0] at H
      by_cases c2 : x0_1 > 65535
      · rw [if_pos c2] at H
        have c2b0 : decide (65535 < x0_1) = true := decide_eq_true c2
        clear c2
        have H' := Aside0.mk H
        clear H
        go_wp2
        go_roundg k1
        case measure => have := HK1.out; omega
        case rel => exact ⟨(IntKind.u64.wrap ((x0_1 / 65536) + (Go.bits .and .u64 x0_1 65535))), (by first | rfl | (simp; done) | (simp [*]; done)), H', ⟨by have := HK1.out; omega⟩, by repeat (first | exact Drawn0.refl _ | apply Drawn0.step)⟩
      · rw [if_neg c2] at H
        have c2b0 : decide (65535 < x0_1) = false := decide_eq_false c2
        clear c2
        obtain rfl := Option.some.inj H
        go_wp2
        go_ret
        exact ⟨by first | rfl | (simp; done) | (simp [*]; done), by repeat (first | exact Drawn0.refl _ | apply Drawn0.step)⟩

/-! ### octet_Sum: function 29, by hand -/
def octet_Sum.step (s : Int × Bool) (c : Int) : Int × Bool := if s.2 = true then (IntKind.u64.wrap (s.1 + (IntKind.u64.wrap c)), !s.2) else (IntKind.u64.wrap (s.1 + (IntKind.u64.wrap ((IntKind.u64.wrap c) * 256))), !s.2)
def octet_Sum.tot (s : Int × Bool) (l0 : List (List Int)) : Int × Bool := l0.foldl (fun s b => b.foldl octet_Sum.step s) s
def octet_Sum.f (l0 : List (List Int)) : Option Int := octet_fold.f 8 (octet_Sum.tot (0, false) l0).1
theorem octet_Sum.step_some (t : Int) (o : Bool) (c : Int) : octet_adder_step.f t o c = some ((octet_Sum.step (t, o) c).1, (octet_Sum.step (t, o) c).2) := by
  unfold octet_adder_step.f octet_Sum.step
  cases o <;> rfl
def octet_Sum.rdL (xs : List (List Int)) (i : Int) : (List Int) := xs.getD i.toNat ([] : List Int)
theorem octet_Sum.at_L {e : Nat} {w : World} {A : Option Addr} {n : Nat} {xs : List (List Int)} (h : Kd.C (Kd.slice e (Kd.int .u8)) w A n xs) (i : Int) (h0 : 0 ≤ i) (h1 : i < n) : ∃ ad A0 c0, A = some ad ∧ w.cell? (ad.add i.toNat) = some (.slice A0 (octet_Sum.rdL xs i).length c0) ∧ (octet_Sum.rdL xs i).length ≤ c0 ∧ (Kd.int .u8).C w A0 (octet_Sum.rdL xs i).length (octet_Sum.rdL xs i) := by
  obtain ⟨ad, c, e, _, hK, hc0⟩ := Kd.C_get h ([] : List Int) i h0 h1
  have hc : ∀ j u, c[j]? = some u → w.cell? (ad.add (i.toNat * 1 + j)) = some u := hc0
  obtain ⟨A0, c0, rfl, l0, g0⟩ := hK
  exact ⟨ad, A0, c0, e, by have hq := hc 0 _ rfl; rwa [Nat.mul_one, Nat.add_zero] at hq, l0, g0⟩
theorem octet_Sum.tot_snoc (s : Int × Bool) (l0 : List (List Int)) (j : Nat) (h : j < l0.length) : octet_Sum.tot s (l0.take (j + 1)) = (octet_Sum.rdL l0 (j : Int)).foldl octet_Sum.step (octet_Sum.tot s (l0.take j)) := by
  unfold octet_Sum.tot octet_Sum.rdL
  rw [List.take_succ_eq_append_getElem h, List.foldl_append]
  simp [h]
theorem octet_Sum.row_snoc (s : Int × Bool) (l : List Int) (i : Nat) (h : i < l.length) : (l.take (i + 1)).foldl octet_Sum.step s = octet_Sum.step ((l.take i).foldl octet_Sum.step s) (rd l (i : Int)) := by
  rw [List.take_succ_eq_append_getElem h, List.foldl_append]
  simp [rd, h]
set_option maxHeartbeats 800000 in
set_option maxRecDepth 100000 in
theorem octet_Sum.calls (A0 : Option Addr) (c0 : Nat) (l0 : List (List Int)) (r : Int) (w : World) (hr0 : Kd.C (Kd.slice 5 (Kd.int .u8)) w A0 l0.length l0) (hc0 : l0.length ≤ c0) (h : octet_Sum.f l0 = some r) :
    Calls Tryd.prog 29 #[.slice A0 l0.length c0] w fun e w' => e = .returned (.int .i64 r) ∧ Below w.heap.size w w' := by
  have HR0 := Aside0.mk hr0
  have HC0 := Aside0.mk hc0
  have HN := hr0.2.1
  clear hr0 hc0
  have HF := Aside0.mk h
  clear h
  have HB := Aside0.mk (Below.refl w.heap.size w)
  have HI := Aside0.mk (IsS73.new w w 0 false (Below.refl w.heap.size w))
  have hmf : ∀ (fn : Fn) (first cap : Array Value) (w : World), (Instr.makeFunc fn first cap).run Tryd.prog w = .ok (.func fn first cap) w := fun _ _ _ _ => rfl
  go_enter Tryd.func29, Tryd.ntmps29
  go_wp2_with (fail)
  go_loopg [15] l0.length (fun kq v15 w' => ∃ (j : Nat) (t : Int) (o : Bool), v15 = .int .i64 j ∧ Aside0 (j + kq = l0.length) ∧ Aside0 (octet_Sum.tot (0, false) (l0.take j) = (t, o)) ∧ Aside0 (IsS73 w w' w.heap.size t o) ∧ Aside0 (Below w.heap.size w w'))
  case atStart => exact ⟨0, 0, false, rfl, ⟨by simp⟩, ⟨rfl⟩, HI, ⟨below_alloc HB.out _⟩⟩
  case round =>
    clear HI HB
    obtain ⟨j, t, o, rfl, HJ, HT, HI, HB⟩ := hrel
    by_cases c2 : j < l0.length
    · have c2b0 : decide (j < l0.length) = true := decide_eq_true c2
      have c2b1 : decide ((j : Int) < (l0.length : Int)) = true := decide_eq_true (by omega)
      obtain ⟨ad, A1, c1, e1, hx, hl1, hr1⟩ := octet_Sum.at_L HR0.out (j : Int) (by omega) (by omega)
      cases e1
      have HR1 := Aside0.mk hr1
      have HC1 := Aside0.mk hl1
      have HN1 := hr1.2.1
      have HS := Aside0.mk (octet_Sum.tot_snoc (0, false) l0 j c2)
      generalize octet_Sum.rdL l0 (j : Int) = l1 at *
      replace hx := (HB.out.cell (World.block_lt_of_cell? w _ hx)).trans hx
      simp only [Int.toNat_natCast] at hx
      clear hr1 hl1
      obtain ⟨wo, rfl⟩ : ∃ wo : World, wo = wr := ⟨_, rfl⟩
      obtain ⟨g0, rfl⟩ : ∃ g0, gk = g0 + 1 := ⟨gk - 1, by have := HJ.out; omega⟩
      go_wp2_with (fail)
      go_loopg [21] l1.length (fun kq v21 w' => ∃ (i : Nat) (t2 : Int) (o2 : Bool), v21 = .int .i64 i ∧ Aside0 (i + kq = l1.length) ∧ Aside0 ((l1.take i).foldl octet_Sum.step (t, o) = (t2, o2)) ∧ Aside0 (IsS73 w w' w.heap.size t2 o2) ∧ Aside0 (Below w.heap.size w w'))
      case atStart => exact ⟨0, t, o, rfl, ⟨by simp⟩, ⟨rfl⟩, HI, HB⟩
      case round =>
        clear HI HB hx
        obtain ⟨i, t2, o2, rfl, HJ2, HT2, HI, HB⟩ := hrel
        by_cases c3 : i < l1.length
        · have c3b0 : decide (i < l1.length) = true := decide_eq_true c3
          have c3b1 : decide ((i : Int) < (l1.length : Int)) = true := decide_eq_true (by omega)
          obtain ⟨ad1, e2, hx1⟩ := Kd.at_int HR1.out (i : Int) (by omega) (by omega)
          cases e2
          have HS2 := Aside0.mk (octet_Sum.row_snoc (t, o) l1 i c3)
          generalize rd l1 (i : Int) = c at *
          replace hx1 := (HB.out.cell (World.block_lt_of_cell? w _ hx1)).trans hx1
          simp only [Int.toNat_natCast] at hx1
          have HX := Aside0.mk (octet_Sum.step_some t2 o2 c)
          rcases hst : octet_Sum.step (t2, o2) c with ⟨t3, o3⟩
          have Hst := Aside0.mk hst
          clear hst
          go_wp2_with (fail)
          ((with_reducible refine (octet_adder_step.calls w.heap.size t2 o2 c _ _ w _ HI.out HB.out HX.out).mono ?_); rintro e w2 ⟨rfl, hi, hb, -⟩)
          have HI2 := Aside0.mk hi
          have HB2 := Aside0.mk hb
          clear hi hb HI HB HX hx1
          obtain ⟨k1, rfl⟩ : ∃ k1, gk = k1 + 1 := ⟨gk - 1, by have := HJ2.out; omega⟩
          go_wp2
          go_roundg k1
          case measure => omega
          case rel => exact ⟨i + 1, t3, o3, by go_num, ⟨by have := HJ2.out; omega⟩, ⟨by rw [HS2.out, HT2.out, Hst.out]⟩, by rw [Hst.out] at HI2; exact HI2, HB2⟩
        · have c3b0 : decide (i < l1.length) = false := decide_eq_false c3
          have c3b1 : decide ((i : Int) < (l1.length : Int)) = false := decide_eq_false (by omega)
          have HE : Aside0 (l1.take i = l1) := ⟨List.take_of_length_le (by omega)⟩
          go_wp2
          go_roundg g0
          case measure => omega
          case rel => exact ⟨j + 1, t2, o2, by go_num, ⟨by have := HJ.out; omega⟩, ⟨by rw [HS.out, HT.out]; have h := HT2.out; rw [HE.out] at h; exact h⟩, HI, HB⟩
    · have c2b0 : decide (j < l0.length) = false := decide_eq_false c2
      have c2b1 : decide ((j : Int) < (l0.length : Int)) = false := decide_eq_false (by omega)
      have HE : Aside0 (l0.take j = l0) := ⟨List.take_of_length_le (by omega)⟩
      obtain ⟨HG, hg⟩ := HI.out
      have hc0 := cellS73_0 HG
      clear HG hg
      have HF2 : Aside0 (octet_fold.f 8 t = some r) := ⟨by have h := HF.out; unfold octet_Sum.f at h; have h2 := HT.out; rw [HE.out] at h2; rw [h2] at h; exact h⟩
      go_wp2_with (fail)
      ((with_reducible refine (octet_fold.calls 8 t r _ HF2.out).mono ?_); rintro e w2 ⟨rfl, ⟨nd, rfl⟩⟩)
      go_wp2
      go_ret
      exact ⟨rfl, pw_below_drewN HB.out nd⟩

/-! ### octet_Check: function 26 -/
def octet_Check.f (l0 : List (List Int)) : Option (Int) := (octet_Sum.f l0).bind fun t102 => (some (wrap64 (65535 - t102)))
set_option maxHeartbeats 8000000 in
set_option maxRecDepth 100000 in
theorem octet_Check.calls (A0 : Option Addr) (c0 : Nat) (l0 : List (List Int)) (r : Int) (w : World) (hr0 : Kd.C (Kd.slice 5 (Kd.int .u8)) w A0 l0.length l0) (hc0 : l0.length ≤ c0) (h : octet_Check.f l0 = some r) :
    Calls Tryd.prog 26 #[.slice A0 l0.length c0] w fun e w' => e = .returned (.int .i64 r) ∧ Below w.heap.size w w' := by
  have HR0 := Aside0.mk hr0
  have HC0 := Aside0.mk hc0
  clear hr0 hc0
  have HB := Aside0.mk (Below.refl w.heap.size w)
  have H : ((octet_Sum.f l0).bind fun t102 => (some (wrap64 (65535 - t102)))) = some r := h
  clear h
  replace H := Option.bind_eq_some_iff.mp H
  obtain ⟨t102, A20, H⟩ := H
  replace H : (some (wrap64 (65535 - t102))) = some r := H
  have A2 := Aside0.mk A20
  clear A20
  obtain rfl := Option.some.inj H
  go_enter Tryd.func26, Tryd.ntmps26
  go_wp2_with (first | ((with_reducible refine gate_callee (f := 29) rfl ?_); refine goesL_ (some 4) rfl rfl Tryd.func29 (by kernel_rfl) rfl #[.slice A0 l0.length c0] rfl (by (try simp only [List.map_toArray, List.map_cons, List.map_nil]); first | done | rfl | (simp only [List.length_drop, List.length_take]; rfl)) ?_; (with_reducible refine (octet_Sum.calls _ _ l0 t102 _ ?side1 ?side2 A2.out).mono ?_); (case side1 => repeat (first | exact HR0.out | (with_reducible refine Kd.C_alloc ?_ _) | (with_reducible refine Kd.C_drewN ?_ _) | (with_reducible refine Kd.C_drew ?_))); (case side2 => exact HC0.out); rintro e w3 ⟨rfl, hb⟩; refine ⟨_, rfl, ?_⟩; have n0_ := Aside0.mk (below_step (by repeat (first | (with_reducible first | exact HB.out | apply below_alloc | apply pw_below_drewN | apply below_drew1) | exact HB.out)) hb); clear HB; have HB := n0_; clear n0_; (try clear hb); (try clear hb2); (try clear hk); (try clear hi)))
  go_ret
  exact ⟨by first | rfl | (simp [errW_none, errW_some] <;> rfl) | (simp [*, errW_none, errW_some] <;> rfl), by repeat (first | (with_reducible first | exact HB.out | apply below_alloc | apply pw_below_drewN | apply below_drew1) | exact HB.out)⟩

/-! ### octet_may: function 53 -/
def octet_may.f (l0 : List Int) (a1 : Int) (a2 : Int) : Option (Bool) := if a2 ≥ 1 then (if a2 ≤ 8 then (if a1 ≥ 0 then (some (decide (a1 ≤ (wrap64 ((l0.length : Int) - a2))))) else (some false)) else (some false)) else (some false)
set_option maxHeartbeats 8000000 in
set_option maxRecDepth 100000 in
theorem octet_may.calls (A0 : Option Addr) (c0 : Nat) (l0 : List Int) (a1 : Int) (a2 : Int) (r : Bool) (w : World) (hr0 : Kd.C (Kd.int .u8) w A0 l0.length l0) (hc0 : l0.length ≤ c0) (h : octet_may.f l0 a1 a2 = some r) :
    Calls Tryd.prog 53 #[.slice A0 l0.length c0, .int .i64 a1, .int .i64 a2] w fun e w' => e = .returned (.bool r) ∧ Drawn0 w w' := by
  have HR0 := Aside0.mk hr0
  have HC0 := Aside0.mk hc0
  clear hr0 hc0
  have H : (if a2 ≥ 1 then (if a2 ≤ 8 then (if a1 ≥ 0 then (some (decide (a1 ≤ (wrap64 ((l0.length : Int) - a2))))) else (some false)) else (some false)) else (some false)) = some r := h
  clear h
  by_cases c4 : a2 ≥ 1
  · rw [if_pos c4] at H
    have c4b0 : decide (1 ≤ a2) = true := decide_eq_true c4
    clear c4
    by_cases c5 : a2 ≤ 8
    · rw [if_pos c5] at H
      have c5b0 : decide (a2 ≤ 8) = true := decide_eq_true c5
      clear c5
      by_cases c6 : a1 ≥ 0
      · rw [if_pos c6] at H
        have c6b0 : decide (0 ≤ a1) = true := decide_eq_true c6
        clear c6
        obtain rfl := Option.some.inj H
        go_enter Tryd.func53, Tryd.ntmps53
        go_wp2
        go_ret
        exact ⟨by first | rfl | (simp; done) | (simp [*]; done), by repeat (first | exact Drawn0.refl _ | apply Drawn0.step)⟩
      · rw [if_neg c6] at H
        have c6b0 : decide (0 ≤ a1) = false := decide_eq_false c6
        clear c6
        obtain rfl := Option.some.inj H
        go_enter Tryd.func53, Tryd.ntmps53
        go_wp2
        go_ret
        exact ⟨by first | rfl | (simp; done) | (simp [*]; done), by repeat (first | exact Drawn0.refl _ | apply Drawn0.step)⟩
    · rw [if_neg c5] at H
      have c5b0 : decide (a2 ≤ 8) = false := decide_eq_false c5
      clear c5
      obtain rfl := Option.some.inj H
      go_enter Tryd.func53, Tryd.ntmps53
      go_wp2
      go_ret
      exact ⟨by first | rfl | (simp; done) | (simp [*]; done), by repeat (first | exact Drawn0.refl _ | apply Drawn0.step)⟩
  · rw [if_neg c4] at H
    have c4b0 : decide (1 ≤ a2) = false := decide_eq_false c4
    clear c4
    obtain rfl := Option.some.inj H
    go_enter Tryd.func53, Tryd.ntmps53
    go_wp2
    go_ret
    exact ⟨by first | rfl | (simp; done) | (simp [*]; done), by repeat (first | exact Drawn0.refl _ | apply Drawn0.step)⟩

/-! ### octet_Get: function 38, by hand -/
def octet_Get.be (x : Int) (l : List Int) : Int := l.foldl (fun x c => Go.bits .or .u64 (IntKind.u64.wrap (x * 256)) (IntKind.u64.wrap c)) x
def octet_Get.f (l0 : List Int) (a1 a2 : Int) : Option (Int × Bool) := if 1 ≤ a2 ∧ a2 ≤ 8 ∧ 0 ≤ a1 ∧ a1 + a2 ≤ (l0.length : Int) then some (octet_Get.be 0 ((l0.take (a1 + a2).toNat).drop a1.toNat), true) else some (0, false)
theorem octet_Get.may_yes (l0 : List Int) (a1 a2 : Int) (hl : l0.length ≤ 9223372036854775807) (h : 1 ≤ a2 ∧ a2 ≤ 8 ∧ 0 ≤ a1 ∧ a1 + a2 ≤ (l0.length : Int)) : octet_may.f l0 a1 a2 = some true := by
  unfold octet_may.f
  rw [if_pos h.1, if_pos h.2.1, if_pos h.2.2.1, show wrap64 ((l0.length : Int) - a2) = (l0.length : Int) - a2 from by unfold wrap64; omega]
  simp; omega
theorem octet_Get.may_no (l0 : List Int) (a1 a2 : Int) (hl : l0.length ≤ 9223372036854775807) (h : ¬ (1 ≤ a2 ∧ a2 ≤ 8 ∧ 0 ≤ a1 ∧ a1 + a2 ≤ (l0.length : Int))) : octet_may.f l0 a1 a2 = some false := by
  unfold octet_may.f
  by_cases h1 : 1 ≤ a2
  · by_cases h2 : a2 ≤ 8
    · by_cases h3 : 0 ≤ a1
      · rw [if_pos h1, if_pos h2, if_pos h3, show wrap64 ((l0.length : Int) - a2) = (l0.length : Int) - a2 from by unfold wrap64; omega]
        simp; omega
      · rw [if_pos h1, if_pos h2, if_neg h3]
    · rw [if_pos h1, if_neg h2]
  · rw [if_neg h1]
theorem octet_Get.snoc (x : Int) (l : List Int) (i : Nat) (h : i < l.length) : octet_Get.be x (l.take (i + 1)) = Go.bits .or .u64 (IntKind.u64.wrap (octet_Get.be x (l.take i) * 256)) (IntKind.u64.wrap (rd l (i : Int))) := by
  unfold octet_Get.be
  rw [List.take_succ_eq_append_getElem h, List.foldl_append]
  simp [rd, h]
set_option maxHeartbeats 800000 in
set_option maxRecDepth 100000 in
theorem octet_Get.calls (A0 : Option Addr) (c0 : Nat) (l0 : List Int) (a1 : Int) (a2 : Int) (r1 : Int) (r2 : Bool) (w : World) (hr0 : Kd.C (Kd.int .u8) w A0 l0.length l0) (hc0 : l0.length ≤ c0) (h : octet_Get.f l0 a1 a2 = some (r1, r2)) :
    Calls Tryd.prog 38 #[.slice A0 l0.length c0, .int .i64 a1, .int .i64 a2] w fun e w' => e = .returned (.tuple #[.int .u64 r1, .bool r2]) ∧ Drawn0 w w' := by
  have HR0 := Aside0.mk hr0
  have HC0 := Aside0.mk hc0
  have HN := Aside0.mk hr0.2.1
  clear hr0 hc0
  by_cases hv : 1 ≤ a2 ∧ a2 ≤ 8 ∧ 0 ≤ a1 ∧ a1 + a2 ≤ (l0.length : Int)
  · have A4 := Aside0.mk (octet_Get.may_yes l0 a1 a2 HN.out hv)
    have H : some (octet_Get.be 0 ((l0.take (a1 + a2).toNat).drop a1.toNat), true) = some (r1, r2) := by unfold octet_Get.f at h; rw [if_pos hv] at h; exact h
    clear h
    simp only [Option.some.injEq, Prod.mk.injEq] at H
    obtain ⟨hr1, rfl⟩ := H
    obtain ⟨i0, hi, hz, hsz, hb⟩ := info_parts info5
    obtain ⟨A9, hcut, hA9, hC9⟩ := print_mid_of (P := Tryd.prog) (Value.int .u8) 0 29 5 .i64 .i64 Tryd.underlying29 hi hsz A0 c0 l0 a1 (a1 + a2) hv.2.2.1 (by omega) hv.2.2.2 HC0.out
    have HR := Aside0.mk (Kd.C_of_reads (h1 := fun _ => rfl) (hA9 _ (Kd.reads_of_C HR0.out)))
    have HC := Aside0.mk hC9
    have hw : Aside0 (wrap64 (a1 + a2) = a1 + a2) := ⟨by unfold wrap64; have := HN.out; omega⟩
    have hln : Aside0 (((l0.take (a1 + a2).toNat).drop a1.toNat).length = a2.toNat) := ⟨by rw [List.length_drop, List.length_take]; omega⟩
    have hv1 := hv.1
    have hv2 := hv.2.1
    have hv3 := hv.2.2.1
    clear hA9 hC9 hi hsz hz hb
    generalize (l0.take (a1 + a2).toNat).drop a1.toNat = l1 at *
    have Hr := Aside0.mk hr1
    rw [← hw.out] at hcut
    clear hr1 hv
    go_enter Tryd.func38, Tryd.ntmps38
    go_wp2_with (fail)
    ((with_reducible refine (octet_may.calls _ _ l0 a1 a2 true _ HR0.out HC0.out A4.out).mono ?_); rintro e w' ⟨rfl, ⟨nd, rfl⟩⟩)
    go_wp2_with (fail)
    go_loopg [8, 23] l1.length (fun kq v8 v23 w' => ∃ (i : Nat), v8 = .int .u64 (octet_Get.be 0 (l1.take i)) ∧ v23 = .int .i64 i ∧ Aside0 (i + kq = l1.length) ∧ Drawn0 w w')
    case atStart => exact ⟨0, rfl, rfl, ⟨by simp⟩, Drawn0.step (Drawn0.refl _) _⟩
    case round =>
      obtain ⟨i, rfl, rfl, HJ, ⟨m1, rfl⟩⟩ := hrel
      clear hcut hw
      by_cases c2 : i < l1.length
      · have c2b0 : decide (i < l1.length) = true := decide_eq_true c2
        obtain ⟨ad1, e2, hx1⟩ := Kd.at_int HR.out (i : Int) (by omega) (by omega)
        cases e2
        have HS := Aside0.mk (octet_Get.snoc 0 l1 i c2)
        generalize rd l1 (i : Int) = c at *
        simp only [Int.toNat_natCast] at hx1
        have hi8 : i < 8 := by have := hln.out; omega
        obtain ⟨g0, rfl⟩ : ∃ g0, gk = g0 + 1 := ⟨gk - 1, by have := HJ.out; omega⟩
        generalize octet_Get.be 0 (l1.take i) = x8 at *
        go_wp2
        go_roundg g0
        case measure => omega
        case rel => exact ⟨i + 1, by rw [HS.out], by go_num, ⟨by have := HJ.out; omega⟩, Drawn0.step (Drawn0.refl _) _⟩
      · have c2b0 : decide (i < l1.length) = false := decide_eq_false c2
        have HE : Aside0 (octet_Get.be 0 (l1.take i) = r1) := ⟨by rw [List.take_of_length_le (by omega)]; exact Hr.out⟩
        generalize octet_Get.be 0 (l1.take i) = x8 at *
        go_wp2
        go_ret2
        exact ⟨by (rw [HE.out]; rfl), Drawn0.step (Drawn0.refl _) _⟩
  · have A4 := Aside0.mk (octet_Get.may_no l0 a1 a2 HN.out hv)
    have H : some ((0 : Int), false) = some (r1, r2) := by unfold octet_Get.f at h; rw [if_neg hv] at h; exact h
    clear h hv
    simp only [Option.some.injEq, Prod.mk.injEq] at H
    obtain ⟨rfl, rfl⟩ := H
    go_enter Tryd.func38, Tryd.ntmps38
    go_wp2_with (fail)
    ((with_reducible refine (octet_may.calls _ _ l0 a1 a2 false _ HR0.out HC0.out A4.out).mono ?_); rintro e w' ⟨rfl, ⟨nd, rfl⟩⟩)
    go_wp2
    go_ret2
    exact ⟨rfl, Drawn0.step (Drawn0.refl _) _⟩

end Go.Proofs.YthnhpbplglmmmaaDoor.P
