-- Laid by a program (wip/tools/myprint.py) out of the translation. Not trusted: Lean checks it.
import Derived.Test.YtdppnkgblklmmaaP0
namespace Go.Proofs.Ytdppnkgblklmmaa.P
open Go.RowKit Go.Proofs.YtdppnkgblklmmaaW.PrintWords Go.Proofs.YtdppnkgblklmmaaW.PrintLast Go.Proofs.YtdppnkgblklmmaaW.PrintMore
attribute [local go_sem] max2_int min2_int max_two min_two max_three min_three max_four min_four   -- for this text's walks alone
set_option linter.unusedVariables false
set_option linter.unusedSimpArgs false

/-- A state of type 81 at block g of W; what its slices lead to came in by w0. -/
def IsS81 (w0 W : World) (g : Nat) (f0 : Int) (f1 : Bool) : Prop := W.heap[g]? = some (.cells #[.int .u64 f0, .bool f1] 81 (0, 0)) ∧ w0.heap.size ≤ g
theorem IsS81.grown {w0 W : World} {g : Nat} {f0 : Int} {f1 : Bool} {W1 : World} {row : Option Nat} (h : IsS81 w0 W g f0 f1) (hw : W.grownBy W1 row) (hne : some g ≠ row) : IsS81 w0 W1 g f0 f1 := by
  obtain ⟨hb, hg⟩ := h
  exact ⟨blk_grown hb hw hne, hg⟩
theorem IsS81.own_neN {w0 W : World} {g : Nat} {f0 : Int} {f1 : Bool} {α : Type} {d : Kd α} {e : Nat} {base : Nat} {ok : Nat → Prop} {v : Value} {xs : List α} (h : IsS81 w0 W g f0 f1) (ho : Kd.N d e W base ok v xs) (ht : e ≠ 81) : some g ≠ v.ownBlock := by
  obtain ⟨hb, hg⟩ := h
  exact Kd.N_ne ho hb ht
theorem IsS81.fresh {w0 W : World} {g : Nat} {f0 : Int} {f1 : Bool} (h : IsS81 w0 W g f0 f1) : ∀ k, W.heap.size ≤ k → k ≠ g := by
  obtain ⟨hb, hg⟩ := h
  exact Kd.freshB hb
theorem IsS81.kept {w0 W : World} {g : Nat} {f0 : Int} {f1 : Bool} {W1 : World} {S : Nat → Prop} (h : IsS81 w0 W g f0 f1) (hk : Kept W W1 S) (hne : ¬ S g) : IsS81 w0 W1 g f0 f1 := by
  obtain ⟨hb, hg⟩ := h
  exact ⟨blk_kept hb hk hne, hg⟩
theorem IsS81.below {w0 W : World} {g : Nat} {f0 : Int} {f1 : Bool} {W1 : World} (h : IsS81 w0 W g f0 f1) (hw : Below W.heap.size W W1) : IsS81 w0 W1 g f0 f1 := h.grown (grown_of_below hw none) (by simp)
theorem IsS81.alloc {w0 W : World} {g : Nat} {f0 : Int} {f1 : Bool} (h : IsS81 w0 W g f0 f1) (o : Obj) : IsS81 w0 (W.alloc o) g f0 f1 := h.below (below_alloc (Below.refl _ _) o)
theorem IsS81.drewN {w0 W : World} {g : Nat} {f0 : Int} {f1 : Bool} (h : IsS81 w0 W g f0 f1) (m : Nat) : IsS81 w0 (W.drewN m) g f0 f1 := h
theorem IsS81.drew {w0 W : World} {g : Nat} {f0 : Int} {f1 : Bool} (h : IsS81 w0 W g f0 f1) : IsS81 w0 W.drew g f0 f1 := h
theorem IsS81.at_ {w0 W : World} {g : Nat} {f0 : Int} {f1 : Bool} {w' : World} {m : Nat} (hq : W.drewN m = w') (h : IsS81 w0 W g f0 f1) : IsS81 w0 w' g f0 f1 := by subst hq; exact IsS81.drewN h m
theorem IsS81.apart {w0 W : World} {g : Nat} {f0 : Int} {f1 : Bool} {α : Type} {d : Kd α} {e : Nat} {base : Nat} {ok : Nat → Prop} {v : Value} {xs : List α} (h : IsS81 w0 W g f0 f1) (ho : d.R e W base ok v xs) (ht : ∀ q, q ∈ e :: d.E → q ≠ 81) : d.R e W base (fun k => ok k ∧ k ≠ g) v xs := by
  obtain ⟨hb, hg⟩ := h
  exact Kd.R_types ho hb ht
theorem IsS81.own_ne {w0 W : World} {g : Nat} {f0 : Int} {f1 : Bool} {α : Type} {d : Kd α} {e : Nat} {base : Nat} {ok : Nat → Prop} {v : Value} {xs : List α} (h : IsS81 w0 W g f0 f1) (ho : d.R e W base ok v xs) (ht : e ≠ 81) : some g ≠ v.ownBlock := by
  obtain ⟨hb, hg⟩ := h
  exact Kd.R_ne ho hb ht
theorem IsS81.apartQ {w0 W : World} {g : Nat} {f0 : Int} {f1 : Bool} {α : Type} {d : Kd α} {e : Nat} {base : Nat} {ok : Nat → Prop} {v : Value} {xs : List α} (h : IsS81 w0 W g f0 f1) (ho : d.Q e W base ok v xs) (ht : ∀ q, q ∈ e :: d.E → q ≠ 81) : d.Q e W base (fun k => ok k ∧ k ≠ g) v xs := by
  obtain ⟨hb, hg⟩ := h
  exact Kd.Q_types ho hb ht
theorem IsS81.own_neQ {w0 W : World} {g : Nat} {f0 : Int} {f1 : Bool} {α : Type} {d : Kd α} {e : Nat} {base : Nat} {ok : Nat → Prop} {v : Value} {xs : List α} (h : IsS81 w0 W g f0 f1) (ho : d.Q e W base ok v xs) (ht : e ≠ 81) : some g ≠ v.ownBlock := by
  obtain ⟨hb, hg⟩ := h
  exact Kd.Q_ne ho hb ht
theorem IsS81.apartS {w0 W : World} {g : Nat} {f0 : Int} {f1 : Bool} {α : Type} {d : Kd α} {e : Nat} {base : Nat} {ok : Nat → Prop} {v : Value} {xs : List α} (h : IsS81 w0 W g f0 f1) (ho : d.S e W base ok v xs) (ht : ∀ q, q ∈ e :: d.E → q ≠ 81) : d.S e W base (fun k => ok k ∧ k ≠ g) v xs := by
  obtain ⟨hb, hg⟩ := h
  exact Kd.S_types ho hb ht
theorem IsS81.own_neS {w0 W : World} {g : Nat} {f0 : Int} {f1 : Bool} {α : Type} {d : Kd α} {e : Nat} {base : Nat} {ok : Nat → Prop} {v : Value} {xs : List α} (h : IsS81 w0 W g f0 f1) (ho : d.S e W base ok v xs) (ht : e ≠ 81) : some g ≠ v.ownBlock := by
  obtain ⟨hb, hg⟩ := h
  exact Kd.S_ne ho hb ht
theorem IsS81.lt {w0 W : World} {g : Nat} {f0 : Int} {f1 : Bool} (h : IsS81 w0 W g f0 f1) : g < W.heap.size := by
  obtain ⟨hb, hg⟩ := h
  exact blk_lt hb
theorem IsS81.ge {w0 W : World} {g : Nat} {f0 : Int} {f1 : Bool} (h : IsS81 w0 W g f0 f1) : w0.heap.size ≤ g := by
  obtain ⟨hb, hg⟩ := h
  exact hg
theorem IsS81.ne_blk {w0 W : World} {g : Nat} {f0 : Int} {f1 : Bool} {a : Nat} {cs : Array Value} {t : TypeId} {fr : Nat × Nat} (h : IsS81 w0 W g f0 f1) (hb2 : W.heap[a]? = some (.cells cs t fr)) (ht : t ≠ 81) : g ≠ a := by
  obtain ⟨hb, hg⟩ := h
  rintro rfl
  rw [hb] at hb2
  injection hb2 with hb2
  injection hb2 with _ ht2
  exact ht ht2.symm
theorem IsS81.far {w0 W : World} {g : Nat} {f0 : Int} {f1 : Bool} {p : Addr} (h : IsS81 w0 W g f0 f1) (hne : g ≠ p.block) (u : Value) : IsS81 w0 (W.setCell p u) g f0 f1 := by
  obtain ⟨hb, hg⟩ := h
  exact ⟨blk_far hb hne u, hg⟩
theorem cellS81_0 {W : World} {g : Nat} {f0 : Int} {f1 : Bool} (h : W.heap[g]? = some (.cells #[.int .u64 f0, .bool f1] 81 (0, 0))) : W.cell? ⟨g, 0, none⟩ = some (.int .u64 f0) := (blk_cell h 0).trans rfl
theorem IsS81.set_0 {w0 W : World} {g : Nat} {f0 : Int} {f1 : Bool} (h : IsS81 w0 W g f0 f1) (x : Int) : IsS81 w0 (W.setCell ⟨g, 0, none⟩ (.int .u64 x)) g x f1 := by
  obtain ⟨hb, hg⟩ := h
  exact ⟨by simpa using blk_set hb 0 (.int .u64 x), hg⟩
theorem cellS81_1 {W : World} {g : Nat} {f0 : Int} {f1 : Bool} (h : W.heap[g]? = some (.cells #[.int .u64 f0, .bool f1] 81 (0, 0))) : W.cell? ⟨g, 1, none⟩ = some (.bool f1) := (blk_cell h 1).trans rfl
theorem IsS81.set_1 {w0 W : World} {g : Nat} {f0 : Int} {f1 : Bool} (h : IsS81 w0 W g f0 f1) (x : Bool) : IsS81 w0 (W.setCell ⟨g, 1, none⟩ (.bool x)) g f0 x := by
  obtain ⟨hb, hg⟩ := h
  exact ⟨by simpa using blk_set hb 1 (.bool x), hg⟩
theorem IsS81.new (w0 W : World) (f0 : Int) (f1 : Bool) (hB : Below w0.heap.size w0 W) : IsS81 w0 (W.alloc (.cells #[.int .u64 f0, .bool f1] 81)) W.heap.size f0 f1 := ⟨by simpa using heap_alloc_new W _, hB.size⟩

/-! ### octet_adder_step: function 56 -/
def octet_adder_step.f (s0_0 : Int) (s0_1 : Bool) (a1 : Int) : Option (Int × Bool) := if s0_1 = true then (some (IntKind.u64.wrap (s0_0 + (IntKind.u64.wrap (a1))), !s0_1)) else (some (IntKind.u64.wrap (s0_0 + (IntKind.u64.wrap ((IntKind.u64.wrap (a1)) * 256))), !s0_1))
set_option maxHeartbeats 8000000 in
set_option maxRecDepth 100000 in
theorem octet_adder_step.calls (g : Nat) (s0_0 : Int) (s0_1 : Bool) (a1 : Int) (r1 : Int) (r2 : Bool) (w0 w : World) (hI : IsS81 w0 w g s0_0 s0_1) (hB : Below w0.heap.size w0 w) (h : octet_adder_step.f s0_0 s0_1 a1 = some (r1, r2)) :
    Calls Try.prog 56 #[.pointer (some ⟨g, 0, none⟩), .int .u8 a1] w fun e w' => e = .returned (.tuple #[]) ∧ IsS81 w0 w' g r1 r2 ∧ Below w0.heap.size w0 w' ∧ KeepBut w w' g none := by
  have HI0 := Aside0.mk hI
  have HK := Aside0.mk (KeepBut.refl w g none)
  have HL := Aside0.mk hB.size
  clear hI
  have HW0 := Aside0.mk hB.size
  have HB := Aside0.mk hB
  clear hB
  have H : (if s0_1 = true then (some (IntKind.u64.wrap (s0_0 + (IntKind.u64.wrap (a1))), !s0_1)) else (some (IntKind.u64.wrap (s0_0 + (IntKind.u64.wrap ((IntKind.u64.wrap (a1)) * 256))), !s0_1))) = some (r1, r2) := h
  clear h
  by_cases c3 : s0_1 = true
  · subst c3
    have H1 : (some (IntKind.u64.wrap (s0_0 + (IntKind.u64.wrap (a1))), !true)) = some (r1, r2) := by rw [if_pos rfl] at H; exact H
    clear H
    have H := H1
    clear H1
    simp only [Option.some.injEq, Prod.mk.injEq] at H
    obtain ⟨rfl, rfl⟩ := H
    obtain ⟨HGz4, hgz4⟩ := HI0.out
    have hcz4_0 := cellS81_0 HGz4
    have hcz4_1 := cellS81_1 HGz4
    have hfz4_0 := blk_frozen HGz4 0
    have hfz4_1 := blk_frozen HGz4 1
    clear HGz4 hgz4
    go_enter Try.func56, Try.ntmps56
    go_wp2
    first | go_end0 | ((try simp only [Exit.inBlock, Exit.then]); refine bodyPost_ret (results_none rfl _ _ _) rfl ?_)
    exact ⟨by first | rfl | (simp [errW_none, errW_some] <;> rfl) | (simp [*, errW_none, errW_some] <;> rfl), by (try simp only [Bool.not_true, Bool.not_false]); repeat (first | (with_reducible first | exact HI0.out | apply IsS81.alloc | apply IsS81.drewN | apply IsS81.drew | apply IsS81.set_0 | apply IsS81.set_1) | exact HI0.out), by repeat (first | (with_reducible first | exact HB.out | apply below_alloc | apply pw_below_drewN | apply below_drew1 | refine below_set ?_ (IsS81.ge HI0.out)) | exact HB.out), by repeat (first | (with_reducible first | exact HK.out | apply KeepBut.set_ | apply keep_drewN | apply keep_drew | apply keep_alloc) | exact HK.out)⟩
  · replace c3 := Bool.eq_false_iff.mpr c3
    subst c3
    have H1 : (some (IntKind.u64.wrap (s0_0 + (IntKind.u64.wrap ((IntKind.u64.wrap (a1)) * 256))), !false)) = some (r1, r2) := by rw [if_neg (show ¬ (false = true) by decide)] at H; exact H
    clear H
    have H := H1
    clear H1
    simp only [Option.some.injEq, Prod.mk.injEq] at H
    obtain ⟨rfl, rfl⟩ := H
    obtain ⟨HGz5, hgz5⟩ := HI0.out
    have hcz5_0 := cellS81_0 HGz5
    have hcz5_1 := cellS81_1 HGz5
    have hfz5_0 := blk_frozen HGz5 0
    have hfz5_1 := blk_frozen HGz5 1
    clear HGz5 hgz5
    go_enter Try.func56, Try.ntmps56
    go_wp2
    first | go_end0 | ((try simp only [Exit.inBlock, Exit.then]); refine bodyPost_ret (results_none rfl _ _ _) rfl ?_)
    exact ⟨by first | rfl | (simp [errW_none, errW_some] <;> rfl) | (simp [*, errW_none, errW_some] <;> rfl), by (try simp only [Bool.not_true, Bool.not_false]); repeat (first | (with_reducible first | exact HI0.out | apply IsS81.alloc | apply IsS81.drewN | apply IsS81.drew | apply IsS81.set_0 | apply IsS81.set_1) | exact HI0.out), by repeat (first | (with_reducible first | exact HB.out | apply below_alloc | apply pw_below_drewN | apply below_drew1 | refine below_set ?_ (IsS81.ge HI0.out)) | exact HB.out), by repeat (first | (with_reducible first | exact HK.out | apply KeepBut.set_ | apply keep_drewN | apply keep_drew | apply keep_alloc) | exact HK.out)⟩

/-! ### octet_register_step: function 59, by hand -/
def octet_register_step.rnd (y : Int) : Int := Go.bits .xor .u32 (y / 2) (Go.bits .and .u32 3988292384 (-Go.bits .and .u32 y 1 % 4294967296))
def octet_register_step.rep : Nat → Int → Int
  | 0, y => y
  | n + 1, y => octet_register_step.rnd (octet_register_step.rep n y)
def octet_register_step.f (x c : Int) : Int := octet_register_step.rep 8 (Go.bits .xor .u32 x (c % 4294967296))
set_option maxHeartbeats 800000 in
set_option maxRecDepth 100000 in
theorem octet_register_step.calls (g : Nat) (x c : Int) (w0 w : World) (hI : w.heap[g]? = some (.cells #[.int .u32 x] 84 (0, 0))) (hg : w0.heap.size ≤ g) (hB : Below w0.heap.size w0 w) :
    Calls Try.prog 59 #[.pointer (some ⟨g, 0, none⟩), .int .u8 c] w fun e w' => e = .returned (.tuple #[]) ∧ w'.heap[g]? = some (.cells #[.int .u32 (octet_register_step.f x c)] 84 (0, 0)) ∧ Below w0.heap.size w0 w' := by
  have hc0 : w.cell? ⟨g, 0, none⟩ = some (.int .u32 x) := (blk_cell hI 0).trans rfl
  have hf0 := blk_frozen hI 0
  have HI := Aside0.mk hI
  have HG := Aside0.mk hg
  have HB := Aside0.mk hB
  clear hI hg hB
  go_enter Try.func59, Try.ntmps59
  go_wp2
  go_loopg [4, 11] 8 (fun kq v4 v11 w' => ∃ (i : Nat) (y : Int), v4 = .int .u32 y ∧ v11 = .int .i64 i ∧ Aside0 (i + kq = 8) ∧ Aside0 (octet_register_step.rep i (Go.bits .xor .u32 x (c % 4294967296)) = y) ∧ w' = w)
  case atStart => exact ⟨0, _, rfl, rfl, ⟨rfl⟩, ⟨rfl⟩, rfl⟩
  case round =>
    obtain ⟨i, y, rfl, rfl, HJ, HY, rfl⟩ := hrel
    by_cases c2 : i < 8
    · have c2b0 : decide (i < 8) = true := decide_eq_true c2
      have c2b1 : decide ((i : Int) < 8) = true := decide_eq_true (by omega)
      obtain ⟨g0, rfl⟩ : ∃ g0, gk = g0 + 1 := ⟨gk - 1, by have := HJ.out; omega⟩
      go_wp2
      go_roundg g0
      case measure => omega
      case rel => exact ⟨i + 1, _, rfl, by go_num, ⟨by have := HJ.out; omega⟩, ⟨by unfold octet_register_step.rep octet_register_step.rnd; rw [HY.out]⟩, rfl⟩
    · have c2b0 : decide (i < 8) = false := decide_eq_false c2
      have c2b1 : decide ((i : Int) < 8) = false := decide_eq_false (by omega)
      have HE : Aside0 (octet_register_step.f x c = y) := ⟨by have h := HY.out; rw [show i = 8 by have := HJ.out; omega] at h; exact h⟩
      go_wp2
      first | go_end0 | ((try simp only [Exit.inBlock, Exit.then]); refine bodyPost_ret (results_none rfl _ _ _) rfl ?_)
      exact ⟨rfl, by rw [HE.out]; simpa using blk_set HI.out 0 (.int .u32 y), below_set HB.out HG.out⟩

/-! ### octet_may: function 55 -/
def octet_may.f (l0 : List Int) (a1 : Int) (a2 : Int) : Option (Bool) := if a2 ≥ 1 then (if a2 ≤ 8 then (if a1 ≥ 0 then (some (decide (a1 ≤ (wrap64 ((l0.length : Int) - a2))))) else (some false)) else (some false)) else (some false)
set_option maxHeartbeats 8000000 in
set_option maxRecDepth 100000 in
theorem octet_may.calls (A0 : Option Addr) (c0 : Nat) (l0 : List Int) (a1 : Int) (a2 : Int) (r : Bool) (w : World) (hr0 : Kd.C (Kd.int .u8) w A0 l0.length l0) (hc0 : l0.length ≤ c0) (h : octet_may.f l0 a1 a2 = some r) :
    Calls Try.prog 55 #[.slice A0 l0.length c0, .int .i64 a1, .int .i64 a2] w fun e w' => e = .returned (.bool r) ∧ Drawn0 w w' := by
  have HR0 := Aside0.mk hr0
  have HC0 := Aside0.mk hc0
  clear hr0 hc0
  have H : (if a2 ≥ 1 then (if a2 ≤ 8 then (if a1 ≥ 0 then (some (decide (a1 ≤ (wrap64 ((l0.length : Int) - a2))))) else (some false)) else (some false)) else (some false)) = some r := h
  clear h
  by_cases c4 : a2 ≥ 1
  · rw [if_pos c4] at H
    have c4b0 : decide (1 ≤ a2) = true := decide_eq_true c4
    clear c4
    by_cases c5 : a2 ≤ 8
    · rw [if_pos c5] at H
      have c5b0 : decide (a2 ≤ 8) = true := decide_eq_true c5
      clear c5
      by_cases c6 : a1 ≥ 0
      · rw [if_pos c6] at H
        have c6b0 : decide (0 ≤ a1) = true := decide_eq_true c6
        clear c6
        obtain rfl := Option.some.inj H
        go_enter Try.func55, Try.ntmps55
        go_wp2
        go_ret
        exact ⟨by first | rfl | (simp; done) | (simp [*]; done), by repeat (first | exact Drawn0.refl _ | apply Drawn0.step)⟩
      · rw [if_neg c6] at H
        have c6b0 : decide (0 ≤ a1) = false := decide_eq_false c6
        clear c6
        obtain rfl := Option.some.inj H
        go_enter Try.func55, Try.ntmps55
        go_wp2
        go_ret
        exact ⟨by first | rfl | (simp; done) | (simp [*]; done), by repeat (first | exact Drawn0.refl _ | apply Drawn0.step)⟩
    · rw [if_neg c5] at H
      have c5b0 : decide (a2 ≤ 8) = false := decide_eq_false c5
      clear c5
      obtain rfl := Option.some.inj H
      go_enter Try.func55, Try.ntmps55
      go_wp2
      go_ret
      exact ⟨by first | rfl | (simp; done) | (simp [*]; done), by repeat (first | exact Drawn0.refl _ | apply Drawn0.step)⟩
  · rw [if_neg c4] at H
    have c4b0 : decide (1 ≤ a2) = false := decide_eq_false c4
    clear c4
    obtain rfl := Option.some.inj H
    go_enter Try.func55, Try.ntmps55
    go_wp2
    go_ret
    exact ⟨by first | rfl | (simp; done) | (simp [*]; done), by repeat (first | exact Drawn0.refl _ | apply Drawn0.step)⟩

/-! ### octet_Get: function 23, by hand -/
def octet_Get.be (x : Int) (l : List Int) : Int := l.foldl (fun x c => Go.bits .or .u64 (IntKind.u64.wrap (x * 256)) (IntKind.u64.wrap c)) x
def octet_Get.f (l0 : List Int) (a1 a2 : Int) : Option (Int × Bool) := if 1 ≤ a2 ∧ a2 ≤ 8 ∧ 0 ≤ a1 ∧ a1 + a2 ≤ (l0.length : Int) then some (octet_Get.be 0 ((l0.take (a1 + a2).toNat).drop a1.toNat), true) else some (0, false)
theorem octet_Get.may_yes (l0 : List Int) (a1 a2 : Int) (hl : l0.length ≤ 9223372036854775807) (h : 1 ≤ a2 ∧ a2 ≤ 8 ∧ 0 ≤ a1 ∧ a1 + a2 ≤ (l0.length : Int)) : octet_may.f l0 a1 a2 = some true := by
  unfold octet_may.f
  rw [if_pos h.1, if_pos h.2.1, if_pos h.2.2.1, show wrap64 ((l0.length : Int) - a2) = (l0.length : Int) - a2 from by unfold wrap64; omega]
  simp; omega
theorem octet_Get.may_no (l0 : List Int) (a1 a2 : Int) (hl : l0.length ≤ 9223372036854775807) (h : ¬ (1 ≤ a2 ∧ a2 ≤ 8 ∧ 0 ≤ a1 ∧ a1 + a2 ≤ (l0.length : Int))) : octet_may.f l0 a1 a2 = some false := by
  unfold octet_may.f
  by_cases h1 : 1 ≤ a2
  · by_cases h2 : a2 ≤ 8
    · by_cases h3 : 0 ≤ a1
      · rw [if_pos h1, if_pos h2, if_pos h3, show wrap64 ((l0.length : Int) - a2) = (l0.length : Int) - a2 from by unfold wrap64; omega]
        simp; omega
      · rw [if_pos h1, if_pos h2, if_neg h3]
    · rw [if_pos h1, if_neg h2]
  · rw [if_neg h1]
theorem octet_Get.snoc (x : Int) (l : List Int) (i : Nat) (h : i < l.length) : octet_Get.be x (l.take (i + 1)) = Go.bits .or .u64 (IntKind.u64.wrap (octet_Get.be x (l.take i) * 256)) (IntKind.u64.wrap (rd l (i : Int))) := by
  unfold octet_Get.be
  rw [List.take_succ_eq_append_getElem h, List.foldl_append]
  simp [rd, h]
set_option maxHeartbeats 800000 in
set_option maxRecDepth 100000 in
theorem octet_Get.calls (A0 : Option Addr) (c0 : Nat) (l0 : List Int) (a1 : Int) (a2 : Int) (r1 : Int) (r2 : Bool) (w : World) (hr0 : Kd.C (Kd.int .u8) w A0 l0.length l0) (hc0 : l0.length ≤ c0) (h : octet_Get.f l0 a1 a2 = some (r1, r2)) :
    Calls Try.prog 23 #[.slice A0 l0.length c0, .int .i64 a1, .int .i64 a2] w fun e w' => e = .returned (.tuple #[.int .u64 r1, .bool r2]) ∧ Drawn0 w w' := by
  have HR0 := Aside0.mk hr0
  have HC0 := Aside0.mk hc0
  have HN := Aside0.mk hr0.2.1
  clear hr0 hc0
  by_cases hv : 1 ≤ a2 ∧ a2 ≤ 8 ∧ 0 ≤ a1 ∧ a1 + a2 ≤ (l0.length : Int)
  · have A4 := Aside0.mk (octet_Get.may_yes l0 a1 a2 HN.out hv)
    have H : some (octet_Get.be 0 ((l0.take (a1 + a2).toNat).drop a1.toNat), true) = some (r1, r2) := by unfold octet_Get.f at h; rw [if_pos hv] at h; exact h
    clear h
    simp only [Option.some.injEq, Prod.mk.injEq] at H
    obtain ⟨hr1, rfl⟩ := H
    obtain ⟨i0, hi, hz, hsz, hb⟩ := info_parts info5
    obtain ⟨A9, hcut, hA9, hC9⟩ := print_mid_of (P := Try.prog) (Value.int .u8) 0 22 5 .i64 .i64 Try.underlying22 hi hsz A0 c0 l0 a1 (a1 + a2) hv.2.2.1 (by omega) hv.2.2.2 HC0.out
    have HR := Aside0.mk (Kd.C_of_reads (h1 := fun _ => rfl) (hA9 _ (Kd.reads_of_C HR0.out)))
    have HC := Aside0.mk hC9
    have hw : Aside0 (wrap64 (a1 + a2) = a1 + a2) := ⟨by unfold wrap64; have := HN.out; omega⟩
    have hln : Aside0 (((l0.take (a1 + a2).toNat).drop a1.toNat).length = a2.toNat) := ⟨by rw [List.length_drop, List.length_take]; omega⟩
    have hv1 := hv.1
    have hv2 := hv.2.1
    have hv3 := hv.2.2.1
    clear hA9 hC9 hi hsz hz hb
    generalize (l0.take (a1 + a2).toNat).drop a1.toNat = l1 at *
    have Hr := Aside0.mk hr1
    rw [← hw.out] at hcut
    clear hr1 hv
    go_enter Try.func23, Try.ntmps23
    go_wp2_with (fail)
    ((with_reducible refine (octet_may.calls _ _ l0 a1 a2 true _ HR0.out HC0.out A4.out).mono ?_); rintro e w' ⟨rfl, ⟨nd, rfl⟩⟩)
    go_wp2_with (fail)
    go_loopg [8, 23] l1.length (fun kq v8 v23 w' => ∃ (i : Nat), v8 = .int .u64 (octet_Get.be 0 (l1.take i)) ∧ v23 = .int .i64 i ∧ Aside0 (i + kq = l1.length) ∧ Drawn0 w w')
    case atStart => exact ⟨0, rfl, rfl, ⟨by simp⟩, Drawn0.step (Drawn0.refl _) _⟩
    case round =>
      obtain ⟨i, rfl, rfl, HJ, ⟨m1, rfl⟩⟩ := hrel
      clear hcut hw
      by_cases c2 : i < l1.length
      · have c2b0 : decide (i < l1.length) = true := decide_eq_true c2
        obtain ⟨ad1, e2, hx1⟩ := Kd.at_int HR.out (i : Int) (by omega) (by omega)
        cases e2
        have HS := Aside0.mk (octet_Get.snoc 0 l1 i c2)
        generalize rd l1 (i : Int) = c at *
        simp only [Int.toNat_natCast] at hx1
        have hi8 : i < 8 := by have := hln.out; omega
        obtain ⟨g0, rfl⟩ : ∃ g0, gk = g0 + 1 := ⟨gk - 1, by have := HJ.out; omega⟩
        generalize octet_Get.be 0 (l1.take i) = x8 at *
        go_wp2
        go_roundg g0
        case measure => omega
        case rel => exact ⟨i + 1, by rw [HS.out], by go_num, ⟨by have := HJ.out; omega⟩, Drawn0.step (Drawn0.refl _) _⟩
      · have c2b0 : decide (i < l1.length) = false := decide_eq_false c2
        have HE : Aside0 (octet_Get.be 0 (l1.take i) = r1) := ⟨by rw [List.take_of_length_le (by omega)]; exact Hr.out⟩
        generalize octet_Get.be 0 (l1.take i) = x8 at *
        go_wp2
        go_ret2
        exact ⟨by (rw [HE.out]; rfl), Drawn0.step (Drawn0.refl _) _⟩
  · have A4 := Aside0.mk (octet_Get.may_no l0 a1 a2 HN.out hv)
    have H : some ((0 : Int), false) = some (r1, r2) := by unfold octet_Get.f at h; rw [if_neg hv] at h; exact h
    clear h hv
    simp only [Option.some.injEq, Prod.mk.injEq] at H
    obtain ⟨rfl, rfl⟩ := H
    go_enter Try.func23, Try.ntmps23
    go_wp2_with (fail)
    ((with_reducible refine (octet_may.calls _ _ l0 a1 a2 false _ HR0.out HC0.out A4.out).mono ?_); rintro e w' ⟨rfl, ⟨nd, rfl⟩⟩)
    go_wp2
    go_ret2
    exact ⟨rfl, Drawn0.step (Drawn0.refl _) _⟩

/-! ### octet_fold: function 57 -/
def octet_fold.l0 : Nat → Int → Option (Int)
  | 0, _ => none
  | k + 1, x0 => if x0 > 65535 then (octet_fold.l0 k (IntKind.u64.wrap ((x0 / 65536) + (Go.bits .and .u64 x0 65535)))) else (some (wrap64 (x0)))
def octet_fold.f (k : Nat) (a0 : Int) : Option (Int) := octet_fold.l0 k a0
theorem octet_fold.mono_l : ∀ k, (∀ y0, LeO (octet_fold.l0 k y0) (octet_fold.l0 (k + 1) y0))
  | 0 => fun _ r h => by simp [octet_fold.l0] at h
  | k + 1 => by
    have ih0 := octet_fold.mono_l k
    · intro y0
      unfold octet_fold.l0
      repeat' first
      | (with_reducible exact ih0 _)
      | (with_reducible exact LeO.refl _)
      | (with_reducible exact LeO.none _)
      | (with_reducible refine LeO.ite ?_ ?_)
      | (with_reducible refine LeO.bind ?_ (fun _ => ?_))
      | exact ih0 _
      | exact LeO.none _
      | refine LeO.ite ?_ ?_
      | refine LeO.bind ?_ (fun _ => ?_)
theorem octet_fold.mono : ∀ a0 k, LeO (octet_fold.f k a0) (octet_fold.f (k + 1) a0) := by
  intro a0 k
  have ih0 := octet_fold.mono_l k
  unfold octet_fold.f
  repeat' first
      | (with_reducible exact ih0 _)
      | (with_reducible exact LeO.refl _)
      | (with_reducible exact LeO.none _)
      | (with_reducible refine LeO.ite ?_ ?_)
      | (with_reducible refine LeO.bind ?_ (fun _ => ?_))
      | exact ih0 _
      | exact LeO.none _
      | refine LeO.ite ?_ ?_
      | refine LeO.bind ?_ (fun _ => ?_)
set_option maxHeartbeats 8000000 in
set_option maxRecDepth 100000 in
theorem octet_fold.calls (k : Nat) (a0 : Int) (r : Int) (w : World) (h : octet_fold.f k a0 = some r) :
    Calls Try.prog 57 #[.int .u64 a0] w fun e w' => e = .returned (.int .i64 r) ∧ Drawn0 w w' := by
  have H : (octet_fold.l0 k a0) = some r := h
  clear h
  have H' := Aside0.mk H
  clear H
  go_enter Try.func57, Try.ntmps57
  go_wp2
  go_loopg [0] k (fun kq v0 w' => ∃ (x0_1 : Int), v0 = .int .u64 x0_1 ∧ Aside0 (octet_fold.l0 kq x0_1 = some r) ∧ Aside0 (kq ≤ k) ∧ Drawn0 w w')
  case atStart => exact ⟨(a0), (by first | rfl | (simp; done) | (simp [*]; done)), H', ⟨Nat.le_refl _⟩, by repeat (first | exact Drawn0.refl _ | apply Drawn0.step)⟩
  case round =>
    clear H'
    obtain ⟨x0_1, rfl, HA, HK1, ⟨m1, rfl⟩⟩ := hrel
    cases gk with
    | zero => exact absurd HA.out (by simp [octet_fold.l0])
    | succ k1 =>
      have H := HA.out
      clear HA
      simp only [octet_fold.l0] at H
      by_cases c2 : x0_1 > 65535
      · rw [if_pos c2] at H
        have c2b0 : decide (65535 < x0_1) = true := decide_eq_true c2
        clear c2
        have H' := Aside0.mk H
        clear H
        go_wp2
        go_roundg k1
        case measure => have := HK1.out; omega
        case rel => exact ⟨(IntKind.u64.wrap ((x0_1 / 65536) + (Go.bits .and .u64 x0_1 65535))), (by first | rfl | (simp; done) | (simp [*]; done)), H', ⟨by have := HK1.out; omega⟩, by repeat (first | exact Drawn0.refl _ | apply Drawn0.step)⟩
      · rw [if_neg c2] at H
        have c2b0 : decide (65535 < x0_1) = false := decide_eq_false c2
        clear c2
        obtain rfl := Option.some.inj H
        go_wp2
        go_ret
        exact ⟨by first | rfl | (simp; done) | (simp [*]; done), by repeat (first | exact Drawn0.refl _ | apply Drawn0.step)⟩

/-! ### octet_Sum: function 26, by hand -/
def octet_Sum.step (s : Int × Bool) (c : Int) : Int × Bool := if s.2 = true then (IntKind.u64.wrap (s.1 + (IntKind.u64.wrap c)), !s.2) else (IntKind.u64.wrap (s.1 + (IntKind.u64.wrap ((IntKind.u64.wrap c) * 256))), !s.2)
def octet_Sum.tot (s : Int × Bool) (l0 : List (List Int)) : Int × Bool := l0.foldl (fun s b => b.foldl octet_Sum.step s) s
def octet_Sum.f (l0 : List (List Int)) : Option Int := octet_fold.f 8 (octet_Sum.tot (0, false) l0).1
theorem octet_Sum.step_some (t : Int) (o : Bool) (c : Int) : octet_adder_step.f t o c = some ((octet_Sum.step (t, o) c).1, (octet_Sum.step (t, o) c).2) := by
  unfold octet_adder_step.f octet_Sum.step
  cases o <;> rfl
def octet_Sum.rdL (xs : List (List Int)) (i : Int) : (List Int) := xs.getD i.toNat ([] : List Int)
theorem octet_Sum.at_L {e : Nat} {w : World} {A : Option Addr} {n : Nat} {xs : List (List Int)} (h : Kd.C (Kd.slice e (Kd.int .u8)) w A n xs) (i : Int) (h0 : 0 ≤ i) (h1 : i < n) : ∃ ad A0 c0, A = some ad ∧ w.cell? (ad.add i.toNat) = some (.slice A0 (octet_Sum.rdL xs i).length c0) ∧ (octet_Sum.rdL xs i).length ≤ c0 ∧ (Kd.int .u8).C w A0 (octet_Sum.rdL xs i).length (octet_Sum.rdL xs i) := by
  obtain ⟨ad, c, e, _, hK, hc0⟩ := Kd.C_get h ([] : List Int) i h0 h1
  have hc : ∀ j u, c[j]? = some u → w.cell? (ad.add (i.toNat * 1 + j)) = some u := hc0
  obtain ⟨A0, c0, rfl, l0, g0⟩ := hK
  exact ⟨ad, A0, c0, e, by have hq := hc 0 _ rfl; rwa [Nat.mul_one, Nat.add_zero] at hq, l0, g0⟩
theorem octet_Sum.tot_snoc (s : Int × Bool) (l0 : List (List Int)) (j : Nat) (h : j < l0.length) : octet_Sum.tot s (l0.take (j + 1)) = (octet_Sum.rdL l0 (j : Int)).foldl octet_Sum.step (octet_Sum.tot s (l0.take j)) := by
  unfold octet_Sum.tot octet_Sum.rdL
  rw [List.take_succ_eq_append_getElem h, List.foldl_append]
  simp [h]
theorem octet_Sum.row_snoc (s : Int × Bool) (l : List Int) (i : Nat) (h : i < l.length) : (l.take (i + 1)).foldl octet_Sum.step s = octet_Sum.step ((l.take i).foldl octet_Sum.step s) (rd l (i : Int)) := by
  rw [List.take_succ_eq_append_getElem h, List.foldl_append]
  simp [rd, h]
set_option maxHeartbeats 800000 in
set_option maxRecDepth 100000 in
theorem octet_Sum.calls (A0 : Option Addr) (c0 : Nat) (l0 : List (List Int)) (r : Int) (w : World) (hr0 : Kd.C (Kd.slice 5 (Kd.int .u8)) w A0 l0.length l0) (hc0 : l0.length ≤ c0) (h : octet_Sum.f l0 = some r) :
    Calls Try.prog 26 #[.slice A0 l0.length c0] w fun e w' => e = .returned (.int .i64 r) ∧ Below w.heap.size w w' := by
  have HR0 := Aside0.mk hr0
  have HC0 := Aside0.mk hc0
  have HN := hr0.2.1
  clear hr0 hc0
  have HF := Aside0.mk h
  clear h
  have HB := Aside0.mk (Below.refl w.heap.size w)
  have HI := Aside0.mk (IsS81.new w w 0 false (Below.refl w.heap.size w))
  have hmf : ∀ (fn : Fn) (first cap : Array Value) (w : World), (Instr.makeFunc fn first cap).run Try.prog w = .ok (.func fn first cap) w := fun _ _ _ _ => rfl
  go_enter Try.func26, Try.ntmps26
  go_wp2_with (fail)
  go_loopg [15] l0.length (fun kq v15 w' => ∃ (j : Nat) (t : Int) (o : Bool), v15 = .int .i64 j ∧ Aside0 (j + kq = l0.length) ∧ Aside0 (octet_Sum.tot (0, false) (l0.take j) = (t, o)) ∧ Aside0 (IsS81 w w' w.heap.size t o) ∧ Aside0 (Below w.heap.size w w'))
  case atStart => exact ⟨0, 0, false, rfl, ⟨by simp⟩, ⟨rfl⟩, HI, ⟨below_alloc HB.out _⟩⟩
  case round =>
    clear HI HB
    obtain ⟨j, t, o, rfl, HJ, HT, HI, HB⟩ := hrel
    by_cases c2 : j < l0.length
    · have c2b0 : decide (j < l0.length) = true := decide_eq_true c2
      have c2b1 : decide ((j : Int) < (l0.length : Int)) = true := decide_eq_true (by omega)
      obtain ⟨ad, A1, c1, e1, hx, hl1, hr1⟩ := octet_Sum.at_L HR0.out (j : Int) (by omega) (by omega)
      cases e1
      have HR1 := Aside0.mk hr1
      have HC1 := Aside0.mk hl1
      have HN1 := hr1.2.1
      have HS := Aside0.mk (octet_Sum.tot_snoc (0, false) l0 j c2)
      generalize octet_Sum.rdL l0 (j : Int) = l1 at *
      replace hx := (HB.out.cell (World.block_lt_of_cell? w _ hx)).trans hx
      simp only [Int.toNat_natCast] at hx
      clear hr1 hl1
      obtain ⟨wo, rfl⟩ : ∃ wo : World, wo = wr := ⟨_, rfl⟩
      obtain ⟨g0, rfl⟩ : ∃ g0, gk = g0 + 1 := ⟨gk - 1, by have := HJ.out; omega⟩
      go_wp2_with (fail)
      go_loopg [21] l1.length (fun kq v21 w' => ∃ (i : Nat) (t2 : Int) (o2 : Bool), v21 = .int .i64 i ∧ Aside0 (i + kq = l1.length) ∧ Aside0 ((l1.take i).foldl octet_Sum.step (t, o) = (t2, o2)) ∧ Aside0 (IsS81 w w' w.heap.size t2 o2) ∧ Aside0 (Below w.heap.size w w'))
      case atStart => exact ⟨0, t, o, rfl, ⟨by simp⟩, ⟨rfl⟩, HI, HB⟩
      case round =>
        clear HI HB hx
        obtain ⟨i, t2, o2, rfl, HJ2, HT2, HI, HB⟩ := hrel
        by_cases c3 : i < l1.length
        · have c3b0 : decide (i < l1.length) = true := decide_eq_true c3
          have c3b1 : decide ((i : Int) < (l1.length : Int)) = true := decide_eq_true (by omega)
          obtain ⟨ad1, e2, hx1⟩ := Kd.at_int HR1.out (i : Int) (by omega) (by omega)
          cases e2
          have HS2 := Aside0.mk (octet_Sum.row_snoc (t, o) l1 i c3)
          generalize rd l1 (i : Int) = c at *
          replace hx1 := (HB.out.cell (World.block_lt_of_cell? w _ hx1)).trans hx1
          simp only [Int.toNat_natCast] at hx1
          have HX := Aside0.mk (octet_Sum.step_some t2 o2 c)
          rcases hst : octet_Sum.step (t2, o2) c with ⟨t3, o3⟩
          have Hst := Aside0.mk hst
          clear hst
          go_wp2_with (fail)
          ((with_reducible refine (octet_adder_step.calls w.heap.size t2 o2 c _ _ w _ HI.out HB.out HX.out).mono ?_); rintro e w2 ⟨rfl, hi, hb, -⟩)
          have HI2 := Aside0.mk hi
          have HB2 := Aside0.mk hb
          clear hi hb HI HB HX hx1
          obtain ⟨k1, rfl⟩ : ∃ k1, gk = k1 + 1 := ⟨gk - 1, by have := HJ2.out; omega⟩
          go_wp2
          go_roundg k1
          case measure => omega
          case rel => exact ⟨i + 1, t3, o3, by go_num, ⟨by have := HJ2.out; omega⟩, ⟨by rw [HS2.out, HT2.out, Hst.out]⟩, by rw [Hst.out] at HI2; exact HI2, HB2⟩
        · have c3b0 : decide (i < l1.length) = false := decide_eq_false c3
          have c3b1 : decide ((i : Int) < (l1.length : Int)) = false := decide_eq_false (by omega)
          have HE : Aside0 (l1.take i = l1) := ⟨List.take_of_length_le (by omega)⟩
          go_wp2
          go_roundg g0
          case measure => omega
          case rel => exact ⟨j + 1, t2, o2, by go_num, ⟨by have := HJ.out; omega⟩, ⟨by rw [HS.out, HT.out]; have h := HT2.out; rw [HE.out] at h; exact h⟩, HI, HB⟩
    · have c2b0 : decide (j < l0.length) = false := decide_eq_false c2
      have c2b1 : decide ((j : Int) < (l0.length : Int)) = false := decide_eq_false (by omega)
      have HE : Aside0 (l0.take j = l0) := ⟨List.take_of_length_le (by omega)⟩
      obtain ⟨HG, hg⟩ := HI.out
      have hc0 := cellS81_0 HG
      clear HG hg
      have HF2 : Aside0 (octet_fold.f 8 t = some r) := ⟨by have h := HF.out; unfold octet_Sum.f at h; have h2 := HT.out; rw [HE.out] at h2; rw [h2] at h; exact h⟩
      go_wp2_with (fail)
      ((with_reducible refine (octet_fold.calls 8 t r _ HF2.out).mono ?_); rintro e w2 ⟨rfl, ⟨nd, rfl⟩⟩)
      go_wp2
      go_ret
      exact ⟨rfl, pw_below_drewN HB.out nd⟩

/-! ### octet_Check: function 28 -/
def octet_Check.f (l0 : List (List Int)) : Option (Int) := (octet_Sum.f l0).bind fun t168 => (some (wrap64 (65535 - t168)))
set_option maxHeartbeats 8000000 in
set_option maxRecDepth 100000 in
theorem octet_Check.calls (A0 : Option Addr) (c0 : Nat) (l0 : List (List Int)) (r : Int) (w : World) (hr0 : Kd.C (Kd.slice 5 (Kd.int .u8)) w A0 l0.length l0) (hc0 : l0.length ≤ c0) (h : octet_Check.f l0 = some r) :
    Calls Try.prog 28 #[.slice A0 l0.length c0] w fun e w' => e = .returned (.int .i64 r) ∧ Below w.heap.size w w' := by
  have HR0 := Aside0.mk hr0
  have HC0 := Aside0.mk hc0
  clear hr0 hc0
  have HB := Aside0.mk (Below.refl w.heap.size w)
  have H : ((octet_Sum.f l0).bind fun t168 => (some (wrap64 (65535 - t168)))) = some r := h
  clear h
  replace H := Option.bind_eq_some_iff.mp H
  obtain ⟨t168, A20, H⟩ := H
  replace H : (some (wrap64 (65535 - t168))) = some r := H
  have A2 := Aside0.mk A20
  clear A20
  obtain rfl := Option.some.inj H
  go_enter Try.func28, Try.ntmps28
  go_wp2_with (first | ((with_reducible refine gate_callee (f := 26) rfl ?_); refine goesL_ (some 4) rfl rfl Try.func26 (by kernel_rfl) rfl #[.slice A0 l0.length c0] rfl (by (try simp only [List.map_toArray, List.map_cons, List.map_nil]); first | done | rfl | (simp only [List.length_drop, List.length_take]; rfl)) ?_; (with_reducible refine (octet_Sum.calls _ _ l0 t168 _ ?side1 ?side2 A2.out).mono ?_); (case side1 => repeat (first | exact HR0.out | (with_reducible refine Kd.C_alloc ?_ _) | (with_reducible refine Kd.C_drewN ?_ _) | (with_reducible refine Kd.C_drew ?_))); (case side2 => exact HC0.out); rintro e w3 ⟨rfl, hb⟩; refine ⟨_, rfl, ?_⟩; have n0_ := Aside0.mk (below_step (by repeat (first | (with_reducible first | exact HB.out | apply below_alloc | apply pw_below_drewN | apply below_drew1) | exact HB.out)) hb); clear HB; have HB := n0_; clear n0_; (try clear hb); (try clear hb2); (try clear hk); (try clear hi)))
  go_ret
  exact ⟨by first | rfl | (simp [errW_none, errW_some] <;> rfl) | (simp [*, errW_none, errW_some] <;> rfl), by repeat (first | (with_reducible first | exact HB.out | apply below_alloc | apply pw_below_drewN | apply below_drew1) | exact HB.out)⟩

/-! ### octet_Plus: function 29 -/
def octet_Plus.f (k : Nat) (a0 : Int) (a1 : Int) : Option (Int) := (octet_fold.f k (IntKind.u64.wrap ((IntKind.u64.wrap (Go.bits .and .i64 a0 65535)) + (IntKind.u64.wrap (Go.bits .and .i64 a1 65535))))).bind fun t188 => (some t188)
theorem octet_Plus.mono : ∀ a0 a1 k, LeO (octet_Plus.f k a0 a1) (octet_Plus.f (k + 1) a0 a1) := by
  intro a0 a1 k
  unfold octet_Plus.f
  repeat' first
      | (with_reducible exact octet_fold.mono _ _)
      | (with_reducible exact LeO.refl _)
      | (with_reducible exact LeO.none _)
      | (with_reducible refine LeO.ite ?_ ?_)
      | (with_reducible refine LeO.bind ?_ (fun _ => ?_))
      | exact octet_fold.mono _ _
      | exact LeO.none _
      | refine LeO.ite ?_ ?_
      | refine LeO.bind ?_ (fun _ => ?_)
set_option maxHeartbeats 8000000 in
set_option maxRecDepth 100000 in
theorem octet_Plus.calls (k : Nat) (a0 : Int) (a1 : Int) (r : Int) (w : World) (h : octet_Plus.f k a0 a1 = some r) :
    Calls Try.prog 29 #[.int .i64 a0, .int .i64 a1] w fun e w' => e = .returned (.int .i64 r) ∧ Drawn0 w w' := by
  have H : ((octet_fold.f k (IntKind.u64.wrap ((IntKind.u64.wrap (Go.bits .and .i64 a0 65535)) + (IntKind.u64.wrap (Go.bits .and .i64 a1 65535))))).bind fun t188 => (some t188)) = some r := h
  clear h
  replace H := Option.bind_eq_some_iff.mp H
  obtain ⟨t188, A30, H⟩ := H
  replace H : (some t188) = some r := H
  have A3 := Aside0.mk A30
  clear A30
  obtain rfl := Option.some.inj H
  go_enter Try.func29, Try.ntmps29
  go_wp2_with (first | ((with_reducible refine gate_callee (f := 57) rfl ?_); refine goesL_ (some 12) rfl rfl Try.func57 (by kernel_rfl) rfl #[.int .u64 (IntKind.u64.wrap ((IntKind.u64.wrap (Go.bits .and .i64 a0 65535)) + (IntKind.u64.wrap (Go.bits .and .i64 a1 65535))))] rfl (by (try simp only [List.map_toArray, List.map_cons, List.map_nil]); first | done | rfl | (simp only [List.length_drop, List.length_take]; rfl)) ?_; (with_reducible refine (octet_fold.calls k (IntKind.u64.wrap ((IntKind.u64.wrap (Go.bits .and .i64 a0 65535)) + (IntKind.u64.wrap (Go.bits .and .i64 a1 65535)))) t188 _ A3.out).mono ?_); rintro e w' ⟨rfl, ⟨nd, rfl⟩⟩; refine ⟨_, rfl, ?_⟩))
  go_ret
  exact ⟨by first | rfl | (simp; done) | (simp [*]; done), by repeat (first | exact Drawn0.refl _ | apply Drawn0.step)⟩

/-! ### octet_Update: function 31 -/
def octet_Update.f (k : Nat) (a0 : Int) (a1 : Int) (a2 : Int) : Option (Int) := (octet_Plus.f k (wrap64 (65535 - (Go.bits .and .i64 a0 65535))) (wrap64 (65535 - (Go.bits .and .i64 a1 65535)))).bind fun t190 => ((octet_Plus.f k t190 a2).bind fun t191 => (some (wrap64 (65535 - t191))))
theorem octet_Update.mono : ∀ a0 a1 a2 k, LeO (octet_Update.f k a0 a1 a2) (octet_Update.f (k + 1) a0 a1 a2) := by
  intro a0 a1 a2 k
  unfold octet_Update.f
  repeat' first
      | (with_reducible exact octet_Plus.mono _ _ _)
      | (with_reducible exact LeO.refl _)
      | (with_reducible exact LeO.none _)
      | (with_reducible refine LeO.ite ?_ ?_)
      | (with_reducible refine LeO.bind ?_ (fun _ => ?_))
      | exact octet_Plus.mono _ _ _
      | exact LeO.none _
      | refine LeO.ite ?_ ?_
      | refine LeO.bind ?_ (fun _ => ?_)
set_option maxHeartbeats 8000000 in
set_option maxRecDepth 100000 in
theorem octet_Update.calls (k : Nat) (a0 : Int) (a1 : Int) (a2 : Int) (r : Int) (w : World) (h : octet_Update.f k a0 a1 a2 = some r) :
    Calls Try.prog 31 #[.int .i64 a0, .int .i64 a1, .int .i64 a2] w fun e w' => e = .returned (.int .i64 r) ∧ Drawn0 w w' := by
  have H : ((octet_Plus.f k (wrap64 (65535 - (Go.bits .and .i64 a0 65535))) (wrap64 (65535 - (Go.bits .and .i64 a1 65535)))).bind fun t190 => ((octet_Plus.f k t190 a2).bind fun t191 => (some (wrap64 (65535 - t191))))) = some r := h
  clear h
  replace H := Option.bind_eq_some_iff.mp H
  obtain ⟨t190, A40, H⟩ := H
  replace H : ((octet_Plus.f k t190 a2).bind fun t191 => (some (wrap64 (65535 - t191)))) = some r := H
  have A4 := Aside0.mk A40
  clear A40
  replace H := Option.bind_eq_some_iff.mp H
  obtain ⟨t191, A50, H⟩ := H
  replace H : (some (wrap64 (65535 - t191))) = some r := H
  have A5 := Aside0.mk A50
  clear A50
  obtain rfl := Option.some.inj H
  go_enter Try.func31, Try.ntmps31
  go_wp2_with (first | ((with_reducible refine gate_callee (f := 29) rfl ?_); refine goesL_ (some 13) rfl rfl Try.func29 (by kernel_rfl) rfl #[.int .i64 (wrap64 (65535 - (Go.bits .and .i64 a0 65535))), .int .i64 (wrap64 (65535 - (Go.bits .and .i64 a1 65535)))] rfl (by (try simp only [List.map_toArray, List.map_cons, List.map_nil]); first | done | rfl | (simp only [List.length_drop, List.length_take]; rfl)) ?_; (with_reducible refine (octet_Plus.calls k (wrap64 (65535 - (Go.bits .and .i64 a0 65535))) (wrap64 (65535 - (Go.bits .and .i64 a1 65535))) t190 _ A4.out).mono ?_); rintro e w' ⟨rfl, ⟨nd, rfl⟩⟩; refine ⟨_, rfl, ?_⟩) | ((with_reducible refine gate_callee (f := 29) rfl ?_); refine goesL_ (some 15) rfl rfl Try.func29 (by kernel_rfl) rfl #[.int .i64 t190, .int .i64 a2] rfl (by (try simp only [List.map_toArray, List.map_cons, List.map_nil]); first | done | rfl | (simp only [List.length_drop, List.length_take]; rfl)) ?_; (with_reducible refine (octet_Plus.calls k t190 a2 t191 _ A5.out).mono ?_); rintro e w' ⟨rfl, ⟨nd, rfl⟩⟩; refine ⟨_, rfl, ?_⟩))
  go_ret
  exact ⟨by first | rfl | (simp; done) | (simp [*]; done), by repeat (first | exact Drawn0.refl _ | apply Drawn0.step)⟩

/-! ### octet_Put: function 33 -/
def octet_Put.l0 : Nat → Int → Int → List Int → Int → Option (List Int × Bool)
  | 0, _, _, _, _ => none
  | k + 1, x1, x3, x10, x11 => if x11 ≥ 0 then (if 0 ≤ (wrap64 (x1 + x11)) then (if (wrap64 (x1 + x11)) < (x10.length : Int) then (octet_Put.l0 k x1 (x3 / 256) (x10.set ((wrap64 (x1 + x11)) : Int).toNat ((x3) % 256)) (wrap64 (x11 - 1))) else (none)) else (none)) else (some (x10, true))
def octet_Put.f (k : Nat) (l0 : List Int) (a1 : Int) (a2 : Int) (a3 : Int) : Option (List Int × Bool) := (octet_may.f l0 a1 a2).bind fun t203 => (if t203 = true then (if ([] : List Int).length + l0.length < 140737488355328 then (octet_Put.l0 k a1 a3 (([] : List Int) ++ l0) (wrap64 (a2 - 1))) else (none)) else (some (([] : List Int), false)))
theorem octet_Put.mono_l : ∀ k, (∀ y0 y1 y2 y3, LeO (octet_Put.l0 k y0 y1 y2 y3) (octet_Put.l0 (k + 1) y0 y1 y2 y3))
  | 0 => fun _ _ _ _ r h => by simp [octet_Put.l0] at h
  | k + 1 => by
    have ih0 := octet_Put.mono_l k
    · intro y0 y1 y2 y3
      unfold octet_Put.l0
      repeat' first
      | (with_reducible exact ih0 _ _ _ _)
      | (with_reducible exact LeO.refl _)
      | (with_reducible exact LeO.none _)
      | (with_reducible refine LeO.ite ?_ ?_)
      | (with_reducible refine LeO.bind ?_ (fun _ => ?_))
      | exact ih0 _ _ _ _
      | exact LeO.none _
      | refine LeO.ite ?_ ?_
      | refine LeO.bind ?_ (fun _ => ?_)
theorem octet_Put.mono : ∀ a0 a1 a2 a3 k, LeO (octet_Put.f k a0 a1 a2 a3) (octet_Put.f (k + 1) a0 a1 a2 a3) := by
  intro a0 a1 a2 a3 k
  have ih0 := octet_Put.mono_l k
  unfold octet_Put.f
  repeat' first
      | (with_reducible exact ih0 _ _ _ _)
      | (with_reducible exact LeO.refl _)
      | (with_reducible exact LeO.none _)
      | (with_reducible refine LeO.ite ?_ ?_)
      | (with_reducible refine LeO.bind ?_ (fun _ => ?_))
      | exact ih0 _ _ _ _
      | exact LeO.none _
      | refine LeO.ite ?_ ?_
      | refine LeO.bind ?_ (fun _ => ?_)
set_option maxHeartbeats 8000000 in
set_option maxRecDepth 100000 in
theorem octet_Put.calls (k : Nat) (A0 : Option Addr) (c0 : Nat) (l0 : List Int) (a1 : Int) (a2 : Int) (a3 : Int) (r1 : List Int) (r2 : Bool) (w : World) (hr0 : Kd.C (Kd.int .u8) w A0 l0.length l0) (hc0 : l0.length ≤ c0) (h : octet_Put.f k l0 a1 a2 a3 = some (r1, r2)) :
    Calls Try.prog 33 #[.slice A0 l0.length c0, .int .i64 a1, .int .i64 a2, .int .u64 a3] w fun e w' => ∃ v0_ : Value, e = .returned (.tuple #[v0_, .bool r2]) ∧ Kd.R (Kd.int .u8) 5 w' w.heap.size (fun _ => True) v0_ r1 ∧ Below w.heap.size w w' := by
  have HR0 := Aside0.mk hr0
  have HC0 := Aside0.mk hc0
  clear hr0 hc0
  have HB := Aside0.mk (Below.refl w.heap.size w)
  have H : ((octet_may.f l0 a1 a2).bind fun t203 => (if t203 = true then (if ([] : List Int).length + l0.length < 140737488355328 then (octet_Put.l0 k a1 a3 (([] : List Int) ++ l0) (wrap64 (a2 - 1))) else (none)) else (some (([] : List Int), false)))) = some (r1, r2) := h
  clear h
  replace H := Option.bind_eq_some_iff.mp H
  obtain ⟨t203, A50, H⟩ := H
  replace H : (if t203 = true then (if ([] : List Int).length + l0.length < 140737488355328 then (octet_Put.l0 k a1 a3 (([] : List Int) ++ l0) (wrap64 (a2 - 1))) else (none)) else (some (([] : List Int), false))) = some (r1, r2) := H
  have A5 := Aside0.mk A50
  clear A50
  by_cases c6 : t203 = true
  · subst c6
    have H1 : (if ([] : List Int).length + l0.length < 140737488355328 then (octet_Put.l0 k a1 a3 (([] : List Int) ++ l0) (wrap64 (a2 - 1))) else (none)) = some (r1, r2) := by rw [if_pos rfl] at H; exact H
    clear H
    have H := H1
    clear H1
    by_cases c7 : ([] : List Int).length + l0.length < 140737488355328
    · rw [if_pos c7] at H
      have LMc7 := Aside0.mk c7
      clear c7
      obtain ⟨y204, hy204⟩ : ∃ y_ : List Int, y_ = (([] : List Int) ++ l0) := ⟨_, rfl⟩
      replace H : (octet_Put.l0 k a1 a3 y204 (wrap64 (a2 - 1))) = some (r1, r2) := by first | (rw [hy204]; with_reducible exact H) | (have H2_ := (Option.bind_some _ _).symm.trans H; rw [hy204]; with_reducible exact H2_) | (have H2_ := (Option.bind_some _ _).symm.trans H; with_reducible exact H2_) | with_reducible exact H | (rw [hy204]; exact H) | exact H
      have Ny204 := Aside0.mk hy204
      clear hy204
      have H' := Aside0.mk H
      clear H
      go_enter Try.func33, Try.ntmps33
      go_wp2_with (first | ((with_reducible refine gate_callee (f := 55) rfl ?_); refine goesL_ (some 15) rfl rfl Try.func55 (by kernel_rfl) rfl #[.slice A0 l0.length c0, .int .i64 a1, .int .i64 a2] rfl (by (try simp only [List.map_toArray, List.map_cons, List.map_nil]); first | done | rfl | (simp only [List.length_drop, List.length_take]; rfl)) ?_; (with_reducible refine (octet_may.calls _ _ l0 a1 a2 true _ ?side1 ?side2 A5.out).mono ?_); (case side1 => repeat (first | exact HR0.out | (with_reducible refine Kd.C_alloc ?_ _) | (with_reducible refine Kd.C_drewN ?_ _) | (with_reducible refine Kd.C_drew ?_))); (case side2 => exact HC0.out); rintro e w' ⟨rfl, ⟨nd, rfl⟩⟩; refine ⟨_, rfl, ?_⟩) | ((with_reducible refine gate_builtin (b := .append) (xs := #[.const (.slice none 0 0), .tmp 17]) rfl ?_); at_builtin; refine Kd.R_append_rows (Kd.int .u8) (w0 := w) w.heap.size rfl (.const (.slice none 0 0)) (.tmp 17) 22 5 (.int .u8 0) 1 rfl Try.underlying22 info5 rfl (by decide) (by omega) (.slice none 0 0) ([] : List Int) l0 _ _ _ (fun _ => True) (fun _ => False) rfl rfl ?aO ?aR (fun _ _ h => h) (fun _ h => h.elim) ?aF ?aB ?aS ?aL ?_; (case aR => repeat (first | exact HR0.out | (with_reducible refine Kd.C_alloc ?_ _) | (with_reducible refine Kd.C_drewN ?_ _) | (with_reducible refine Kd.C_drew ?_))); (case aB => exact (by repeat (first | (with_reducible first | exact HB.out | apply below_alloc | apply pw_below_drewN | apply below_drew1) | exact HB.out))); (case aF => exact (fun _ _ => trivial)); (case aO => exact ((Kd.R_nil _ _ _ _ (fun _ => True)))); (case aS => exact (below_size (by repeat (first | (with_reducible first | exact HB.out | apply below_alloc | apply pw_below_drewN | apply below_drew1) | exact HB.out)))); (case aL => have := LMc7.out; omega); intro v205 w8 ho hb hg hat; rw [← Ny204.out] at ho; have n0_ := Aside0.mk (hb); have n1_ := Aside0.mk (ho); clear HB; have HB := n0_; have HO206 := n1_; clear n0_ n1_; clear ho hb hg hat))
      go_loopg [3, 11] k (fun kq v3 v11 w' => ∃ (x3_1 : Int) (x10_1 : List Int) (x11_1 : Int), v3 = .int .u64 x3_1 ∧ v11 = .int .i64 x11_1 ∧ Aside0 (octet_Put.l0 kq a1 x3_1 x10_1 x11_1 = some (r1, r2)) ∧ Aside0 (kq ≤ k) ∧ Aside0 (Kd.R (Kd.int .u8) 5 w' w.heap.size (fun _ => True) v205 x10_1) ∧ Aside0 (Below w.heap.size w w'))
      case atStart => exact ⟨(a3), (y204), (wrap64 (a2 - 1)), (by first | rfl | (simp; done) | (simp [*]; done)), (by first | rfl | (simp; done) | (simp [*]; done)), H', ⟨Nat.le_refl _⟩, ⟨by (with_reducible repeat (first | apply Kd.R_alloc | apply Kd.R_drewN | apply Kd.R_drew)); exact HO206.out⟩, ⟨by repeat (first | (with_reducible first | exact HB.out | apply below_alloc | apply pw_below_drewN | apply below_drew1) | exact HB.out)⟩⟩
      case round =>
        clear H'
        try clear p2
        try clear c3
        try clear c5
        try clear c6
        try clear p6
        try clear c7
        obtain ⟨x3_1, x10_1, x11_1, rfl, rfl, HA, HK1, HO_10, HB⟩ := hrel
        cases gk with
        | zero => exact absurd HA.out (by simp [octet_Put.l0])
        | succ k1 =>
          have H := HA.out
          clear HA
          simp only [octet_Put.l0] at H
          by_cases c9 : x11_1 ≥ 0
          · rw [if_pos c9] at H
            have c9b0 : decide (0 ≤ x11_1) = true := decide_eq_true c9
            clear c9
            obtain ⟨ji10, hji10⟩ : ∃ j_ : Int, (wrap64 (a1 + x11_1)) = j_ := ⟨_, rfl⟩
            replace H : (if 0 ≤ (ji10) then (if (ji10) < (x10_1.length : Int) then (octet_Put.l0 k1 a1 (x3_1 / 256) (x10_1.set ((ji10) : Int).toNat ((x3_1) % 256)) (wrap64 (x11_1 - 1))) else (none)) else (none)) = some (r1, r2) := by first | (rw [hji10] at H; exact H) | (simp only [hji10] at H ⊢; exact H)
            have hji10w : (IntKind.i64.wrap (a1 + x11_1)) = ji10 := (i64_w _).trans hji10
            by_cases c11 : 0 ≤ (ji10)
            · rw [if_pos c11] at H
              have c11b0 : decide (0 ≤ (ji10)) = true := decide_eq_true c11
              clear c11
              by_cases c12 : (ji10) < (x10_1.length : Int)
              · rw [if_pos c12] at H
                have c12b0 : decide ((ji10) < (x10_1.length : Int)) = true := decide_eq_true c12
                clear c12
                obtain ⟨y207, hy207⟩ : ∃ y_ : List Int, y_ = (x10_1.set ((ji10) : Int).toNat ((x3_1) % 256)) := ⟨_, rfl⟩
                replace H : (octet_Put.l0 k1 a1 (x3_1 / 256) y207 (wrap64 (x11_1 - 1))) = some (r1, r2) := by first | (rw [hy207]; with_reducible exact H) | (have H2_ := (Option.bind_some _ _).symm.trans H; rw [hy207]; with_reducible exact H2_) | (have H2_ := (Option.bind_some _ _).symm.trans H; with_reducible exact H2_) | with_reducible exact H | (rw [hy207]; exact H) | exact H
                have Ny207 := Aside0.mk hy207
                clear hy207
                have H' := Aside0.mk H
                clear H
                have p13 : 0 ≤ ((ji10) : Int) := of_decide_eq_true (by first | (with_reducible assumption) | assumption)
                have q13 : ((ji10) : Int) < ((x10_1.length : Int) : Int) := of_decide_eq_true (by first | (with_reducible assumption) | assumption)
                obtain ⟨go13, co13, eo13, gb13, gl13, cl13, HG13⟩ := Kd.R_form HO_10.out (by omega)
                (first | cases eo13 | (injection eo13 with ea_ en_ ec_; (first | subst ea_ | (injection ea_ with ea_; subst ea_)); subst ec_; clear en_))
                have GB13 := Aside0.mk gb13
                have GG13 := Aside0.mk HG13
                clear gb13 gl13 HG13
                obtain ⟨hx13_0, hf13_0⟩ := Kd.R_celln 0 HO_10.out ((ji10) : Int) p13 q13
                replace p13 := eq_true p13
                replace q13 := eq_true q13
                have HP14 := Kd.R_putg HO_10.out ((ji10) : Int) ((x3_1) % 256)
                go_wp2_with (first | ((with_reducible refine gate_store (t := 5) (p := 31) rfl ?_); refine store_event (t := 5) (p := 31) (v := ?vo_w15) (w1 := (wr.setCell ⟨go13, ((ji10) : Int).toNat, none⟩ (.int .u8 ((x3_1) % 256)))) ?hg ?ho ?hn ?hr ?_; (case ho => rfl); (case hg => rfl); (case hn => rfl); (case hr => first | (go_simp; done) | (go_simp; rfl)); intro w15 hw; have hg : wr.grownBy w15 (some go13) := (by rw [hw]; exact HP14.2); have hp_ : Kd.R (Kd.int .u8) 5 w15 w.heap.size (fun _ => True) (.slice (some ⟨go13, 0, none⟩) x10_1.length co13) y207 := (by rw [hw, Ny207.out]; exact HP14.1); clear HP14; have n0_ := Aside0.mk (hp_); have n1_ := Aside0.mk ((by rw [hw]; exact below_set (HB.out) GB13.out : Below w.heap.size w w15)); clear HO_10; clear HB; have HO_10 := n0_; have HB := n1_; clear n0_ n1_; clear hg hw hp_))
                go_roundg k1
                case measure => have := HK1.out; omega
                case rel => exact ⟨(x3_1 / 256), (y207), (wrap64 (x11_1 - 1)), (by first | rfl | (simp; done) | (simp [*]; done)), (by first | rfl | (simp; done) | (simp [*]; done)), H', ⟨by have := HK1.out; omega⟩, ⟨by (with_reducible repeat (first | apply Kd.R_alloc | apply Kd.R_drewN | apply Kd.R_drew)); exact HO_10.out⟩, ⟨by repeat (first | (with_reducible first | exact HB.out | apply below_alloc | apply pw_below_drewN | apply below_drew1) | exact HB.out)⟩⟩
              · rw [if_neg c12] at H
                exact absurd H (by simp)
            · rw [if_neg c11] at H
              exact absurd H (by simp)
          · rw [if_neg c9] at H
            have c9b0 : decide (0 ≤ x11_1) = false := decide_eq_false c9
            clear c9
            simp only [Option.some.injEq, Prod.mk.injEq] at H
            obtain ⟨rfl, rfl⟩ := H
            go_wp2
            go_ret2
            exact ⟨_, by first | rfl | (simp [errW_none, errW_some] <;> rfl) | (simp [*, errW_none, errW_some] <;> rfl), by (with_reducible repeat (first | apply Kd.R_alloc | apply Kd.R_drewN | apply Kd.R_drew)); exact HO_10.out, by repeat (first | (with_reducible first | exact HB.out | apply below_alloc | apply pw_below_drewN | apply below_drew1) | exact HB.out)⟩
    · rw [if_neg c7] at H
      exact absurd H (by simp)
  · replace c6 := Bool.eq_false_iff.mpr c6
    subst c6
    have H1 : (some (([] : List Int), false)) = some (r1, r2) := by rw [if_neg (show ¬ (false = true) by decide)] at H; exact H
    clear H
    have H := H1
    clear H1
    simp only [Option.some.injEq, Prod.mk.injEq] at H
    obtain ⟨rfl, rfl⟩ := H
    go_enter Try.func33, Try.ntmps33
    go_wp2_with (first | ((with_reducible refine gate_callee (f := 55) rfl ?_); refine goesL_ (some 15) rfl rfl Try.func55 (by kernel_rfl) rfl #[.slice A0 l0.length c0, .int .i64 a1, .int .i64 a2] rfl (by (try simp only [List.map_toArray, List.map_cons, List.map_nil]); first | done | rfl | (simp only [List.length_drop, List.length_take]; rfl)) ?_; (with_reducible refine (octet_may.calls _ _ l0 a1 a2 false _ ?side1 ?side2 A5.out).mono ?_); (case side1 => repeat (first | exact HR0.out | (with_reducible refine Kd.C_alloc ?_ _) | (with_reducible refine Kd.C_drewN ?_ _) | (with_reducible refine Kd.C_drew ?_))); (case side2 => exact HC0.out); rintro e w' ⟨rfl, ⟨nd, rfl⟩⟩; refine ⟨_, rfl, ?_⟩))
    go_ret2
    exact ⟨_, by first | rfl | (simp [errW_none, errW_some] <;> rfl) | (simp [*, errW_none, errW_some] <;> rfl), by first | exact Kd.R_nil _ _ _ _ _ | exact Kd.N_nil _ _ _ _ _ | exact Kd.V_nil _ _ _ _ _ | exact Kd.Q_nil _ _ _ _ _ | exact Kd.S_nil _ _ _ _ _, by repeat (first | (with_reducible first | exact HB.out | apply below_alloc | apply pw_below_drewN | apply below_drew1) | exact HB.out)⟩

/-! ### octet_Crc: function 36, by hand -/
def octet_Crc.f (l0 : List Int) : Option Int := some (Go.bits .xor .u32 (-1) (l0.foldl octet_register_step.f 4294967295))
theorem octet_Crc.snoc (x : Int) (l : List Int) (i : Nat) (h : i < l.length) : (l.take (i + 1)).foldl octet_register_step.f x = octet_register_step.f ((l.take i).foldl octet_register_step.f x) (rd l (i : Int)) := by
  rw [List.take_succ_eq_append_getElem h, List.foldl_append]
  simp [rd, h]
set_option maxHeartbeats 800000 in
set_option maxRecDepth 100000 in
theorem octet_Crc.calls (A0 : Option Addr) (c0 : Nat) (l0 : List Int) (r : Int) (w : World) (hr0 : Kd.C (Kd.int .u8) w A0 l0.length l0) (hc0 : l0.length ≤ c0) (h : octet_Crc.f l0 = some r) :
    Calls Try.prog 36 #[.slice A0 l0.length c0] w fun e w' => e = .returned (.int .u32 r) ∧ Below w.heap.size w w' := by
  have HR0 := Aside0.mk hr0
  have HN := hr0.2.1
  clear hr0 hc0
  have HF := Aside0.mk h
  clear h
  have HB := Aside0.mk (Below.refl w.heap.size w)
  have hmf : ∀ (fn : Fn) (first cap : Array Value) (w : World), (Instr.makeFunc fn first cap).run Try.prog w = .ok (.func fn first cap) w := fun _ _ _ _ => rfl
  go_enter Try.func36, Try.ntmps36
  go_wp2
  go_loopg [10] l0.length (fun kq v10 w' => ∃ (j : Nat) (x : Int), v10 = .int .i64 j ∧ Aside0 (j + kq = l0.length) ∧ Aside0 ((l0.take j).foldl octet_register_step.f 4294967295 = x) ∧ Aside0 (w'.heap[w.heap.size]? = some (.cells #[.int .u32 x] 84 (0, 0))) ∧ Aside0 (Below w.heap.size w w'))
  case atStart => exact ⟨0, _, rfl, ⟨by simp⟩, ⟨rfl⟩, ⟨by simpa using heap_alloc_new w (.cells #[.int .u32 4294967295] 84 (0, 0))⟩, ⟨below_alloc HB.out _⟩⟩
  case round =>
    clear HB
    obtain ⟨j, x, rfl, HJ, HT, HI, HB⟩ := hrel
    by_cases c2 : j < l0.length
    · have c2b0 : decide (j < l0.length) = true := decide_eq_true c2
      have c2b1 : decide ((j : Int) < (l0.length : Int)) = true := decide_eq_true (by omega)
      obtain ⟨ad, e1, hx⟩ := Kd.at_int HR0.out (j : Int) (by omega) (by omega)
      cases e1
      have HS := Aside0.mk (octet_Crc.snoc 4294967295 l0 j c2)
      generalize rd l0 (j : Int) = c at *
      replace hx := (HB.out.cell (World.block_lt_of_cell? w _ hx)).trans hx
      simp only [Int.toNat_natCast] at hx
      obtain ⟨g0, rfl⟩ : ∃ g0, gk = g0 + 1 := ⟨gk - 1, by have := HJ.out; omega⟩
      go_wp2_with (fail)
      ((with_reducible refine (octet_register_step.calls w.heap.size x c w _ HI.out (Nat.le_refl _) HB.out).mono ?_); rintro e w2 ⟨rfl, hi, hb⟩)
      have HI2 := Aside0.mk hi
      have HB2 := Aside0.mk hb
      clear hi hb HI HB hx
      go_wp2
      go_roundg g0
      case measure => omega
      case rel => exact ⟨j + 1, _, by go_num, ⟨by have := HJ.out; omega⟩, ⟨by rw [HS.out, HT.out]⟩, HI2, HB2⟩
    · have c2b0 : decide (j < l0.length) = false := decide_eq_false c2
      have c2b1 : decide ((j : Int) < (l0.length : Int)) = false := decide_eq_false (by omega)
      have HE : Aside0 (Go.bits .xor .u32 (-1) x = r) := ⟨by have h := HF.out; unfold octet_Crc.f at h; have h2 := HT.out; rw [List.take_of_length_le (by omega)] at h2; rw [h2] at h; exact Option.some.inj h⟩
      have hc0 : wr.cell? ⟨w.heap.size, 0, none⟩ = some (.int .u32 x) := (blk_cell HI.out 0).trans rfl
      go_wp2
      go_ret
      exact ⟨by rw [← HE.out]; rfl, HB.out⟩

end Go.Proofs.Ytdppnkgblklmmaa.P
