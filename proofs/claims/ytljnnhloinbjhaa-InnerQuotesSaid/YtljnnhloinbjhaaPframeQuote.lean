-- Laid by a program (wip/tools/myprint.py) out of the translation. Not trusted: Lean checks it.
import Derived.Test.YtljnnhloinbjhaaP0
import Derived.Test.YtljnnhloinbjhaaPoctet
import Derived.Test.YtljnnhloinbjhaaPureWHand
namespace Go.Proofs.Ytljnnhloinbjhaa.P
open Go.RowKit Go.Proofs.YtljnnhloinbjhaaW.PrintWords Go.Proofs.YtljnnhloinbjhaaW.PrintLast
set_option linter.unusedVariables false
set_option linter.unusedSimpArgs false

/-! ### frame_Quote: function 28, by hand -/
theorem five_set {w : World} {g t : Nat} {u0 u1 u2 u3 u4 v0 v1 v2 v3 v4 : Value} (h : w.heap[g]? = some (.cells #[u0, u1, u2, u3, u4] t (0, 0))) :
    (((((w.setCell ⟨g, 0, none⟩ v0).setCell ⟨g, 1, none⟩ v1).setCell ⟨g, 2, none⟩ v2).setCell ⟨g, 3, none⟩ v3).setCell ⟨g, 4, none⟩ v4).heap[g]? = some (.cells #[v0, v1, v2, v3, v4] t (0, 0)) :=
  by
    have h0 := blk_put (cs' := #[v0, u1, u2, u3, u4]) h 0 v0 rfl
    have h1 := blk_put (cs' := #[v0, v1, u2, u3, u4]) h0 1 v1 rfl
    have h2 := blk_put (cs' := #[v0, v1, v2, u3, u4]) h1 2 v2 rfl
    have h3 := blk_put (cs' := #[v0, v1, v2, v3, u4]) h2 3 v3 rfl
    exact blk_put (cs' := #[v0, v1, v2, v3, v4]) h3 4 v4 rfl
/-- A call of a closure that stands in a variable. -/
theorem goesC {ops : Array Oper} {oi : Oper} {N : Option Tmp} {a : Act} {w : World} {K : Act → World → Prop} {Q : Exit → Act → World → Prop} {f : FuncId} {fn : Func} {as_ : Array Operand} {ts : Array TypeId} (hf : Try.prog.funcs[f]? = some fn) (hname : (fn.name == "runtime.NumGoroutine") = false) (hb : fn.body.isSome = true) (caps : Array Value) (x : Operand) (hx : a.eval x = .func (.func f) #[] caps) (args : Array Value)
    (hw : Region.wanted oi (yielded ops a.tmps) = true) (hN : oi.dst = N) (hop : oi.op = .call { callee := .value x, args := as_, argTypes := ts }) (hargs : as_.map a.eval ++ caps = args)
    (h : Calls Try.prog f args w fun e w' => ∃ v, e = .returned v ∧ K (a.put N v) w') : if Region.wanted oi (yielded ops a.tmps) = true then Oper.wp Try.prog oi a w K Q else K (a.put N undef) w := by
  refine call_ f args hw hN ?_ h
  have he := enters_ hf hname hb args w
  unfold execOp
  simp [hop, resolve, Deferred.ofValue, invoke, hx, hargs, he]
def frame_Quote.gt (l : List Int) (at_ n : Int) : Int := wrap64 ((octet_Get.f l at_ n).getD (0, false)).1
theorem frame_Quote.gt_some (l : List Int) (at_ n : Int) : ∃ x b, octet_Get.f l at_ n = some (x, b) ∧ frame_Quote.gt l at_ n = wrap64 x := by
  unfold frame_Quote.gt octet_Get.f
  split
  · exact ⟨_, _, rfl, rfl⟩
  · exact ⟨_, _, rfl, rfl⟩
set_option maxHeartbeats 800000 in
set_option maxRecDepth 100000 in
theorem frame_Quote.get (g : Nat) (A : Option Addr) (c : Nat) (l : List Int) (a0 a1 : Int) (w : World) (hI : w.heap[g]? = some (.cells #[.slice A l.length c] 23 (0, 0))) (hr : Kd.C (Kd.int .u8) w A l.length l) (hc : l.length ≤ c) :
    Calls Try.prog 72 #[.int .i64 a0, .int .i64 a1, .pointer (some ⟨g, 0, none⟩)] w fun e w' => e = .returned (.int .i64 (frame_Quote.gt l a0 a1)) ∧ Drawn0 w w' := by
  obtain ⟨x, b, hx, hg⟩ := frame_Quote.gt_some l a0 a1
  rw [hg]
  have HI := Aside0.mk hI
  have HR := Aside0.mk hr
  have HC := Aside0.mk hc
  have HX := Aside0.mk hx
  have hc0 : w.cell? ⟨g, 0, none⟩ = some (.slice A l.length c) := (blk_cell hI 0).trans rfl
  clear hI hr hc hx hg
  go_enter Try.func72, Try.ntmps72
  go_wp2_with (fail)
  ((with_reducible refine (octet_Get.calls _ _ l a0 a1 x b _ HR.out HC.out HX.out).mono ?_); rintro e w' ⟨rfl, ⟨nd, rfl⟩⟩)
  go_wp2_with (fail)
  go_ret
  exact ⟨rfl, ⟨_, rfl⟩⟩
set_option maxHeartbeats 8000000 in
set_option maxRecDepth 100000 in
theorem frame_Quote.r17 {s0 s3 s4 s8 s9 s10 s11 s12 s13 s14 s15 s16 s17 s18 s19 s20 s21 s22 s23 s24 s25 s26 s27 s28 s29 s30 s31 s32 s33 s34 s35 s36 s37 s38 s39 s40 s41 s42 s43 s44 s45 s46 s47 s48 s49 s50 s51 s52 s53 s54 s55 s56 s57 s58 s59 s60 s61 s62 s63 s64 s65 s66 s67 s68 s69 s70 s71 s72 s73 s74 s75 s76 s77 s78 s79 s80 s81 s82 s83 s84 s85 s86 s87 s88 s89 s90 s91 s92 s93 s94 s95 s96 s97 s98 s99 s100 s101 : Value} {D : List Deferred} {g1 g2 : Nat} {pf pt : Int} {ad : Addr} {c : Nat} {l : List Int} {w0 w : World} {Q : Exit → Act → World → Prop} (x9 : Int)
    (hi : w.heap[g1]? = some (.cells #[.slice (some ad) l.length c] 23 (0, 0))) (hp : w.heap[g2]? = some (.cells #[.int .i64 0, .int .u32 0, .int .i64 0, .int .u32 0, .int .i64 0] 35 (0, 0))) (hg : w0.heap.size ≤ g2)
    (hr : Kd.C (Kd.int .u8) w0 (some ad) l.length l) (hc : l.length ≤ c) (hb : Below w0.heap.size w0 w) (hl : 20 ≤ l.length)
    (hx : w0.cell? ⟨ad.block, ad.off + 9, none⟩ = some (.int .u8 x9)) (b9 : 0 ≤ x9 ∧ x9 ≤ 255)
    (hQ : ∀ y87 y88 y89 y90 y91 y92 y93 y94 y95 y96 y97 y98 y99 y100 y101 w', w'.heap[g2]? = some (.cells #[.int .i64 x9, .int .u32 (IntKind.u32.wrap (frame_Quote.gt l 12 4)), .int .i64 pf, .int .u32 (IntKind.u32.wrap (frame_Quote.gt l 16 4)), .int .i64 pt] 35 (0, 0)) → Below w0.heap.size w0 w' → Q .normal ⟨#[s0, .pointer (some ⟨g1, 0, none⟩), .pointer (some ⟨g2, 0, none⟩), .bool true, s4, .func (.func 72) #[] #[.pointer (some ⟨g1, 0, none⟩)], .int .i64 pf, .int .i64 pt, s8, s9, s10, s11, s12, s13, s14, s15, s16, s17, s18, s19, s20, s21, s22, s23, s24, s25, s26, s27, s28, s29, s30, s31, s32, s33, s34, s35, s36, s37, s38, s39, s40, s41, s42, s43, s44, s45, s46, s47, s48, s49, s50, s51, s52, s53, s54, s55, s56, s57, s58, s59, s60, s61, s62, s63, s64, s65, s66, s67, s68, s69, s70, s71, s72, s73, s74, s75, s76, s77, s78, s79, s80, s81, s82, s83, s84, s85, s86, y87, y88, y89, y90, y91, y92, y93, y94, y95, y96, y97, y98, y99, y100, y101], D⟩ w') :
    (regionIn 17 Try.f28).wp Try.prog Q ⟨#[s0, .pointer (some ⟨g1, 0, none⟩), .pointer (some ⟨g2, 0, none⟩), s3, s4, .func (.func 72) #[] #[.pointer (some ⟨g1, 0, none⟩)], .int .i64 pf, .int .i64 pt, s8, s9, s10, s11, s12, s13, s14, s15, s16, s17, s18, s19, s20, s21, s22, s23, s24, s25, s26, s27, s28, s29, s30, s31, s32, s33, s34, s35, s36, s37, s38, s39, s40, s41, s42, s43, s44, s45, s46, s47, s48, s49, s50, s51, s52, s53, s54, s55, s56, s57, s58, s59, s60, s61, s62, s63, s64, s65, s66, s67, s68, s69, s70, s71, s72, s73, s74, s75, s76, s77, s78, s79, s80, s81, s82, s83, s84, s85, s86, s87, s88, s89, s90, s91, s92, s93, s94, s95, s96, s97, s98, s99, s100, s101], D⟩ w := by
  conv => arg 2; whnf
  have hu35 := Try.underlying35
  have hu27 := Try.underlying27
  have HI := Aside0.mk hi
  have HP := Aside0.mk hp
  have HG := Aside0.mk hg
  have HR := Aside0.mk hr
  have HC := Aside0.mk hc
  have HB := Aside0.mk hb
  have HQ := Aside0.mk hQ
  have HX := Aside0.mk hx
  have Q9 : Aside0 (IntKind.i64.wrap x9 = x9) := ⟨by rw [IntKind.wrap_i64]; omega⟩
  have d9 : (9 : Int) < (l.length : Int) := by omega
  have d9' : 9 < l.length := by omega
  have q1 : w.cell? ⟨g1, 0, none⟩ = some (.slice (some ad) l.length c) := (blk_cell hi 0).trans rfl
  have q9 : w.cell? ⟨ad.block, ad.off + 9, none⟩ = some (.int .u8 x9) := pw_cell_below HB.out HX.out
  clear hi hp hg hr hc hb hl hQ hx b9
  refine wp_region_noPanic ?_
  go_region_law
    (first
      | (refine goesC (f := 72) Try.func72 (by kernel_rfl) rfl #[.pointer (some ⟨g1, 0, none⟩)] (.tmp 91) (by rfl) #[.int .i64 12, .int .i64 4, .pointer (some ⟨g1, 0, none⟩)] (by rfl) rfl rfl ?ha ?_
         (case ha => first | rfl | (go_simp; done) | (simp [Act.eval]; done))
         refine (frame_Quote.get g1 (some ad) c l 12 4 _ (by first | exact HI.out | exact blk_drew HI.out) (Kd.C_below HR.out (by first | exact HB.out | exact below_drew HB.out)) HC.out).mono ?_
         rintro e w1 ⟨rfl, hd1⟩
         refine ⟨_, rfl, ?_⟩
         have n1 := Aside0.mk (by first | exact blk_below (HI.out) hd1.below | exact blk_below (blk_drew HI.out) hd1.below : w1.heap[g1]? = some (.cells #[.slice (some ad) l.length c] 23 (0, 0)))
         have n2 := Aside0.mk (by first | exact blk_below (HP.out) hd1.below | exact blk_below (blk_drew HP.out) hd1.below : w1.heap[g2]? = some (.cells #[.int .i64 0, .int .u32 0, .int .i64 0, .int .u32 0, .int .i64 0] 35 (0, 0)))
         have n3 := Aside0.mk (by first | exact below_step (HB.out) hd1.below | exact below_step (below_drew HB.out) hd1.below : Below w0.heap.size w0 w1)
         clear HI HP HB hd1
         have HI := n1
         have HP := n2
         have HB := n3
         clear n1 n2 n3
         have q1 : w1.cell? ⟨g1, 0, none⟩ = some (.slice (some ad) l.length c) := (blk_cell HI.out 0).trans rfl
         have q9 : w1.cell? ⟨ad.block, ad.off + 9, none⟩ = some (.int .u8 x9) := pw_cell_below HB.out HX.out
         have hcA0 : w1.cell? ⟨g2, 0, none⟩ = some (.int .i64 0) := (blk_cell HP.out 0).trans rfl
         have hfA0 : w1.frozen? ⟨g2, 0, none⟩ = false := blk_frozen HP.out 0
         have hcA1 : w1.cell? ⟨g2, 1, none⟩ = some (.int .u32 0) := (blk_cell HP.out 1).trans rfl
         have hfA1 : w1.frozen? ⟨g2, 1, none⟩ = false := blk_frozen HP.out 1
         have hcA2 : w1.cell? ⟨g2, 2, none⟩ = some (.int .i64 0) := (blk_cell HP.out 2).trans rfl
         have hfA2 : w1.frozen? ⟨g2, 2, none⟩ = false := blk_frozen HP.out 2
         have hcA3 : w1.cell? ⟨g2, 3, none⟩ = some (.int .u32 0) := (blk_cell HP.out 3).trans rfl
         have hfA3 : w1.frozen? ⟨g2, 3, none⟩ = false := blk_frozen HP.out 3
         have hcA4 : w1.cell? ⟨g2, 4, none⟩ = some (.int .i64 0) := (blk_cell HP.out 4).trans rfl
         have hfA4 : w1.frozen? ⟨g2, 4, none⟩ = false := blk_frozen HP.out 4)
      | (refine goesC (f := 72) Try.func72 (by kernel_rfl) rfl #[.pointer (some ⟨g1, 0, none⟩)] (.tmp 96) (by rfl) #[.int .i64 16, .int .i64 4, .pointer (some ⟨g1, 0, none⟩)] (by rfl) rfl rfl ?ha ?_
         (case ha => first | rfl | (go_simp; done) | (simp [Act.eval]; done))
         refine (frame_Quote.get g1 (some ad) c l 16 4 _ (by first | exact HI.out | exact blk_drew HI.out) (Kd.C_below HR.out (by first | exact HB.out | exact below_drew HB.out)) HC.out).mono ?_
         rintro e w2 ⟨rfl, hd1⟩
         refine ⟨_, rfl, ?_⟩
         have n1 := Aside0.mk (by first | exact blk_below (HI.out) hd1.below | exact blk_below (blk_drew HI.out) hd1.below : w2.heap[g1]? = some (.cells #[.slice (some ad) l.length c] 23 (0, 0)))
         have n2 := Aside0.mk (by first | exact blk_below (HP.out) hd1.below | exact blk_below (blk_drew HP.out) hd1.below : w2.heap[g2]? = some (.cells #[.int .i64 0, .int .u32 0, .int .i64 0, .int .u32 0, .int .i64 0] 35 (0, 0)))
         have n3 := Aside0.mk (by first | exact below_step (HB.out) hd1.below | exact below_step (below_drew HB.out) hd1.below : Below w0.heap.size w0 w2)
         clear HI HP HB hd1
         have HI := n1
         have HP := n2
         have HB := n3
         clear n1 n2 n3
         have q1 : w2.cell? ⟨g1, 0, none⟩ = some (.slice (some ad) l.length c) := (blk_cell HI.out 0).trans rfl
         have q9 : w2.cell? ⟨ad.block, ad.off + 9, none⟩ = some (.int .u8 x9) := pw_cell_below HB.out HX.out
         have hcA0 : w2.cell? ⟨g2, 0, none⟩ = some (.int .i64 0) := (blk_cell HP.out 0).trans rfl
         have hfA0 : w2.frozen? ⟨g2, 0, none⟩ = false := blk_frozen HP.out 0
         have hcA1 : w2.cell? ⟨g2, 1, none⟩ = some (.int .u32 0) := (blk_cell HP.out 1).trans rfl
         have hfA1 : w2.frozen? ⟨g2, 1, none⟩ = false := blk_frozen HP.out 1
         have hcA2 : w2.cell? ⟨g2, 2, none⟩ = some (.int .i64 0) := (blk_cell HP.out 2).trans rfl
         have hfA2 : w2.frozen? ⟨g2, 2, none⟩ = false := blk_frozen HP.out 2
         have hcA3 : w2.cell? ⟨g2, 3, none⟩ = some (.int .u32 0) := (blk_cell HP.out 3).trans rfl
         have hfA3 : w2.frozen? ⟨g2, 3, none⟩ = false := blk_frozen HP.out 3
         have hcA4 : w2.cell? ⟨g2, 4, none⟩ = some (.int .i64 0) := (blk_cell HP.out 4).trans rfl
         have hfA4 : w2.frozen? ⟨g2, 4, none⟩ = false := blk_frozen HP.out 4))
  all_goals
    rw [Q9.out]
    refine NoPanic.normal (HQ.out _ _ _ _ _ _ _ _ _ _ _ _ _ _ _ _ ?q0 ?q1)
    (case q0 => exact five_set HP.out)
    (case q1 => exact below_set (below_set (below_set (below_set (below_set HB.out HG.out) HG.out) HG.out) HG.out) HG.out)
def frame_Quote.no : Option (Int × Int × Int × Int × Int × Bool) := some (0, 0, 0, 0, 0, false)
def frame_Quote.f (l : List Int) : Option (Int × Int × Int × Int × Int × Bool) :=
  if (l.length : Int) < 20 then frame_Quote.no
  else if ¬ ((0 ≤ rd l 0 ∧ rd l 0 ≤ 255) ∧ (0 ≤ rd l 9 ∧ rd l 9 ≤ 255)) then none
  else if rd l 0 / 16 ≠ 4 then frame_Quote.no
  else if rd l 0 % 16 < 5 then frame_Quote.no
  else if (l.length : Int) - rd l 0 % 16 * 4 < 8 then frame_Quote.no
  else if Go.bits .and .i64 (frame_Quote.gt l 6 2) 8191 ≠ 0 then frame_Quote.no
  else if rd l 9 = 17 ∨ rd l 9 = 6 then some (rd l 9, IntKind.u32.wrap (frame_Quote.gt l 12 4), frame_Quote.gt l (rd l 0 % 16 * 4) 2, IntKind.u32.wrap (frame_Quote.gt l 16 4), frame_Quote.gt l (rd l 0 % 16 * 4 + 2) 2, true)
  else if rd l 9 = 1 then
    (if ((rd l (rd l 0 % 16 * 4) ≠ 8 ∧ rd l (rd l 0 % 16 * 4) ≠ 0) ∨ rd l (rd l 0 % 16 * 4 + 1) ≠ 0) then frame_Quote.no
     else some (rd l 9, IntKind.u32.wrap (frame_Quote.gt l 12 4), frame_Quote.gt l (rd l 0 % 16 * 4 + 4) 2, IntKind.u32.wrap (frame_Quote.gt l 16 4), frame_Quote.gt l (rd l 0 % 16 * 4 + 4) 2, true))
  else frame_Quote.no
set_option maxHeartbeats 8000000 in
set_option maxRecDepth 100000 in
theorem frame_Quote.calls (A0 : Option Addr) (c0 : Nat) (l0 : List Int) (r1 r2 r3 r4 r5 : Int) (r6 : Bool) (w : World) (hr0 : Kd.C (Kd.int .u8) w A0 l0.length l0) (hc0 : l0.length ≤ c0) (h : frame_Quote.f l0 = some (r1, r2, r3, r4, r5, r6)) :
    Calls Try.prog 28 #[.slice A0 l0.length c0] w fun e w' => e = .returned (.tuple #[.agg #[.int .i64 r1, .int .u32 r2, .int .i64 r3, .int .u32 r4, .int .i64 r5], .bool r6]) ∧ Below w.heap.size w w' := by
  have hmf : ∀ (fn : Fn) (first cap : Array Value) (w : World), (Instr.makeFunc fn first cap).run Try.prog w = .ok (.func fn first cap) w := fun _ _ _ _ => rfl
  have hu35 := Try.underlying35
  have hu27 := Try.underlying27
  have HR := Aside0.mk hr0
  have HC := Aside0.mk hc0
  have HB : Aside0 (Below w.heap.size w ((w.alloc (.cells #[.slice A0 l0.length c0] 23)).alloc (.cells #[.int .i64 0, .int .u32 0, .int .i64 0, .int .u32 0, .int .i64 0] 35))) := ⟨below_alloc (below_alloc (Below.refl _ _) _) _⟩
  have HI : Aside0 (((w.alloc (.cells #[.slice A0 l0.length c0] 23)).alloc (.cells #[.int .i64 0, .int .u32 0, .int .i64 0, .int .u32 0, .int .i64 0] 35)).heap[w.heap.size]? = some (.cells #[.slice A0 l0.length c0] 23 (0, 0))) := ⟨blk_alloc (heap_alloc_new w _) _⟩
  have HP : Aside0 (((w.alloc (.cells #[.slice A0 l0.length c0] 23)).alloc (.cells #[.int .i64 0, .int .u32 0, .int .i64 0, .int .u32 0, .int .i64 0] 35)).heap[w.heap.size + 1]? = some (.cells #[.int .i64 0, .int .u32 0, .int .i64 0, .int .u32 0, .int .i64 0] 35 (0, 0))) := ⟨by simpa using heap_alloc_new (w.alloc (.cells #[.slice A0 l0.length c0] 23)) (.cells #[.int .i64 0, .int .u32 0, .int .i64 0, .int .u32 0, .int .i64 0] 35)⟩
  clear hr0 hc0
  go_enter Try.func28, Try.ntmps28
  go_upto_region 1 with (fail)
  generalize ((w.alloc (.cells #[.slice A0 l0.length c0] 23)).alloc (.cells #[.int .i64 0, .int .u32 0, .int .i64 0, .int .u32 0, .int .i64 0] 35)) = W at HB HI HP ⊢
  have hcI : W.cell? ⟨w.heap.size, 0, none⟩ = some (.slice A0 l0.length c0) := (blk_cell HI.out 0).trans rfl
  have hcP0 : W.cell? ⟨w.heap.size + 1, 0, none⟩ = some (.int .i64 0) := (blk_cell HP.out 0).trans rfl
  have hfP0 : W.frozen? ⟨w.heap.size + 1, 0, none⟩ = false := blk_frozen HP.out 0
  have hcP1 : W.cell? ⟨w.heap.size + 1, 1, none⟩ = some (.int .u32 0) := (blk_cell HP.out 1).trans rfl
  have hfP1 : W.frozen? ⟨w.heap.size + 1, 1, none⟩ = false := blk_frozen HP.out 1
  have hcP2 : W.cell? ⟨w.heap.size + 1, 2, none⟩ = some (.int .i64 0) := (blk_cell HP.out 2).trans rfl
  have hfP2 : W.frozen? ⟨w.heap.size + 1, 2, none⟩ = false := blk_frozen HP.out 2
  have hcP3 : W.cell? ⟨w.heap.size + 1, 3, none⟩ = some (.int .u32 0) := (blk_cell HP.out 3).trans rfl
  have hfP3 : W.frozen? ⟨w.heap.size + 1, 3, none⟩ = false := blk_frozen HP.out 3
  have hcP4 : W.cell? ⟨w.heap.size + 1, 4, none⟩ = some (.int .i64 0) := (blk_cell HP.out 4).trans rfl
  have hfP4 : W.frozen? ⟨w.heap.size + 1, 4, none⟩ = false := blk_frozen HP.out 4
  unfold frame_Quote.f at h
  by_cases c1 : (l0.length : Int) < 20
  · rw [if_pos c1] at h
    simp only [frame_Quote.no, Option.some.injEq, Prod.mk.injEq] at h
    obtain ⟨rfl, rfl, rfl, rfl, rfl, rfl⟩ := h
    have c1b0 : decide ((l0.length : Int) < 20) = true := decide_eq_true c1
    have c1b1 : decide (l0.length < 20) = true := decide_eq_true (by omega)
    clear c1
    go_wp2_with (fail)
    refine bodyPost_ret (results_ct rfl _ _ (w.heap.size + 1) 35 #[.int .i64 0, .int .u32 0, .int .i64 0, .int .u32 0, .int .i64 0] (0, 0) _ rfl (by exact five_set (by (with_reducible repeat (first | refine blk_drewN ?_ _ | refine blk_drew ?_)); exact HP.out)) Try.underlying35 rfl (by kernel_rfl)) rfl ?_
    exact ⟨rfl, below_set (below_set (below_set (below_set (below_set (by repeat (first | (with_reducible first | exact HB.out | apply pw_below_drewN | apply below_drew1) | exact HB.out)) (Nat.le_succ _)) (Nat.le_succ _)) (Nat.le_succ _)) (Nat.le_succ _)) (Nat.le_succ _)⟩
  rw [if_neg c1] at h
  have c1b0 : decide ((l0.length : Int) < 20) = false := decide_eq_false c1
  have c1b1 : decide (l0.length < 20) = false := decide_eq_false (by omega)
  by_cases cr : ¬ ((0 ≤ rd l0 0 ∧ rd l0 0 ≤ 255) ∧ (0 ≤ rd l0 9 ∧ rd l0 9 ≤ 255))
  · rw [if_pos cr] at h
    exact absurd h (by simp)
  rw [if_neg cr] at h
  have cr := Classical.not_not.1 cr
  obtain ⟨x0, f0⟩ : ∃ x, x = rd l0 0 := ⟨_, rfl⟩
  obtain ⟨x9, f9⟩ : ∃ x, x = rd l0 9 := ⟨_, rfl⟩
  obtain ⟨ad, rfl, hx0⟩ := Kd.at_int HR.out 0 (by decide) (by omega)
  obtain ⟨ad', ea, hx9⟩ := Kd.at_int HR.out 9 (by decide) (by omega)
  injection ea with ea
  subst ea
  rw [← f0] at hx0
  rw [← f9] at hx9
  rw [← f0, ← f9] at cr h
  simp only [show (0 : Int).toNat = 0 from rfl, show (9 : Int).toNat = 9 from rfl, Nat.reduceEqDiff, Go.Addr.add, ↓reduceIte] at hx0 hx9
  have HX := Aside0.mk hx9
  have y0 := pw_cell_below HB.out hx0
  have y9 := pw_cell_below HB.out hx9
  have HCR := Aside0.mk cr
  have ea : Go.bits .and .u8 x0 15 = x0 % 16 := by
    obtain ⟨n, rfl⟩ := Int.eq_ofNat_of_zero_le cr.1.1
    have : ∀ n : Fin 256, Go.bits .and .u8 (n.1 : Int) 15 = (n.1 : Int) % 16 := by decide
    exact this ⟨n, by omega⟩
  have e2 : wrap64 (x0 % 16) = x0 % 16 := by unfold wrap64; omega
  have b1 : (0 : Int) < (l0.length : Int) := by omega
  have b2 : 0 < l0.length := by omega
  have b9 : (9 : Int) < (l0.length : Int) := by omega
  have b9' : 9 < l0.length := by omega
  have HN := Aside0.mk HR.out.2.1
  have e5 : wrap64 ((l0.length : Int) - (x0 % 16 * 4)) = (l0.length : Int) - (x0 % 16 * 4) := by have := HN.out; unfold wrap64; omega
  have HL := Aside0.mk c1
  clear cr f0 f9 c1 hx0 hx9
  by_cases c3 : x0 / 16 ≠ 4
  · rw [if_pos c3] at h
    simp only [frame_Quote.no, Option.some.injEq, Prod.mk.injEq] at h
    obtain ⟨rfl, rfl, rfl, rfl, rfl, rfl⟩ := h
    have c3b0 : (x0 / 16 != 4) = true := bne_iff_ne.2 c3
    have c3b1 : (x0 / 16 == 4) = false := beq_eq_false_iff_ne.2 c3
    clear c3
    go_wp2_with (fail)
    refine bodyPost_ret (results_ct rfl _ _ (w.heap.size + 1) 35 #[.int .i64 0, .int .u32 0, .int .i64 0, .int .u32 0, .int .i64 0] (0, 0) _ rfl (by exact five_set (by (with_reducible repeat (first | refine blk_drewN ?_ _ | refine blk_drew ?_)); exact HP.out)) Try.underlying35 rfl (by kernel_rfl)) rfl ?_
    exact ⟨rfl, below_set (below_set (below_set (below_set (below_set (by repeat (first | (with_reducible first | exact HB.out | apply pw_below_drewN | apply below_drew1) | exact HB.out)) (Nat.le_succ _)) (Nat.le_succ _)) (Nat.le_succ _)) (Nat.le_succ _)) (Nat.le_succ _)⟩
  rw [if_neg c3] at h
  have c3b0 : (x0 / 16 != 4) = false := bne_eq_false_iff_eq.2 (Classical.not_not.1 c3)
  have c3b1 : (x0 / 16 == 4) = true := beq_iff_eq.2 (Classical.not_not.1 c3)
  clear c3
  by_cases c4 : x0 % 16 < 5
  · rw [if_pos c4] at h
    simp only [frame_Quote.no, Option.some.injEq, Prod.mk.injEq] at h
    obtain ⟨rfl, rfl, rfl, rfl, rfl, rfl⟩ := h
    have c4b0 : decide (x0 % 16 < 5) = true := decide_eq_true c4
    clear c4
    go_wp2_with (fail)
    refine bodyPost_ret (results_ct rfl _ _ (w.heap.size + 1) 35 #[.int .i64 0, .int .u32 0, .int .i64 0, .int .u32 0, .int .i64 0] (0, 0) _ rfl (by exact five_set (by (with_reducible repeat (first | refine blk_drewN ?_ _ | refine blk_drew ?_)); exact HP.out)) Try.underlying35 rfl (by kernel_rfl)) rfl ?_
    exact ⟨rfl, below_set (below_set (below_set (below_set (below_set (by repeat (first | (with_reducible first | exact HB.out | apply pw_below_drewN | apply below_drew1) | exact HB.out)) (Nat.le_succ _)) (Nat.le_succ _)) (Nat.le_succ _)) (Nat.le_succ _)) (Nat.le_succ _)⟩
  rw [if_neg c4] at h
  have c4b0 : decide (x0 % 16 < 5) = false := decide_eq_false c4
  have HC4 := Aside0.mk c4
  clear c4
  by_cases c5 : (l0.length : Int) - (x0 % 16 * 4) < 8
  · rw [if_pos c5] at h
    simp only [frame_Quote.no, Option.some.injEq, Prod.mk.injEq] at h
    obtain ⟨rfl, rfl, rfl, rfl, rfl, rfl⟩ := h
    have c5b0 : decide ((l0.length : Int) - (x0 % 16 * 4) < 8) = true := decide_eq_true c5
    clear c5
    go_wp2_with (fail)
    refine bodyPost_ret (results_ct rfl _ _ (w.heap.size + 1) 35 #[.int .i64 0, .int .u32 0, .int .i64 0, .int .u32 0, .int .i64 0] (0, 0) _ rfl (by exact five_set (by (with_reducible repeat (first | refine blk_drewN ?_ _ | refine blk_drew ?_)); exact HP.out)) Try.underlying35 rfl (by kernel_rfl)) rfl ?_
    exact ⟨rfl, below_set (below_set (below_set (below_set (below_set (by repeat (first | (with_reducible first | exact HB.out | apply pw_below_drewN | apply below_drew1) | exact HB.out)) (Nat.le_succ _)) (Nat.le_succ _)) (Nat.le_succ _)) (Nat.le_succ _)) (Nat.le_succ _)⟩
  rw [if_neg c5] at h
  have c5b0 : decide ((l0.length : Int) - (x0 % 16 * 4) < 8) = false := decide_eq_false c5
  have HC5 := Aside0.mk c5
  clear c5
  by_cases c6 : Go.bits .and .i64 (frame_Quote.gt l0 6 2) 8191 ≠ 0
  · rw [if_pos c6] at h
    simp only [frame_Quote.no, Option.some.injEq, Prod.mk.injEq] at h
    obtain ⟨rfl, rfl, rfl, rfl, rfl, rfl⟩ := h
    have c6b0 : (Go.bits .and .i64 (frame_Quote.gt l0 6 2) 8191 != 0) = true := bne_iff_ne.2 c6
    have c6b1 : (Go.bits .and .i64 (frame_Quote.gt l0 6 2) 8191 == 0) = false := beq_eq_false_iff_ne.2 c6
    clear c6
    go_wp2_with (fail)
    ((with_reducible refine (frame_Quote.get w.heap.size (some ad) c0 l0 6 2 _ (by (with_reducible repeat (first | refine blk_drewN ?_ _ | refine blk_drew ?_)); exact HI.out) (Kd.C_below HR.out (by repeat (first | (with_reducible first | exact HB.out | apply pw_below_drewN | apply below_drew1) | exact HB.out))) HC.out).mono ?_); rintro e' w' ⟨rfl, ⟨nd, rfl⟩⟩)
    go_wp2_with (fail)
    refine bodyPost_ret (results_ct rfl _ _ (w.heap.size + 1) 35 #[.int .i64 0, .int .u32 0, .int .i64 0, .int .u32 0, .int .i64 0] (0, 0) _ rfl (by exact five_set (by (with_reducible repeat (first | refine blk_drewN ?_ _ | refine blk_drew ?_)); exact HP.out)) Try.underlying35 rfl (by kernel_rfl)) rfl ?_
    exact ⟨rfl, below_set (below_set (below_set (below_set (below_set (by repeat (first | (with_reducible first | exact HB.out | apply pw_below_drewN | apply below_drew1) | exact HB.out)) (Nat.le_succ _)) (Nat.le_succ _)) (Nat.le_succ _)) (Nat.le_succ _)) (Nat.le_succ _)⟩
  rw [if_neg c6] at h
  have c6b0 : (Go.bits .and .i64 (frame_Quote.gt l0 6 2) 8191 != 0) = false := bne_eq_false_iff_eq.2 (Classical.not_not.1 c6)
  have c6b1 : (Go.bits .and .i64 (frame_Quote.gt l0 6 2) 8191 == 0) = true := beq_iff_eq.2 (Classical.not_not.1 c6)
  clear c6
  have hz5 : 20 ≤ (x0 % 16 * 4) ∧ (x0 % 16 * 4) ≤ 60 ∧ (x0 % 16 * 4) + 8 ≤ (l0.length : Int) := by have := HC4.out; have := HC5.out; omega
  have e6 : wrap64 ((x0 % 16 * 4) + 2) = (x0 % 16 * 4) + 2 := by unfold wrap64; omega
  have e7 : wrap64 ((x0 % 16 * 4) + 4) = (x0 % 16 * 4) + 4 := by unfold wrap64; omega
  have e8 : wrap64 ((x0 % 16 * 4) + 1) = (x0 % 16 * 4) + 1 := by unfold wrap64; omega
  have HD := Aside0.mk hz5
  clear hz5
  by_cases c7 : x9 = 17
  · rw [if_pos (Or.inl c7)] at h
    simp only [Option.some.injEq, Prod.mk.injEq] at h
    obtain ⟨rfl, rfl, rfl, rfl, rfl, rfl⟩ := h
    have c7b0 : (x9 == 17) = true := beq_iff_eq.2 c7
    clear c7
    go_wp2_with (fail)
    ((with_reducible refine (frame_Quote.get w.heap.size (some ad) c0 l0 6 2 _ (by (with_reducible repeat (first | refine blk_drewN ?_ _ | refine blk_drew ?_)); exact HI.out) (Kd.C_below HR.out (by repeat (first | (with_reducible first | exact HB.out | apply pw_below_drewN | apply below_drew1) | exact HB.out))) HC.out).mono ?_); rintro e' w' ⟨rfl, ⟨nd, rfl⟩⟩)
    go_wp2_with (fail)
    ((with_reducible refine (frame_Quote.get w.heap.size (some ad) c0 l0 (x0 % 16 * 4) 2 _ (by (with_reducible repeat (first | refine blk_drewN ?_ _ | refine blk_drew ?_)); exact HI.out) (Kd.C_below HR.out (by repeat (first | (with_reducible first | exact HB.out | apply pw_below_drewN | apply below_drew1) | exact HB.out))) HC.out).mono ?_); rintro e' w' ⟨rfl, ⟨nd, rfl⟩⟩)
    go_wp2_with (fail)
    ((with_reducible refine (frame_Quote.get w.heap.size (some ad) c0 l0 ((x0 % 16 * 4) + 2) 2 _ (by (with_reducible repeat (first | refine blk_drewN ?_ _ | refine blk_drew ?_)); exact HI.out) (Kd.C_below HR.out (by repeat (first | (with_reducible first | exact HB.out | apply pw_below_drewN | apply below_drew1) | exact HB.out))) HC.out).mono ?_); rintro e' w' ⟨rfl, ⟨nd, rfl⟩⟩)
    go_wp2_with (fail)
    refine frame_Quote.r17 (w0 := w) x9 (by (with_reducible repeat (first | refine blk_drewN ?_ _ | refine blk_drew ?_)); exact HI.out) (by (with_reducible repeat (first | refine blk_drewN ?_ _ | refine blk_drew ?_)); exact HP.out) (Nat.le_succ _) HR.out HC.out (by repeat (first | (with_reducible first | exact HB.out | apply pw_below_drewN | apply below_drew1) | exact HB.out)) (by have := HL.out; omega) HX.out HCR.out.2 ?_
    intro y87 y88 y89 y90 y91 y92 y93 y94 y95 y96 y97 y98 y99 y100 y101 w4 hp4 hb4
    go_wp2_with (fail)
    refine bodyPost_ret (results_ct rfl _ _ (w.heap.size + 1) 35 _ (0, 0) _ rfl (by (with_reducible repeat (first | refine blk_drewN ?_ _ | refine blk_drew ?_)); exact hp4) Try.underlying35 rfl rfl) rfl ?_
    exact ⟨rfl, by repeat (first | (with_reducible first | exact hb4 | apply pw_below_drewN | apply below_drew1) | exact hb4)⟩
  by_cases c8 : x9 = 6
  · rw [if_pos (Or.inr c8)] at h
    simp only [Option.some.injEq, Prod.mk.injEq] at h
    obtain ⟨rfl, rfl, rfl, rfl, rfl, rfl⟩ := h
    have c7b0 : (x9 == 17) = false := beq_eq_false_iff_ne.2 c7
    have c8b0 : (x9 == 6) = true := beq_iff_eq.2 c8
    clear c7 c8
    go_wp2_with (fail)
    ((with_reducible refine (frame_Quote.get w.heap.size (some ad) c0 l0 6 2 _ (by (with_reducible repeat (first | refine blk_drewN ?_ _ | refine blk_drew ?_)); exact HI.out) (Kd.C_below HR.out (by repeat (first | (with_reducible first | exact HB.out | apply pw_below_drewN | apply below_drew1) | exact HB.out))) HC.out).mono ?_); rintro e' w' ⟨rfl, ⟨nd, rfl⟩⟩)
    go_wp2_with (fail)
    ((with_reducible refine (frame_Quote.get w.heap.size (some ad) c0 l0 (x0 % 16 * 4) 2 _ (by (with_reducible repeat (first | refine blk_drewN ?_ _ | refine blk_drew ?_)); exact HI.out) (Kd.C_below HR.out (by repeat (first | (with_reducible first | exact HB.out | apply pw_below_drewN | apply below_drew1) | exact HB.out))) HC.out).mono ?_); rintro e' w' ⟨rfl, ⟨nd, rfl⟩⟩)
    go_wp2_with (fail)
    ((with_reducible refine (frame_Quote.get w.heap.size (some ad) c0 l0 ((x0 % 16 * 4) + 2) 2 _ (by (with_reducible repeat (first | refine blk_drewN ?_ _ | refine blk_drew ?_)); exact HI.out) (Kd.C_below HR.out (by repeat (first | (with_reducible first | exact HB.out | apply pw_below_drewN | apply below_drew1) | exact HB.out))) HC.out).mono ?_); rintro e' w' ⟨rfl, ⟨nd, rfl⟩⟩)
    go_wp2_with (fail)
    refine frame_Quote.r17 (w0 := w) x9 (by (with_reducible repeat (first | refine blk_drewN ?_ _ | refine blk_drew ?_)); exact HI.out) (by (with_reducible repeat (first | refine blk_drewN ?_ _ | refine blk_drew ?_)); exact HP.out) (Nat.le_succ _) HR.out HC.out (by repeat (first | (with_reducible first | exact HB.out | apply pw_below_drewN | apply below_drew1) | exact HB.out)) (by have := HL.out; omega) HX.out HCR.out.2 ?_
    intro y87 y88 y89 y90 y91 y92 y93 y94 y95 y96 y97 y98 y99 y100 y101 w4 hp4 hb4
    go_wp2_with (fail)
    refine bodyPost_ret (results_ct rfl _ _ (w.heap.size + 1) 35 _ (0, 0) _ rfl (by (with_reducible repeat (first | refine blk_drewN ?_ _ | refine blk_drew ?_)); exact hp4) Try.underlying35 rfl rfl) rfl ?_
    exact ⟨rfl, by repeat (first | (with_reducible first | exact hb4 | apply pw_below_drewN | apply below_drew1) | exact hb4)⟩
  rw [if_neg (show ¬ (x9 = 17 ∨ x9 = 6) from fun q => q.elim c7 c8)] at h
  have c7b0 : (x9 == 17) = false := beq_eq_false_iff_ne.2 c7
  have c8b0 : (x9 == 6) = false := beq_eq_false_iff_ne.2 c8
  clear c7 c8
  by_cases c9 : x9 = 1
  · rw [if_pos c9] at h
    have c9b0 : (x9 == 1) = true := beq_iff_eq.2 c9
    clear c9
    obtain ⟨xh, fh⟩ : ∃ x, x = rd l0 (x0 % 16 * 4) := ⟨_, rfl⟩
    obtain ⟨xj, fj⟩ : ∃ x, x = rd l0 ((x0 % 16 * 4) + 1) := ⟨_, rfl⟩
    obtain ⟨ad', ea', hxh⟩ := Kd.at_int HR.out (x0 % 16 * 4) (by have := HD.out; omega) (by have := HD.out; omega)
    injection ea' with ea'
    subst ea'
    obtain ⟨ad', ea', hxj⟩ := Kd.at_int HR.out ((x0 % 16 * 4) + 1) (by have := HD.out; omega) (by have := HD.out; omega)
    injection ea' with ea'
    subst ea'
    rw [← fh] at hxh h
    rw [← fj] at hxj h
    have yh := pw_cell_below HB.out hxh
    have yj := pw_cell_below HB.out hxj
    have p1 : 0 ≤ (x0 % 16 * 4) := by have := HD.out; omega
    have p2 : (x0 % 16 * 4) < (l0.length : Int) := by have := HD.out; omega
    have p3 : 0 ≤ (x0 % 16 * 4) + 1 := by have := HD.out; omega
    have p4 : (x0 % 16 * 4) + 1 < (l0.length : Int) := by have := HD.out; omega
    clear hxh hxj fh fj
    by_cases d0 : xj = 0
    · have d0b : (xj != 0) = false := bne_eq_false_iff_eq.2 d0
      by_cases d1 : xh = 8
      · rw [if_neg (by omega)] at h
        simp only [Option.some.injEq, Prod.mk.injEq] at h
        obtain ⟨rfl, rfl, rfl, rfl, rfl, rfl⟩ := h
        have d1b : (xh != 8) = false := bne_eq_false_iff_eq.2 d1
        clear d0 d1
        go_wp2_with (fail)
        ((with_reducible refine (frame_Quote.get w.heap.size (some ad) c0 l0 6 2 _ (by (with_reducible repeat (first | refine blk_drewN ?_ _ | refine blk_drew ?_)); exact HI.out) (Kd.C_below HR.out (by repeat (first | (with_reducible first | exact HB.out | apply pw_below_drewN | apply below_drew1) | exact HB.out))) HC.out).mono ?_); rintro e' w' ⟨rfl, ⟨nd, rfl⟩⟩)
        go_wp2_with (fail)
        ((with_reducible refine (frame_Quote.get w.heap.size (some ad) c0 l0 (x0 % 16 * 4) 2 _ (by (with_reducible repeat (first | refine blk_drewN ?_ _ | refine blk_drew ?_)); exact HI.out) (Kd.C_below HR.out (by repeat (first | (with_reducible first | exact HB.out | apply pw_below_drewN | apply below_drew1) | exact HB.out))) HC.out).mono ?_); rintro e' w' ⟨rfl, ⟨nd, rfl⟩⟩)
        go_wp2_with (fail)
        ((with_reducible refine (frame_Quote.get w.heap.size (some ad) c0 l0 ((x0 % 16 * 4) + 2) 2 _ (by (with_reducible repeat (first | refine blk_drewN ?_ _ | refine blk_drew ?_)); exact HI.out) (Kd.C_below HR.out (by repeat (first | (with_reducible first | exact HB.out | apply pw_below_drewN | apply below_drew1) | exact HB.out))) HC.out).mono ?_); rintro e' w' ⟨rfl, ⟨nd, rfl⟩⟩)
        go_wp2_with (fail)
        ((with_reducible refine (frame_Quote.get w.heap.size (some ad) c0 l0 ((x0 % 16 * 4) + 4) 2 _ (by (with_reducible repeat (first | refine blk_drewN ?_ _ | refine blk_drew ?_)); exact HI.out) (Kd.C_below HR.out (by repeat (first | (with_reducible first | exact HB.out | apply pw_below_drewN | apply below_drew1) | exact HB.out))) HC.out).mono ?_); rintro e' w' ⟨rfl, ⟨nd, rfl⟩⟩)
        go_wp2_with (fail)
        refine frame_Quote.r17 (w0 := w) x9 (by (with_reducible repeat (first | refine blk_drewN ?_ _ | refine blk_drew ?_)); exact HI.out) (by (with_reducible repeat (first | refine blk_drewN ?_ _ | refine blk_drew ?_)); exact HP.out) (Nat.le_succ _) HR.out HC.out (by repeat (first | (with_reducible first | exact HB.out | apply pw_below_drewN | apply below_drew1) | exact HB.out)) (by have := HL.out; omega) HX.out HCR.out.2 ?_
        intro y87 y88 y89 y90 y91 y92 y93 y94 y95 y96 y97 y98 y99 y100 y101 w4 hp4 hb4
        go_wp2_with (fail)
        refine bodyPost_ret (results_ct rfl _ _ (w.heap.size + 1) 35 _ (0, 0) _ rfl (by (with_reducible repeat (first | refine blk_drewN ?_ _ | refine blk_drew ?_)); exact hp4) Try.underlying35 rfl rfl) rfl ?_
        exact ⟨rfl, by repeat (first | (with_reducible first | exact hb4 | apply pw_below_drewN | apply below_drew1) | exact hb4)⟩
      · by_cases d2 : xh = 0
        · rw [if_neg (by omega)] at h
          simp only [Option.some.injEq, Prod.mk.injEq] at h
          obtain ⟨rfl, rfl, rfl, rfl, rfl, rfl⟩ := h
          have d1b : (xh != 8) = true := bne_iff_ne.2 d1
          have d2b : (xh != 0) = false := bne_eq_false_iff_eq.2 d2
          clear d0 d1 d2
          go_wp2_with (fail)
          ((with_reducible refine (frame_Quote.get w.heap.size (some ad) c0 l0 6 2 _ (by (with_reducible repeat (first | refine blk_drewN ?_ _ | refine blk_drew ?_)); exact HI.out) (Kd.C_below HR.out (by repeat (first | (with_reducible first | exact HB.out | apply pw_below_drewN | apply below_drew1) | exact HB.out))) HC.out).mono ?_); rintro e' w' ⟨rfl, ⟨nd, rfl⟩⟩)
          go_wp2_with (fail)
          ((with_reducible refine (frame_Quote.get w.heap.size (some ad) c0 l0 (x0 % 16 * 4) 2 _ (by (with_reducible repeat (first | refine blk_drewN ?_ _ | refine blk_drew ?_)); exact HI.out) (Kd.C_below HR.out (by repeat (first | (with_reducible first | exact HB.out | apply pw_below_drewN | apply below_drew1) | exact HB.out))) HC.out).mono ?_); rintro e' w' ⟨rfl, ⟨nd, rfl⟩⟩)
          go_wp2_with (fail)
          ((with_reducible refine (frame_Quote.get w.heap.size (some ad) c0 l0 ((x0 % 16 * 4) + 2) 2 _ (by (with_reducible repeat (first | refine blk_drewN ?_ _ | refine blk_drew ?_)); exact HI.out) (Kd.C_below HR.out (by repeat (first | (with_reducible first | exact HB.out | apply pw_below_drewN | apply below_drew1) | exact HB.out))) HC.out).mono ?_); rintro e' w' ⟨rfl, ⟨nd, rfl⟩⟩)
          go_wp2_with (fail)
          ((with_reducible refine (frame_Quote.get w.heap.size (some ad) c0 l0 ((x0 % 16 * 4) + 4) 2 _ (by (with_reducible repeat (first | refine blk_drewN ?_ _ | refine blk_drew ?_)); exact HI.out) (Kd.C_below HR.out (by repeat (first | (with_reducible first | exact HB.out | apply pw_below_drewN | apply below_drew1) | exact HB.out))) HC.out).mono ?_); rintro e' w' ⟨rfl, ⟨nd, rfl⟩⟩)
          go_wp2_with (fail)
          refine frame_Quote.r17 (w0 := w) x9 (by (with_reducible repeat (first | refine blk_drewN ?_ _ | refine blk_drew ?_)); exact HI.out) (by (with_reducible repeat (first | refine blk_drewN ?_ _ | refine blk_drew ?_)); exact HP.out) (Nat.le_succ _) HR.out HC.out (by repeat (first | (with_reducible first | exact HB.out | apply pw_below_drewN | apply below_drew1) | exact HB.out)) (by have := HL.out; omega) HX.out HCR.out.2 ?_
          intro y87 y88 y89 y90 y91 y92 y93 y94 y95 y96 y97 y98 y99 y100 y101 w4 hp4 hb4
          go_wp2_with (fail)
          refine bodyPost_ret (results_ct rfl _ _ (w.heap.size + 1) 35 _ (0, 0) _ rfl (by (with_reducible repeat (first | refine blk_drewN ?_ _ | refine blk_drew ?_)); exact hp4) Try.underlying35 rfl rfl) rfl ?_
          exact ⟨rfl, by repeat (first | (with_reducible first | exact hb4 | apply pw_below_drewN | apply below_drew1) | exact hb4)⟩
        · rw [if_pos (by omega)] at h
          simp only [frame_Quote.no, Option.some.injEq, Prod.mk.injEq] at h
          obtain ⟨rfl, rfl, rfl, rfl, rfl, rfl⟩ := h
          have d1b : (xh != 8) = true := bne_iff_ne.2 d1
          have d2b : (xh != 0) = true := bne_iff_ne.2 d2
          clear d0 d1 d2
          go_wp2_with (fail)
          ((with_reducible refine (frame_Quote.get w.heap.size (some ad) c0 l0 6 2 _ (by (with_reducible repeat (first | refine blk_drewN ?_ _ | refine blk_drew ?_)); exact HI.out) (Kd.C_below HR.out (by repeat (first | (with_reducible first | exact HB.out | apply pw_below_drewN | apply below_drew1) | exact HB.out))) HC.out).mono ?_); rintro e' w' ⟨rfl, ⟨nd, rfl⟩⟩)
          go_wp2_with (fail)
          ((with_reducible refine (frame_Quote.get w.heap.size (some ad) c0 l0 (x0 % 16 * 4) 2 _ (by (with_reducible repeat (first | refine blk_drewN ?_ _ | refine blk_drew ?_)); exact HI.out) (Kd.C_below HR.out (by repeat (first | (with_reducible first | exact HB.out | apply pw_below_drewN | apply below_drew1) | exact HB.out))) HC.out).mono ?_); rintro e' w' ⟨rfl, ⟨nd, rfl⟩⟩)
          go_wp2_with (fail)
          ((with_reducible refine (frame_Quote.get w.heap.size (some ad) c0 l0 ((x0 % 16 * 4) + 2) 2 _ (by (with_reducible repeat (first | refine blk_drewN ?_ _ | refine blk_drew ?_)); exact HI.out) (Kd.C_below HR.out (by repeat (first | (with_reducible first | exact HB.out | apply pw_below_drewN | apply below_drew1) | exact HB.out))) HC.out).mono ?_); rintro e' w' ⟨rfl, ⟨nd, rfl⟩⟩)
          go_wp2_with (fail)
          refine bodyPost_ret (results_ct rfl _ _ (w.heap.size + 1) 35 #[.int .i64 0, .int .u32 0, .int .i64 0, .int .u32 0, .int .i64 0] (0, 0) _ rfl (by exact five_set (by (with_reducible repeat (first | refine blk_drewN ?_ _ | refine blk_drew ?_)); exact HP.out)) Try.underlying35 rfl (by kernel_rfl)) rfl ?_
          exact ⟨rfl, below_set (below_set (below_set (below_set (below_set (by repeat (first | (with_reducible first | exact HB.out | apply pw_below_drewN | apply below_drew1) | exact HB.out)) (Nat.le_succ _)) (Nat.le_succ _)) (Nat.le_succ _)) (Nat.le_succ _)) (Nat.le_succ _)⟩
    · have d0b : (xj != 0) = true := bne_iff_ne.2 d0
      rw [if_pos (Or.inr d0)] at h
      simp only [frame_Quote.no, Option.some.injEq, Prod.mk.injEq] at h
      obtain ⟨rfl, rfl, rfl, rfl, rfl, rfl⟩ := h
      by_cases d1 : xh = 8
      · have d1b : (xh != 8) = false := bne_eq_false_iff_eq.2 d1
        clear d0 d1
        go_wp2_with (fail)
        ((with_reducible refine (frame_Quote.get w.heap.size (some ad) c0 l0 6 2 _ (by (with_reducible repeat (first | refine blk_drewN ?_ _ | refine blk_drew ?_)); exact HI.out) (Kd.C_below HR.out (by repeat (first | (with_reducible first | exact HB.out | apply pw_below_drewN | apply below_drew1) | exact HB.out))) HC.out).mono ?_); rintro e' w' ⟨rfl, ⟨nd, rfl⟩⟩)
        go_wp2_with (fail)
        ((with_reducible refine (frame_Quote.get w.heap.size (some ad) c0 l0 (x0 % 16 * 4) 2 _ (by (with_reducible repeat (first | refine blk_drewN ?_ _ | refine blk_drew ?_)); exact HI.out) (Kd.C_below HR.out (by repeat (first | (with_reducible first | exact HB.out | apply pw_below_drewN | apply below_drew1) | exact HB.out))) HC.out).mono ?_); rintro e' w' ⟨rfl, ⟨nd, rfl⟩⟩)
        go_wp2_with (fail)
        ((with_reducible refine (frame_Quote.get w.heap.size (some ad) c0 l0 ((x0 % 16 * 4) + 2) 2 _ (by (with_reducible repeat (first | refine blk_drewN ?_ _ | refine blk_drew ?_)); exact HI.out) (Kd.C_below HR.out (by repeat (first | (with_reducible first | exact HB.out | apply pw_below_drewN | apply below_drew1) | exact HB.out))) HC.out).mono ?_); rintro e' w' ⟨rfl, ⟨nd, rfl⟩⟩)
        go_wp2_with (fail)
        refine bodyPost_ret (results_ct rfl _ _ (w.heap.size + 1) 35 #[.int .i64 0, .int .u32 0, .int .i64 0, .int .u32 0, .int .i64 0] (0, 0) _ rfl (by exact five_set (by (with_reducible repeat (first | refine blk_drewN ?_ _ | refine blk_drew ?_)); exact HP.out)) Try.underlying35 rfl (by kernel_rfl)) rfl ?_
        exact ⟨rfl, below_set (below_set (below_set (below_set (below_set (by repeat (first | (with_reducible first | exact HB.out | apply pw_below_drewN | apply below_drew1) | exact HB.out)) (Nat.le_succ _)) (Nat.le_succ _)) (Nat.le_succ _)) (Nat.le_succ _)) (Nat.le_succ _)⟩
      · have d1b : (xh != 8) = true := bne_iff_ne.2 d1
        by_cases d2 : xh = 0
        · have d2b : (xh != 0) = false := bne_eq_false_iff_eq.2 d2
          clear d0 d1 d2
          go_wp2_with (fail)
          ((with_reducible refine (frame_Quote.get w.heap.size (some ad) c0 l0 6 2 _ (by (with_reducible repeat (first | refine blk_drewN ?_ _ | refine blk_drew ?_)); exact HI.out) (Kd.C_below HR.out (by repeat (first | (with_reducible first | exact HB.out | apply pw_below_drewN | apply below_drew1) | exact HB.out))) HC.out).mono ?_); rintro e' w' ⟨rfl, ⟨nd, rfl⟩⟩)
          go_wp2_with (fail)
          ((with_reducible refine (frame_Quote.get w.heap.size (some ad) c0 l0 (x0 % 16 * 4) 2 _ (by (with_reducible repeat (first | refine blk_drewN ?_ _ | refine blk_drew ?_)); exact HI.out) (Kd.C_below HR.out (by repeat (first | (with_reducible first | exact HB.out | apply pw_below_drewN | apply below_drew1) | exact HB.out))) HC.out).mono ?_); rintro e' w' ⟨rfl, ⟨nd, rfl⟩⟩)
          go_wp2_with (fail)
          ((with_reducible refine (frame_Quote.get w.heap.size (some ad) c0 l0 ((x0 % 16 * 4) + 2) 2 _ (by (with_reducible repeat (first | refine blk_drewN ?_ _ | refine blk_drew ?_)); exact HI.out) (Kd.C_below HR.out (by repeat (first | (with_reducible first | exact HB.out | apply pw_below_drewN | apply below_drew1) | exact HB.out))) HC.out).mono ?_); rintro e' w' ⟨rfl, ⟨nd, rfl⟩⟩)
          go_wp2_with (fail)
          refine bodyPost_ret (results_ct rfl _ _ (w.heap.size + 1) 35 #[.int .i64 0, .int .u32 0, .int .i64 0, .int .u32 0, .int .i64 0] (0, 0) _ rfl (by exact five_set (by (with_reducible repeat (first | refine blk_drewN ?_ _ | refine blk_drew ?_)); exact HP.out)) Try.underlying35 rfl (by kernel_rfl)) rfl ?_
          exact ⟨rfl, below_set (below_set (below_set (below_set (below_set (by repeat (first | (with_reducible first | exact HB.out | apply pw_below_drewN | apply below_drew1) | exact HB.out)) (Nat.le_succ _)) (Nat.le_succ _)) (Nat.le_succ _)) (Nat.le_succ _)) (Nat.le_succ _)⟩
        · have d2b : (xh != 0) = true := bne_iff_ne.2 d2
          clear d0 d1 d2
          go_wp2_with (fail)
          ((with_reducible refine (frame_Quote.get w.heap.size (some ad) c0 l0 6 2 _ (by (with_reducible repeat (first | refine blk_drewN ?_ _ | refine blk_drew ?_)); exact HI.out) (Kd.C_below HR.out (by repeat (first | (with_reducible first | exact HB.out | apply pw_below_drewN | apply below_drew1) | exact HB.out))) HC.out).mono ?_); rintro e' w' ⟨rfl, ⟨nd, rfl⟩⟩)
          go_wp2_with (fail)
          ((with_reducible refine (frame_Quote.get w.heap.size (some ad) c0 l0 (x0 % 16 * 4) 2 _ (by (with_reducible repeat (first | refine blk_drewN ?_ _ | refine blk_drew ?_)); exact HI.out) (Kd.C_below HR.out (by repeat (first | (with_reducible first | exact HB.out | apply pw_below_drewN | apply below_drew1) | exact HB.out))) HC.out).mono ?_); rintro e' w' ⟨rfl, ⟨nd, rfl⟩⟩)
          go_wp2_with (fail)
          ((with_reducible refine (frame_Quote.get w.heap.size (some ad) c0 l0 ((x0 % 16 * 4) + 2) 2 _ (by (with_reducible repeat (first | refine blk_drewN ?_ _ | refine blk_drew ?_)); exact HI.out) (Kd.C_below HR.out (by repeat (first | (with_reducible first | exact HB.out | apply pw_below_drewN | apply below_drew1) | exact HB.out))) HC.out).mono ?_); rintro e' w' ⟨rfl, ⟨nd, rfl⟩⟩)
          go_wp2_with (fail)
          refine bodyPost_ret (results_ct rfl _ _ (w.heap.size + 1) 35 #[.int .i64 0, .int .u32 0, .int .i64 0, .int .u32 0, .int .i64 0] (0, 0) _ rfl (by exact five_set (by (with_reducible repeat (first | refine blk_drewN ?_ _ | refine blk_drew ?_)); exact HP.out)) Try.underlying35 rfl (by kernel_rfl)) rfl ?_
          exact ⟨rfl, below_set (below_set (below_set (below_set (below_set (by repeat (first | (with_reducible first | exact HB.out | apply pw_below_drewN | apply below_drew1) | exact HB.out)) (Nat.le_succ _)) (Nat.le_succ _)) (Nat.le_succ _)) (Nat.le_succ _)) (Nat.le_succ _)⟩
  rw [if_neg c9] at h
  simp only [frame_Quote.no, Option.some.injEq, Prod.mk.injEq] at h
  obtain ⟨rfl, rfl, rfl, rfl, rfl, rfl⟩ := h
  have c9b0 : (x9 == 1) = false := beq_eq_false_iff_ne.2 c9
  clear c9
  go_wp2_with (fail)
  ((with_reducible refine (frame_Quote.get w.heap.size (some ad) c0 l0 6 2 _ (by (with_reducible repeat (first | refine blk_drewN ?_ _ | refine blk_drew ?_)); exact HI.out) (Kd.C_below HR.out (by repeat (first | (with_reducible first | exact HB.out | apply pw_below_drewN | apply below_drew1) | exact HB.out))) HC.out).mono ?_); rintro e' w' ⟨rfl, ⟨nd, rfl⟩⟩)
  go_wp2_with (fail)
  ((with_reducible refine (frame_Quote.get w.heap.size (some ad) c0 l0 (x0 % 16 * 4) 2 _ (by (with_reducible repeat (first | refine blk_drewN ?_ _ | refine blk_drew ?_)); exact HI.out) (Kd.C_below HR.out (by repeat (first | (with_reducible first | exact HB.out | apply pw_below_drewN | apply below_drew1) | exact HB.out))) HC.out).mono ?_); rintro e' w' ⟨rfl, ⟨nd, rfl⟩⟩)
  go_wp2_with (fail)
  ((with_reducible refine (frame_Quote.get w.heap.size (some ad) c0 l0 ((x0 % 16 * 4) + 2) 2 _ (by (with_reducible repeat (first | refine blk_drewN ?_ _ | refine blk_drew ?_)); exact HI.out) (Kd.C_below HR.out (by repeat (first | (with_reducible first | exact HB.out | apply pw_below_drewN | apply below_drew1) | exact HB.out))) HC.out).mono ?_); rintro e' w' ⟨rfl, ⟨nd, rfl⟩⟩)
  go_wp2_with (fail)
  refine bodyPost_ret (results_ct rfl _ _ (w.heap.size + 1) 35 #[.int .i64 0, .int .u32 0, .int .i64 0, .int .u32 0, .int .i64 0] (0, 0) _ rfl (by exact five_set (by (with_reducible repeat (first | refine blk_drewN ?_ _ | refine blk_drew ?_)); exact HP.out)) Try.underlying35 rfl (by kernel_rfl)) rfl ?_
  exact ⟨rfl, below_set (below_set (below_set (below_set (below_set (by repeat (first | (with_reducible first | exact HB.out | apply pw_below_drewN | apply below_drew1) | exact HB.out)) (Nat.le_succ _)) (Nat.le_succ _)) (Nat.le_succ _)) (Nat.le_succ _)) (Nat.le_succ _)⟩

end Go.Proofs.Ytljnnhloinbjhaa.P
