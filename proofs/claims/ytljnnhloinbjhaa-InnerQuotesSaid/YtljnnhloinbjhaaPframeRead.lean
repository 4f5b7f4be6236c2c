-- Laid by a program (wip/tools/myprint.py) out of the translation. Not trusted: Lean checks it.
import Derived.Test.YtljnnhloinbjhaaP0
import Derived.Test.YtljnnhloinbjhaaPudp
import Derived.Test.YtljnnhloinbjhaaPtcp
import Derived.Test.YtljnnhloinbjhaaPicmp
import Derived.Test.YtljnnhloinbjhaaPip
import Derived.Test.YtljnnhloinbjhaaPframe
import Derived.Test.YtljnnhloinbjhaaPframeQuote
import Derived.Great.Ranges
import Derived.Test.YtljnnhloinbjhaaPureWHand
namespace Go.Proofs.Ytljnnhloinbjhaa.P
open Go.RowKit Go.Proofs.YtljnnhloinbjhaaW.PrintWords Go.Proofs.YtljnnhloinbjhaaW.PrintLast
set_option linter.unusedVariables false
set_option linter.unusedSimpArgs false

/-! ### frame_Read: function 25, by hand -/
set_option maxHeartbeats 4000000 in
set_option maxRecDepth 100000 in
theorem frame_reader_ends.calls {u0 u1 u2 u3 u4 u5 u6 u9 u10 u11 u12 u13 u14 u15 u16 u17 u18 u19 u20 u21 : Value} (g : Nat) (src dst a b : Int) (w : World) (h : w.heap[g]? = some (.cells #[u0, u1, u2, u3, u4, u5, u6, .int .u32 src, .int .u32 dst, u9, u10, u11, u12, u13, u14, u15, u16, u17, u18, u19, u20, u21] 92 (0, 0))) :
    Calls Try.prog 109 #[.pointer (some ⟨g, 0, none⟩), .int .i64 a, .int .i64 b] w fun e w' => e = .returned (.tuple #[]) ∧ w'.heap[g]? = some (.cells #[u0, u1, u2, u3, u4, u5, u6, .int .u32 src, .int .u32 dst, u9, u10, u11, .int .u32 src, .int .i64 a, .int .u32 dst, .int .i64 b, u16, u17, u18, u19, u20, u21] 92 (0, 0)) ∧ (∀ w0 : World, w0.heap.size ≤ g → Below w0.heap.size w0 w → Below w0.heap.size w0 w') ∧ (∀ k, k ≠ g → w'.heap[k]? = w.heap[k]?) := by
  have hu27 := Try.underlying27
  have H := Aside0.mk h
  have h7 : w.cell? ⟨g, 7, none⟩ = some (.int .u32 src) := (blk_cell h 7).trans rfl
  have h8 : w.cell? ⟨g, 8, none⟩ = some (.int .u32 dst) := (blk_cell h 8).trans rfl
  have hc12 : w.cell? ⟨g, 12, none⟩ = some u12 := (blk_cell h 12).trans rfl
  have hf12 : w.frozen? ⟨g, 12, none⟩ = false := blk_frozen h 12
  have hc13 : w.cell? ⟨g, 13, none⟩ = some u13 := (blk_cell h 13).trans rfl
  have hf13 : w.frozen? ⟨g, 13, none⟩ = false := blk_frozen h 13
  have hc14 : w.cell? ⟨g, 14, none⟩ = some u14 := (blk_cell h 14).trans rfl
  have hf14 : w.frozen? ⟨g, 14, none⟩ = false := blk_frozen h 14
  have hc15 : w.cell? ⟨g, 15, none⟩ = some u15 := (blk_cell h 15).trans rfl
  have hf15 : w.frozen? ⟨g, 15, none⟩ = false := blk_frozen h 15
  clear h
  go_enter Try.func109, Try.ntmps109
  go_wp2_with (fail)
  go_end0
  refine ⟨rfl, ?_, ?_, ?_⟩
  · have k0 := blk_put (cs' := #[u0, u1, u2, u3, u4, u5, u6, .int .u32 src, .int .u32 dst, u9, u10, u11, .int .u32 src, u13, u14, u15, u16, u17, u18, u19, u20, u21]) H.out 12 (.int .u32 src) rfl
    have k1 := blk_put (cs' := #[u0, u1, u2, u3, u4, u5, u6, .int .u32 src, .int .u32 dst, u9, u10, u11, .int .u32 src, .int .i64 a, u14, u15, u16, u17, u18, u19, u20, u21]) k0 13 (.int .i64 a) rfl
    have k2 := blk_put (cs' := #[u0, u1, u2, u3, u4, u5, u6, .int .u32 src, .int .u32 dst, u9, u10, u11, .int .u32 src, .int .i64 a, .int .u32 dst, u15, u16, u17, u18, u19, u20, u21]) k1 14 (.int .u32 dst) rfl
    have k3 := blk_put (cs' := #[u0, u1, u2, u3, u4, u5, u6, .int .u32 src, .int .u32 dst, u9, u10, u11, .int .u32 src, .int .i64 a, .int .u32 dst, .int .i64 b, u16, u17, u18, u19, u20, u21]) k2 15 (.int .i64 b) rfl
    exact k3
  · intro w0 hg hb
    exact below_set (below_set (below_set (below_set hb hg) hg) hg) hg
  · intro k hk
    iterate 4 rw [Below.heap_setCell _ _ _ k hk]

theorem frame_reader_other.calls (v : Value) (w : World) : Calls Try.prog 63 #[v] w fun e w' => e = .returned (.int .i64 4) ∧ Drawn0 w w' := by
  go_enter Try.func63, Try.ntmps63
  go_wp2_with (fail)
  go_ret
  exact ⟨rfl, by repeat (first | exact Drawn0.refl _ | apply Drawn0.step)⟩
theorem frame_reader_udp.set {w : World} {g t : Nat} {u0 u1 u2 u3 v0 v1 v2 v3 : Value} (h : w.heap[g]? = some (.cells #[u0, u1, u2, u3] t (0, 0))) :
    ((((w.setCell ⟨g, 0, none⟩ v0).setCell ⟨g, 1, none⟩ v1).setCell ⟨g, 2, none⟩ v2).setCell ⟨g, 3, none⟩ v3).heap[g]? = some (.cells #[v0, v1, v2, v3] t (0, 0)) := by
  have h0 := blk_put (cs' := #[v0, u1, u2, u3]) h 0 v0 rfl
  have h1 := blk_put (cs' := #[v0, v1, u2, u3]) h0 1 v1 rfl
  have h2 := blk_put (cs' := #[v0, v1, v2, u3]) h1 2 v2 rfl
  exact blk_put (cs' := #[v0, v1, v2, v3]) h2 3 v3 rfl
theorem frame_reader_udp.far {w : World} {g : Nat} {v0 v1 v2 v3 : Value} (k : Nat) (hk : k ≠ g) : ((((w.setCell ⟨g, 0, none⟩ v0).setCell ⟨g, 1, none⟩ v1).setCell ⟨g, 2, none⟩ v2).setCell ⟨g, 3, none⟩ v3).heap[k]? = w.heap[k]? := by
  iterate 4 rw [Below.heap_setCell _ _ _ k hk]
theorem frame_reader_udp.kept {w0 w : World} {g : Nat} {v0 v1 v2 v3 : Value} (hb : Below w0.heap.size w0 w) (hg : w0.heap.size ≤ g) : Below w0.heap.size w0 ((((w.setCell ⟨g, 0, none⟩ v0).setCell ⟨g, 1, none⟩ v1).setCell ⟨g, 2, none⟩ v2).setCell ⟨g, 3, none⟩ v3) := below_set (below_set (below_set (below_set (hb) hg) hg) hg) hg
set_option maxHeartbeats 8000000 in
set_option maxRecDepth 100000 in
theorem frame_reader_udp.r1 {s1 s2 s3 s4 s5 s6 s7 s8 s9 s10 s11 s12 s13 s14 s15 s16 s17 s18 s19 s20 s21 s22 s23 s24 s25 s26 s27 s28 s29 s30 s31 s32 s33 s34 s35 s36 s37 s38 u0 u1 u2 u3 u4 u5 u6 u9 u11 u12 u13 u14 u15 u16 u17 u18 u19 u20 u21 : Value} {D : List Deferred} {g : Nat} {src dst : Int} {A : Option Addr} {c k : Nat} {l : List Int} {r1 r2 : Int} {r3 : Bool} {r4 : List Int} {r5 : Int} {w : World} {Q : Exit → Act → World → Prop}
    (hp : w.heap[g]? = some (.cells #[u0, u1, u2, u3, u4, u5, u6, .int .u32 src, .int .u32 dst, u9, .slice A l.length c, u11, u12, u13, u14, u15, u16, u17, u18, u19, u20, u21] 92 (0, 0))) (hr : Kd.C (Kd.int .u8) w A l.length l) (hc : l.length ≤ c) (he : udp_Parse.f k src dst l = some (r1, r2, r3, r4, r5))
    (hQ : ∀ y5 y6 y7 y8 y9 y10 y11 y12 y13 y14 y15 y16 y17 y18 y19 y20 y21 y22 y23 y24 y25 y26 g3 v3 w', w.heap.size ≤ g3 → w'.heap[g3]? = some (.cells #[.int .i64 r1, .int .i64 r2, .bool r3, v3] 77 (0, 0)) → w'.heap[g]? = some (.cells #[u0, u1, u2, u3, u4, u5, u6, .int .u32 src, .int .u32 dst, u9, .slice A l.length c, u11, u12, u13, u14, u15, u16, u17, u18, u19, u20, u21] 92 (0, 0)) → Below w.heap.size w w' → Q .normal ⟨#[.pointer (some ⟨g, 0, none⟩), s1, s2, .pointer (some ⟨g3, 0, none⟩), .int .i64 r5, y5, y6, y7, y8, y9, y10, y11, y12, y13, y14, y15, y16, y17, y18, y19, y20, y21, y22, y23, y24, y25, y26, s27, s28, s29, s30, s31, s32, s33, s34, s35, s36, s37, s38], D⟩ w') :
    (regionIn 1 Try.f64).wp Try.prog Q ⟨#[.pointer (some ⟨g, 0, none⟩), s1, s2, s3, s4, s5, s6, s7, s8, s9, s10, s11, s12, s13, s14, s15, s16, s17, s18, s19, s20, s21, s22, s23, s24, s25, s26, s27, s28, s29, s30, s31, s32, s33, s34, s35, s36, s37, s38], D⟩ w := by
  conv => arg 2; whnf
  have hu77 := Try.underlying77
  have HP := Aside0.mk hp
  have HG := Aside0.mk (blk_lt hp)
  have HR := Aside0.mk hr
  have HC := Aside0.mk hc
  have HE := Aside0.mk he
  have HQ := Aside0.mk hQ
  have HB := Aside0.mk (Below.refl w.heap.size w)
  have HX := Aside0.mk (And.intro ((blk_cell hp 7).trans rfl : w.cell? ⟨g, 7, none⟩ = some (.int .u32 src)) (And.intro ((blk_cell hp 8).trans rfl : w.cell? ⟨g, 8, none⟩ = some (.int .u32 dst)) ((blk_cell hp 10).trans rfl : w.cell? ⟨g, 10, none⟩ = some (.slice A l.length c))))
  have h7 : w.cell? ⟨g, 7, none⟩ = some (.int .u32 src) := (blk_cell hp 7).trans rfl
  have h8 : w.cell? ⟨g, 8, none⟩ = some (.int .u32 dst) := (blk_cell hp 8).trans rfl
  have h10 : w.cell? ⟨g, 10, none⟩ = some (.slice A l.length c) := (blk_cell hp 10).trans rfl
  clear hp hr hc he hQ
  refine wp_region_noPanic ?_
  go_region_held3 (fun w' => w'.cell? ⟨g, 7, none⟩ = some (.int .u32 src) ∧ w'.cell? ⟨g, 8, none⟩ = some (.int .u32 dst) ∧ w'.cell? ⟨g, 10, none⟩ = some (.slice A l.length c))
    (first
      | with_reducible exact ⟨(blk_cell HP.out 7).trans rfl, (blk_cell HP.out 8).trans rfl, (blk_cell HP.out 10).trans rfl⟩
      | with_reducible exact ⟨(blk_cell (blk_alloc HP.out _) 7).trans rfl, (blk_cell (blk_alloc HP.out _) 8).trans rfl, (blk_cell (blk_alloc HP.out _) 10).trans rfl⟩
      | with_reducible exact ⟨(blk_cell ((frame_reader_udp.far g (Nat.ne_of_lt HG.out)).trans HP.out) 7).trans rfl, (blk_cell ((frame_reader_udp.far g (Nat.ne_of_lt HG.out)).trans HP.out) 8).trans rfl, (blk_cell ((frame_reader_udp.far g (Nat.ne_of_lt HG.out)).trans HP.out) 10).trans rfl⟩
      | go_keep)
    (first
      | (refine goes_ (f := 108) Try.func108 (by kernel_rfl) rfl #[.int .u32 src, .int .u32 dst, .slice A l.length c] (by rfl) rfl rfl ?ha ?_
         (case ha => first | rfl | (go_simp; done) | (simp [Act.eval]; done))
         refine (udp_Parse.calls k src dst A c l r1 r2 r3 r4 r5 _ (Kd.C_below HR.out (by first | exact HB.out | exact below_drew HB.out | exact below_alloc HB.out _ | exact below_drew (below_alloc HB.out _) | exact below_alloc (below_drew HB.out) _)) HC.out HE.out).mono ?_
         rintro e w1 ⟨v3, rfl, hr3, hb1⟩
         obtain ⟨V3, C3, rfl⟩ := Kd.R_slice hr3
         refine ⟨_, rfl, ?_⟩
         have n1 := Aside0.mk (by first | exact blk_below (HP.out) hb1 | exact blk_below (blk_drew HP.out) hb1 | exact blk_below (blk_alloc HP.out _) hb1 | exact blk_below (blk_alloc (blk_drew HP.out) _) hb1 : w1.heap[g]? = some (.cells #[u0, u1, u2, u3, u4, u5, u6, .int .u32 src, .int .u32 dst, u9, .slice A l.length c, u11, u12, u13, u14, u15, u16, u17, u18, u19, u20, u21] 92 (0, 0)))
         have n2 := Aside0.mk (by first | exact below_step (HB.out) hb1 | exact below_step (below_drew HB.out) hb1 | exact below_step (below_alloc HB.out _) hb1 | exact below_step (below_alloc (below_drew HB.out) _) hb1 : Below w.heap.size w w1)
         clear HP HB
         have HP := n1
         have HB := n2
         (first | (have HA := Aside0.mk (blk_below (heap_alloc_new _ (.cells #[.int .i64 0, .int .i64 0, .bool false, .slice none 0 0] 77)) hb1); have hcA0 : w1.cell? ⟨_, 0, none⟩ = some (.int .i64 0) := (blk_cell HA.out 0).trans rfl; have hfA0 : w1.frozen? ⟨_, 0, none⟩ = false := blk_frozen HA.out 0; have hcA1 : w1.cell? ⟨_, 1, none⟩ = some (.int .i64 0) := (blk_cell HA.out 1).trans rfl; have hfA1 : w1.frozen? ⟨_, 1, none⟩ = false := blk_frozen HA.out 1; have hcA2 : w1.cell? ⟨_, 2, none⟩ = some (.bool false) := (blk_cell HA.out 2).trans rfl; have hfA2 : w1.frozen? ⟨_, 2, none⟩ = false := blk_frozen HA.out 2; have hcA3 : w1.cell? ⟨_, 3, none⟩ = some (.slice none 0 0) := (blk_cell HA.out 3).trans rfl; have hfA3 : w1.frozen? ⟨_, 3, none⟩ = false := blk_frozen HA.out 3) | (have HA := Aside0.mk (blk_below (blk_drew (heap_alloc_new _ (.cells #[.int .i64 0, .int .i64 0, .bool false, .slice none 0 0] 77))) hb1); have hcA0 : w1.cell? ⟨_, 0, none⟩ = some (.int .i64 0) := (blk_cell HA.out 0).trans rfl; have hfA0 : w1.frozen? ⟨_, 0, none⟩ = false := blk_frozen HA.out 0; have hcA1 : w1.cell? ⟨_, 1, none⟩ = some (.int .i64 0) := (blk_cell HA.out 1).trans rfl; have hfA1 : w1.frozen? ⟨_, 1, none⟩ = false := blk_frozen HA.out 1; have hcA2 : w1.cell? ⟨_, 2, none⟩ = some (.bool false) := (blk_cell HA.out 2).trans rfl; have hfA2 : w1.frozen? ⟨_, 2, none⟩ = false := blk_frozen HA.out 2; have hcA3 : w1.cell? ⟨_, 3, none⟩ = some (.slice none 0 0) := (blk_cell HA.out 3).trans rfl; have hfA3 : w1.frozen? ⟨_, 3, none⟩ = false := blk_frozen HA.out 3) | (have hcA3 : (w1.alloc (.cells #[.int .i64 r1, .int .i64 r2, .bool r3, .slice none 0 0] 77)).cell? ⟨w1.heap.size, 3, none⟩ = some (.slice none 0 0) := (blk_cell (heap_alloc_new w1 (.cells #[.int .i64 r1, .int .i64 r2, .bool r3, .slice none 0 0] 77)) 3).trans rfl; have hfA3 : (w1.alloc (.cells #[.int .i64 r1, .int .i64 r2, .bool r3, .slice none 0 0] 77)).frozen? ⟨w1.heap.size, 3, none⟩ = false := blk_frozen (heap_alloc_new w1 (.cells #[.int .i64 r1, .int .i64 r2, .bool r3, .slice none 0 0] 77)) 3))
         clear n1 n2 hr3 hb1))
  · refine NoPanic.normal (HQ.out _ _ _ _ _ _ _ _ _ _ _ _ _ _ _ _ _ _ _ _ _ _ _ (.slice V3 r4.length C3) _ ?q0 ?q1 ?q2 ?q3)
    (case q0 => exact below_size HB.out)
    (case q1 => with_reducible exact heap_alloc_new _ _)
    (case q2 => with_reducible exact blk_alloc HP.out _)
    (case q3 => with_reducible exact below_alloc HB.out _)
  · refine NoPanic.normal (HQ.out _ _ _ _ _ _ _ _ _ _ _ _ _ _ _ _ _ _ _ _ _ _ _ (.slice V3 r4.length C3) _ ?q0 ?q1 ?q2 ?q3)
    (case q0 => exact Nat.le_refl _)
    (case q1 => exact frame_reader_udp.set HA.out)
    (case q2 => exact (frame_reader_udp.far _ (Nat.ne_of_lt HG.out)).trans HP.out)
    (case q3 => exact frame_reader_udp.kept HB.out (Nat.le_refl _))
theorem frame_reader_tcp.set {w : World} {g t : Nat} {u0 u1 u2 u3 u4 u5 u6 u7 u8 v0 v1 v2 v3 v4 v5 v6 v7 v8 : Value} (h : w.heap[g]? = some (.cells #[u0, u1, u2, u3, u4, u5, u6, u7, u8] t (0, 0))) :
    (((((((((w.setCell ⟨g, 0, none⟩ v0).setCell ⟨g, 1, none⟩ v1).setCell ⟨g, 2, none⟩ v2).setCell ⟨g, 3, none⟩ v3).setCell ⟨g, 4, none⟩ v4).setCell ⟨g, 5, none⟩ v5).setCell ⟨g, 6, none⟩ v6).setCell ⟨g, 7, none⟩ v7).setCell ⟨g, 8, none⟩ v8).heap[g]? = some (.cells #[v0, v1, v2, v3, v4, v5, v6, v7, v8] t (0, 0)) := by
  have h0 := blk_put (cs' := #[v0, u1, u2, u3, u4, u5, u6, u7, u8]) h 0 v0 rfl
  have h1 := blk_put (cs' := #[v0, v1, u2, u3, u4, u5, u6, u7, u8]) h0 1 v1 rfl
  have h2 := blk_put (cs' := #[v0, v1, v2, u3, u4, u5, u6, u7, u8]) h1 2 v2 rfl
  have h3 := blk_put (cs' := #[v0, v1, v2, v3, u4, u5, u6, u7, u8]) h2 3 v3 rfl
  have h4 := blk_put (cs' := #[v0, v1, v2, v3, v4, u5, u6, u7, u8]) h3 4 v4 rfl
  have h5 := blk_put (cs' := #[v0, v1, v2, v3, v4, v5, u6, u7, u8]) h4 5 v5 rfl
  have h6 := blk_put (cs' := #[v0, v1, v2, v3, v4, v5, v6, u7, u8]) h5 6 v6 rfl
  have h7 := blk_put (cs' := #[v0, v1, v2, v3, v4, v5, v6, v7, u8]) h6 7 v7 rfl
  exact blk_put (cs' := #[v0, v1, v2, v3, v4, v5, v6, v7, v8]) h7 8 v8 rfl
theorem frame_reader_tcp.far {w : World} {g : Nat} {v0 v1 v2 v3 v4 v5 v6 v7 v8 : Value} (k : Nat) (hk : k ≠ g) : (((((((((w.setCell ⟨g, 0, none⟩ v0).setCell ⟨g, 1, none⟩ v1).setCell ⟨g, 2, none⟩ v2).setCell ⟨g, 3, none⟩ v3).setCell ⟨g, 4, none⟩ v4).setCell ⟨g, 5, none⟩ v5).setCell ⟨g, 6, none⟩ v6).setCell ⟨g, 7, none⟩ v7).setCell ⟨g, 8, none⟩ v8).heap[k]? = w.heap[k]? := by
  iterate 9 rw [Below.heap_setCell _ _ _ k hk]
theorem frame_reader_tcp.kept {w0 w : World} {g : Nat} {v0 v1 v2 v3 v4 v5 v6 v7 v8 : Value} (hb : Below w0.heap.size w0 w) (hg : w0.heap.size ≤ g) : Below w0.heap.size w0 (((((((((w.setCell ⟨g, 0, none⟩ v0).setCell ⟨g, 1, none⟩ v1).setCell ⟨g, 2, none⟩ v2).setCell ⟨g, 3, none⟩ v3).setCell ⟨g, 4, none⟩ v4).setCell ⟨g, 5, none⟩ v5).setCell ⟨g, 6, none⟩ v6).setCell ⟨g, 7, none⟩ v7).setCell ⟨g, 8, none⟩ v8) := below_set (below_set (below_set (below_set (below_set (below_set (below_set (below_set (below_set (hb) hg) hg) hg) hg) hg) hg) hg) hg) hg
set_option maxHeartbeats 8000000 in
set_option maxRecDepth 100000 in
theorem frame_reader_tcp.r1 {s1 s2 s3 s4 s5 s6 s7 s8 s9 s10 s11 s12 s13 s14 s15 s16 s17 s18 s19 s20 s21 s22 s23 s24 s25 s26 s27 s28 s29 s30 s31 s32 s33 s34 s35 s36 s37 s38 s39 s40 s41 s42 s43 s44 u0 u1 u2 u3 u4 u5 u6 u9 u11 u12 u13 u14 u15 u16 u17 u18 u19 u20 u21 : Value} {D : List Deferred} {g : Nat} {src dst : Int} {A : Option Addr} {c k : Nat} {l : List Int} {r1 r2 r3 r4 r5 r6 r7 : Int} {r8 r9 : List Int} {r10 : Int} {w : World} {Q : Exit → Act → World → Prop}
    (hp : w.heap[g]? = some (.cells #[u0, u1, u2, u3, u4, u5, u6, .int .u32 src, .int .u32 dst, u9, .slice A l.length c, u11, u12, u13, u14, u15, u16, u17, u18, u19, u20, u21] 92 (0, 0))) (hr : Kd.C (Kd.int .u8) w A l.length l) (hc : l.length ≤ c) (he : tcp_Parse.f src dst l = some (r1, r2, r3, r4, r5, r6, r7, r8, r9, r10))
    (hQ : ∀ y5 y6 y7 y8 y9 y10 y11 y12 y13 y14 y15 y16 y17 y18 y19 y20 y21 y22 y23 y24 y25 y26 g3 v7 v8 w', w.heap.size ≤ g3 → w'.heap[g3]? = some (.cells #[.int .i64 r1, .int .i64 r2, .int .u32 r3, .int .u32 r4, .int .i64 r5, .int .i64 r6, .int .i64 r7, v7, v8] 96 (0, 0)) → w'.heap[g]? = some (.cells #[u0, u1, u2, u3, u4, u5, u6, .int .u32 src, .int .u32 dst, u9, .slice A l.length c, u11, u12, u13, u14, u15, u16, u17, u18, u19, u20, u21] 92 (0, 0)) → Below w.heap.size w w' → Q .normal ⟨#[.pointer (some ⟨g, 0, none⟩), s1, s2, .pointer (some ⟨g3, 0, none⟩), .int .i64 r10, y5, y6, y7, y8, y9, y10, y11, y12, y13, y14, y15, y16, y17, y18, y19, y20, y21, y22, y23, y24, y25, y26, s27, s28, s29, s30, s31, s32, s33, s34, s35, s36, s37, s38, s39, s40, s41, s42, s43, s44], D⟩ w') :
    (regionIn 1 Try.f65).wp Try.prog Q ⟨#[.pointer (some ⟨g, 0, none⟩), s1, s2, s3, s4, s5, s6, s7, s8, s9, s10, s11, s12, s13, s14, s15, s16, s17, s18, s19, s20, s21, s22, s23, s24, s25, s26, s27, s28, s29, s30, s31, s32, s33, s34, s35, s36, s37, s38, s39, s40, s41, s42, s43, s44], D⟩ w := by
  conv => arg 2; whnf
  have hu77 := Try.underlying96
  have HP := Aside0.mk hp
  have HG := Aside0.mk (blk_lt hp)
  have HR := Aside0.mk hr
  have HC := Aside0.mk hc
  have HE := Aside0.mk he
  have HQ := Aside0.mk hQ
  have HB := Aside0.mk (Below.refl w.heap.size w)
  have HX := Aside0.mk (And.intro ((blk_cell hp 7).trans rfl : w.cell? ⟨g, 7, none⟩ = some (.int .u32 src)) (And.intro ((blk_cell hp 8).trans rfl : w.cell? ⟨g, 8, none⟩ = some (.int .u32 dst)) ((blk_cell hp 10).trans rfl : w.cell? ⟨g, 10, none⟩ = some (.slice A l.length c))))
  have h7 : w.cell? ⟨g, 7, none⟩ = some (.int .u32 src) := (blk_cell hp 7).trans rfl
  have h8 : w.cell? ⟨g, 8, none⟩ = some (.int .u32 dst) := (blk_cell hp 8).trans rfl
  have h10 : w.cell? ⟨g, 10, none⟩ = some (.slice A l.length c) := (blk_cell hp 10).trans rfl
  clear hp hr hc he hQ
  refine wp_region_noPanic ?_
  go_region_held3 (fun w' => w'.cell? ⟨g, 7, none⟩ = some (.int .u32 src) ∧ w'.cell? ⟨g, 8, none⟩ = some (.int .u32 dst) ∧ w'.cell? ⟨g, 10, none⟩ = some (.slice A l.length c))
    (first
      | with_reducible exact ⟨(blk_cell HP.out 7).trans rfl, (blk_cell HP.out 8).trans rfl, (blk_cell HP.out 10).trans rfl⟩
      | with_reducible exact ⟨(blk_cell (blk_alloc HP.out _) 7).trans rfl, (blk_cell (blk_alloc HP.out _) 8).trans rfl, (blk_cell (blk_alloc HP.out _) 10).trans rfl⟩
      | with_reducible exact ⟨(blk_cell ((frame_reader_tcp.far g (Nat.ne_of_lt HG.out)).trans HP.out) 7).trans rfl, (blk_cell ((frame_reader_tcp.far g (Nat.ne_of_lt HG.out)).trans HP.out) 8).trans rfl, (blk_cell ((frame_reader_tcp.far g (Nat.ne_of_lt HG.out)).trans HP.out) 10).trans rfl⟩
      | go_keep)
    (first
      | (refine goes_ (f := 110) Try.func110 (by kernel_rfl) rfl #[.int .u32 src, .int .u32 dst, .slice A l.length c] (by rfl) rfl rfl ?ha ?_
         (case ha => first | rfl | (go_simp; done) | (simp [Act.eval]; done))
         refine (tcp_Parse.calls src dst A c l r1 r2 r3 r4 r5 r6 r7 r8 r9 r10 _ (Kd.C_below HR.out (by first | exact HB.out | exact below_drew HB.out | exact below_alloc HB.out _ | exact below_drew (below_alloc HB.out _) | exact below_alloc (below_drew HB.out) _)) HC.out HE.out).mono ?_
         rintro e w1 ⟨v7, v8, rfl, hr7, hr8, hb1⟩
         obtain ⟨V7, C7, rfl⟩ := Kd.R_slice hr7
         obtain ⟨V8, C8, rfl⟩ := Kd.R_slice hr8
         refine ⟨_, rfl, ?_⟩
         have n1 := Aside0.mk (by first | exact blk_below (HP.out) hb1 | exact blk_below (blk_drew HP.out) hb1 | exact blk_below (blk_alloc HP.out _) hb1 | exact blk_below (blk_alloc (blk_drew HP.out) _) hb1 : w1.heap[g]? = some (.cells #[u0, u1, u2, u3, u4, u5, u6, .int .u32 src, .int .u32 dst, u9, .slice A l.length c, u11, u12, u13, u14, u15, u16, u17, u18, u19, u20, u21] 92 (0, 0)))
         have n2 := Aside0.mk (by first | exact below_step (HB.out) hb1 | exact below_step (below_drew HB.out) hb1 | exact below_step (below_alloc HB.out _) hb1 | exact below_step (below_alloc (below_drew HB.out) _) hb1 : Below w.heap.size w w1)
         clear HP HB
         have HP := n1
         have HB := n2
         (first | (have HA := Aside0.mk (blk_below (heap_alloc_new _ (.cells #[.int .i64 0, .int .i64 0, .int .u32 0, .int .u32 0, .int .i64 0, .int .i64 0, .int .i64 0, .slice none 0 0, .slice none 0 0] 96)) hb1); have hcA0 : w1.cell? ⟨_, 0, none⟩ = some (.int .i64 0) := (blk_cell HA.out 0).trans rfl; have hfA0 : w1.frozen? ⟨_, 0, none⟩ = false := blk_frozen HA.out 0; have hcA1 : w1.cell? ⟨_, 1, none⟩ = some (.int .i64 0) := (blk_cell HA.out 1).trans rfl; have hfA1 : w1.frozen? ⟨_, 1, none⟩ = false := blk_frozen HA.out 1; have hcA2 : w1.cell? ⟨_, 2, none⟩ = some (.int .u32 0) := (blk_cell HA.out 2).trans rfl; have hfA2 : w1.frozen? ⟨_, 2, none⟩ = false := blk_frozen HA.out 2; have hcA3 : w1.cell? ⟨_, 3, none⟩ = some (.int .u32 0) := (blk_cell HA.out 3).trans rfl; have hfA3 : w1.frozen? ⟨_, 3, none⟩ = false := blk_frozen HA.out 3; have hcA4 : w1.cell? ⟨_, 4, none⟩ = some (.int .i64 0) := (blk_cell HA.out 4).trans rfl; have hfA4 : w1.frozen? ⟨_, 4, none⟩ = false := blk_frozen HA.out 4; have hcA5 : w1.cell? ⟨_, 5, none⟩ = some (.int .i64 0) := (blk_cell HA.out 5).trans rfl; have hfA5 : w1.frozen? ⟨_, 5, none⟩ = false := blk_frozen HA.out 5; have hcA6 : w1.cell? ⟨_, 6, none⟩ = some (.int .i64 0) := (blk_cell HA.out 6).trans rfl; have hfA6 : w1.frozen? ⟨_, 6, none⟩ = false := blk_frozen HA.out 6; have hcA7 : w1.cell? ⟨_, 7, none⟩ = some (.slice none 0 0) := (blk_cell HA.out 7).trans rfl; have hfA7 : w1.frozen? ⟨_, 7, none⟩ = false := blk_frozen HA.out 7; have hcA8 : w1.cell? ⟨_, 8, none⟩ = some (.slice none 0 0) := (blk_cell HA.out 8).trans rfl; have hfA8 : w1.frozen? ⟨_, 8, none⟩ = false := blk_frozen HA.out 8) | (have HA := Aside0.mk (blk_below (blk_drew (heap_alloc_new _ (.cells #[.int .i64 0, .int .i64 0, .int .u32 0, .int .u32 0, .int .i64 0, .int .i64 0, .int .i64 0, .slice none 0 0, .slice none 0 0] 96))) hb1); have hcA0 : w1.cell? ⟨_, 0, none⟩ = some (.int .i64 0) := (blk_cell HA.out 0).trans rfl; have hfA0 : w1.frozen? ⟨_, 0, none⟩ = false := blk_frozen HA.out 0; have hcA1 : w1.cell? ⟨_, 1, none⟩ = some (.int .i64 0) := (blk_cell HA.out 1).trans rfl; have hfA1 : w1.frozen? ⟨_, 1, none⟩ = false := blk_frozen HA.out 1; have hcA2 : w1.cell? ⟨_, 2, none⟩ = some (.int .u32 0) := (blk_cell HA.out 2).trans rfl; have hfA2 : w1.frozen? ⟨_, 2, none⟩ = false := blk_frozen HA.out 2; have hcA3 : w1.cell? ⟨_, 3, none⟩ = some (.int .u32 0) := (blk_cell HA.out 3).trans rfl; have hfA3 : w1.frozen? ⟨_, 3, none⟩ = false := blk_frozen HA.out 3; have hcA4 : w1.cell? ⟨_, 4, none⟩ = some (.int .i64 0) := (blk_cell HA.out 4).trans rfl; have hfA4 : w1.frozen? ⟨_, 4, none⟩ = false := blk_frozen HA.out 4; have hcA5 : w1.cell? ⟨_, 5, none⟩ = some (.int .i64 0) := (blk_cell HA.out 5).trans rfl; have hfA5 : w1.frozen? ⟨_, 5, none⟩ = false := blk_frozen HA.out 5; have hcA6 : w1.cell? ⟨_, 6, none⟩ = some (.int .i64 0) := (blk_cell HA.out 6).trans rfl; have hfA6 : w1.frozen? ⟨_, 6, none⟩ = false := blk_frozen HA.out 6; have hcA7 : w1.cell? ⟨_, 7, none⟩ = some (.slice none 0 0) := (blk_cell HA.out 7).trans rfl; have hfA7 : w1.frozen? ⟨_, 7, none⟩ = false := blk_frozen HA.out 7; have hcA8 : w1.cell? ⟨_, 8, none⟩ = some (.slice none 0 0) := (blk_cell HA.out 8).trans rfl; have hfA8 : w1.frozen? ⟨_, 8, none⟩ = false := blk_frozen HA.out 8) | (have hcA7 : (w1.alloc (.cells #[.int .i64 r1, .int .i64 r2, .int .u32 r3, .int .u32 r4, .int .i64 r5, .int .i64 r6, .int .i64 r7, .slice none 0 0, .slice none 0 0] 96)).cell? ⟨w1.heap.size, 7, none⟩ = some (.slice none 0 0) := (blk_cell (heap_alloc_new w1 (.cells #[.int .i64 r1, .int .i64 r2, .int .u32 r3, .int .u32 r4, .int .i64 r5, .int .i64 r6, .int .i64 r7, .slice none 0 0, .slice none 0 0] 96)) 7).trans rfl; have hfA7 : (w1.alloc (.cells #[.int .i64 r1, .int .i64 r2, .int .u32 r3, .int .u32 r4, .int .i64 r5, .int .i64 r6, .int .i64 r7, .slice none 0 0, .slice none 0 0] 96)).frozen? ⟨w1.heap.size, 7, none⟩ = false := blk_frozen (heap_alloc_new w1 (.cells #[.int .i64 r1, .int .i64 r2, .int .u32 r3, .int .u32 r4, .int .i64 r5, .int .i64 r6, .int .i64 r7, .slice none 0 0, .slice none 0 0] 96)) 7; have hcA8 : (w1.alloc (.cells #[.int .i64 r1, .int .i64 r2, .int .u32 r3, .int .u32 r4, .int .i64 r5, .int .i64 r6, .int .i64 r7, .slice V7 r8.length C7, .slice none 0 0] 96)).cell? ⟨w1.heap.size, 8, none⟩ = some (.slice none 0 0) := (blk_cell (heap_alloc_new w1 (.cells #[.int .i64 r1, .int .i64 r2, .int .u32 r3, .int .u32 r4, .int .i64 r5, .int .i64 r6, .int .i64 r7, .slice V7 r8.length C7, .slice none 0 0] 96)) 8).trans rfl; have hfA8 : (w1.alloc (.cells #[.int .i64 r1, .int .i64 r2, .int .u32 r3, .int .u32 r4, .int .i64 r5, .int .i64 r6, .int .i64 r7, .slice V7 r8.length C7, .slice none 0 0] 96)).frozen? ⟨w1.heap.size, 8, none⟩ = false := blk_frozen (heap_alloc_new w1 (.cells #[.int .i64 r1, .int .i64 r2, .int .u32 r3, .int .u32 r4, .int .i64 r5, .int .i64 r6, .int .i64 r7, .slice V7 r8.length C7, .slice none 0 0] 96)) 8))
         clear n1 n2 hr7 hr8 hb1))
  · refine NoPanic.normal (HQ.out _ _ _ _ _ _ _ _ _ _ _ _ _ _ _ _ _ _ _ _ _ _ _ (.slice V7 r8.length C7) (.slice V8 r9.length C8) _ ?q0 ?q1 ?q2 ?q3)
    (case q0 => exact below_size HB.out)
    (case q1 => with_reducible exact heap_alloc_new _ _)
    (case q2 => with_reducible exact blk_alloc HP.out _)
    (case q3 => with_reducible exact below_alloc HB.out _)
  · refine NoPanic.normal (HQ.out _ _ _ _ _ _ _ _ _ _ _ _ _ _ _ _ _ _ _ _ _ _ _ (.slice V7 r8.length C7) (.slice V8 r9.length C8) _ ?q0 ?q1 ?q2 ?q3)
    (case q0 => exact Nat.le_refl _)
    (case q1 => exact frame_reader_tcp.set HA.out)
    (case q2 => exact (frame_reader_tcp.far _ (Nat.ne_of_lt HG.out)).trans HP.out)
    (case q3 => exact frame_reader_tcp.kept HB.out (Nat.le_refl _))
set_option maxHeartbeats 4000000 in
set_option maxRecDepth 100000 in
theorem frame_reader_udp.calls {u0 u1 u2 u3 u4 u5 u6 u9 u11 u12 u13 u14 u15 u16 u17 u18 u19 u20 u21 : Value} (k g : Nat) (src dst : Int) (A : Option Addr) (c : Nat) (l : List Int) (r1 r2 : Int) (r3 : Bool) (r4 : List Int) (r5 y : Int) (w : World)
    (hp : w.heap[g]? = some (.cells #[u0, u1, u2, u3, u4, u5, u6, .int .u32 src, .int .u32 dst, u9, .slice A l.length c, u11, u12, u13, u14, u15, u16, u17, u18, u19, u20, u21] 92 (0, 0))) (hr : Kd.C (Kd.int .u8) w A l.length l) (hc : l.length ≤ c) (he : udp_Parse.f k src dst l = some (r1, r2, r3, r4, r5)) (hy : frame_why.f r5 = some y) :
    Calls Try.prog 64 #[.pointer (some ⟨g, 0, none⟩)] w fun e w' => e = .returned (.int .i64 y) ∧ w'.heap[g]? = some (.cells #[u0, u1, u2, u3, u4, u5, u6, .int .u32 src, .int .u32 dst, u9, .slice A l.length c, .int .i64 1, .int .u32 src, .int .i64 r1, .int .u32 dst, .int .i64 r2, u16, u17, u18, u19, u20, u21] 92 (0, 0)) ∧ (∀ w0 : World, w0.heap.size ≤ g → Below w0.heap.size w0 w → Below w0.heap.size w0 w') ∧ (∀ j, j < w.heap.size → j ≠ g → w'.heap[j]? = w.heap[j]?) := by
  have hu77 := Try.underlying77
  have HP := Aside0.mk hp
  have HG := Aside0.mk (blk_lt hp)
  have HR := Aside0.mk hr
  have HC := Aside0.mk hc
  have HE := Aside0.mk he
  have HY := Aside0.mk hy
  clear hp hr hc he hy
  go_enter Try.func64, Try.ntmps64
  go_upto_region 1 with (fail)
  refine frame_reader_udp.r1 HP.out HR.out HC.out HE.out ?_
  intro y5 y6 y7 y8 y9 y10 y11 y12 y13 y14 y15 y16 y17 y18 y19 y20 y21 y22 y23 y24 y25 y26 g3 v3 w1 hg3 h3 h1 hb1
  have hne : g3 ≠ g := by have := HG.out; omega
  have c11 : w1.cell? ⟨g, 11, none⟩ = some u11 := (blk_cell h1 11).trans rfl
  have f11 : w1.frozen? ⟨g, 11, none⟩ = false := blk_frozen h1 11
  have H1 := Aside0.mk (blk_put (cs' := #[u0, u1, u2, u3, u4, u5, u6, .int .u32 src, .int .u32 dst, u9, .slice A l.length c, .int .i64 1, u12, u13, u14, u15, u16, u17, u18, u19, u20, u21]) h1 11 (.int .i64 1) rfl)
  have H3 := Aside0.mk ((Below.heap_setCell w1 ⟨g, 11, none⟩ (.int .i64 1) g3 hne).trans h3)
  have HB := Aside0.mk (show ∀ w0 : World, w0.heap.size ≤ g → Below w0.heap.size w0 w → Below w0.heap.size w0 (w1.setCell ⟨g, 11, none⟩ (.int .i64 1)) from fun w0 hg hb => below_set (below_step hb hb1) hg)
  have HF := Aside0.mk (show ∀ j, j < w.heap.size → j ≠ g → (w1.setCell ⟨g, 11, none⟩ (.int .i64 1)).heap[j]? = w.heap[j]? from fun j hj hg => (Below.heap_setCell _ _ _ j hg).trans (hb1.block j hj))
  clear h1 h3 hg3 hne hb1
  go_upto_region 3 with (fail)
  generalize (w1.setCell ⟨g, 11, none⟩ (.int .i64 1)) = w2 at H1 H3 HB HF ⊢
  have d0 : w2.cell? ⟨g3, 0, none⟩ = some (.int .i64 r1) := (blk_cell H3.out 0).trans rfl
  have d1 : w2.cell? ⟨g3, 1, none⟩ = some (.int .i64 r2) := (blk_cell H3.out 1).trans rfl
  go_wp2_with (fail)
  ((with_reducible refine (frame_reader_ends.calls g src dst r1 r2 _ H1.out).mono ?_); rintro e w3 ⟨rfl, h4, hb4, hf4⟩)
  have H4 := Aside0.mk h4
  have HB4 := Aside0.mk hb4
  have HF4 := Aside0.mk hf4
  clear h4 hb4 hf4
  go_wp2_with (fail)
  ((with_reducible refine (frame_why.calls r5 y _ HY.out).mono ?_); rintro e w4 ⟨rfl, ⟨nd, rfl⟩⟩)
  go_wp2_with (fail)
  go_ret
  exact ⟨rfl, (by (with_reducible repeat (first | refine blk_drewN ?_ _ | refine blk_drew ?_)); exact H4.out), fun w0 hg hb => (by repeat (first | (with_reducible first | exact HB4.out w0 hg (HB.out w0 hg hb) | apply pw_below_drewN | apply below_drew1) | exact HB4.out w0 hg (HB.out w0 hg hb))), fun j hj hg => (HF4.out j hg).trans (HF.out j hj hg)⟩
set_option maxHeartbeats 4000000 in
set_option maxRecDepth 100000 in
theorem frame_reader_tcp.r2 {s1 s2 s4 s5 s6 s7 s8 s9 s10 s11 s12 s13 s14 s15 s16 s17 s18 s19 s20 s21 s22 s23 s24 s25 s26 s27 s28 s29 s30 s31 s32 s33 s34 s35 s36 s37 s38 s39 s40 s41 s42 s43 s44 u0 u1 u2 u3 u4 u5 u6 u7 u8 u9 u10 u11 u12 u13 u14 u15 u16 u17 u18 u19 u20 u21 : Value} {D : List Deferred} {g g3 : Nat} {r5 : Int} {w : World} {Q : Exit → Act → World → Prop}
    (hp : w.heap[g]? = some (.cells #[u0, u1, u2, u3, u4, u5, u6, u7, u8, u9, u10, u11, u12, u13, u14, u15, u16, u17, u18, u19, u20, u21] 92 (0, 0))) (h4 : w.cell? ⟨g3, 4, none⟩ = some (.int .i64 r5)) (hne : ¬ g3 = g)
    (hQ : ∀ y27 y28 y29 y30 y31 y32 y33 y34 y35 y36 w', w'.heap[g]? = some (.cells #[u0, u1, u2, u3, u4, u5, u6, u7, u8, u9, u10, .int .i64 2, u12, u13, u14, u15, .int .i64 r5, u17, u18, u19, u20, u21] 92 (0, 0)) → (∀ j, j ≠ g → w'.heap[j]? = w.heap[j]?) → (∀ w0 : World, w0.heap.size ≤ g → Below w0.heap.size w0 w → Below w0.heap.size w0 w') → Q .normal ⟨#[.pointer (some ⟨g, 0, none⟩), s1, s2, .pointer (some ⟨g3, 0, none⟩), s4, s5, s6, s7, s8, s9, s10, s11, s12, s13, s14, s15, s16, s17, s18, s19, s20, s21, s22, s23, s24, s25, s26, y27, y28, y29, y30, y31, y32, y33, y34, y35, y36, s37, s38, s39, s40, s41, s42, s43, s44], D⟩ w') :
    (regionIn 2 Try.f65).wp Try.prog Q ⟨#[.pointer (some ⟨g, 0, none⟩), s1, s2, .pointer (some ⟨g3, 0, none⟩), s4, s5, s6, s7, s8, s9, s10, s11, s12, s13, s14, s15, s16, s17, s18, s19, s20, s21, s22, s23, s24, s25, s26, s27, s28, s29, s30, s31, s32, s33, s34, s35, s36, s37, s38, s39, s40, s41, s42, s43, s44], D⟩ w := by
  conv => arg 2; whnf
  have hne' : ¬ g = g3 := fun q => hne q.symm
  have hz11 := (blk_cell hp 11).trans rfl
  have c11 : w.cell? ⟨g, 11, none⟩ = some u11 := (blk_cell hp 11).trans rfl
  have f11 : w.frozen? ⟨g, 11, none⟩ = false := blk_frozen hp 11
  have c16 : w.cell? ⟨g, 16, none⟩ = some u16 := (blk_cell hp 16).trans rfl
  have f16 : w.frozen? ⟨g, 16, none⟩ = false := blk_frozen hp 16
  have HP := Aside0.mk hp
  have HQ := Aside0.mk hQ
  clear hp hQ hz11
  refine wp_region_noPanic ?_
  go_region_law (fail)
  all_goals
    refine NoPanic.normal (HQ.out _ _ _ _ _ _ _ _ _ _ _ ?q1 ?q2 ?q3)
    (case q1 => first | exact blk_put (cs' := #[u0, u1, u2, u3, u4, u5, u6, u7, u8, u9, u10, .int .i64 2, u12, u13, u14, u15, .int .i64 r5, u17, u18, u19, u20, u21]) (blk_put (cs' := #[u0, u1, u2, u3, u4, u5, u6, u7, u8, u9, u10, .int .i64 2, u12, u13, u14, u15, u16, u17, u18, u19, u20, u21]) HP.out 11 (.int .i64 2) rfl) 16 (.int .i64 r5) rfl | exact blk_put (cs' := #[u0, u1, u2, u3, u4, u5, u6, u7, u8, u9, u10, .int .i64 2, u12, u13, u14, u15, .int .i64 r5, u17, u18, u19, u20, u21]) (blk_put (cs' := #[u0, u1, u2, u3, u4, u5, u6, u7, u8, u9, u10, u11, u12, u13, u14, u15, .int .i64 r5, u17, u18, u19, u20, u21]) HP.out 16 (.int .i64 r5) rfl) 11 (.int .i64 2) rfl | exact blk_drew (blk_put (cs' := #[u0, u1, u2, u3, u4, u5, u6, u7, u8, u9, u10, .int .i64 2, u12, u13, u14, u15, .int .i64 r5, u17, u18, u19, u20, u21]) (blk_put (cs' := #[u0, u1, u2, u3, u4, u5, u6, u7, u8, u9, u10, .int .i64 2, u12, u13, u14, u15, u16, u17, u18, u19, u20, u21]) HP.out 11 (.int .i64 2) rfl) 16 (.int .i64 r5) rfl))
    (case q2 => exact fun j hj => Eq.trans (Below.heap_setCell _ _ _ j hj) (Below.heap_setCell _ _ _ j hj))
    (case q3 => exact fun w0 hg hb => (by first | exact below_set (below_set hb hg) hg | exact below_drew (below_set (below_set hb hg) hg)))
set_option maxHeartbeats 4000000 in
set_option maxRecDepth 100000 in
theorem frame_reader_tcp.calls {u0 u1 u2 u3 u4 u5 u6 u9 u11 u12 u13 u14 u15 u16 u17 u18 u19 u20 u21 : Value} (g : Nat) (src dst : Int) (A : Option Addr) (c : Nat) (l : List Int) (r1 r2 r3 r4 r5 r6 r7 : Int) (r8 r9 : List Int) (r10 y : Int) (w : World)
    (hp : w.heap[g]? = some (.cells #[u0, u1, u2, u3, u4, u5, u6, .int .u32 src, .int .u32 dst, u9, .slice A l.length c, u11, u12, u13, u14, u15, u16, u17, u18, u19, u20, u21] 92 (0, 0))) (hr : Kd.C (Kd.int .u8) w A l.length l) (hc : l.length ≤ c) (he : tcp_Parse.f src dst l = some (r1, r2, r3, r4, r5, r6, r7, r8, r9, r10)) (hy : frame_why.f r10 = some y) :
    Calls Try.prog 65 #[.pointer (some ⟨g, 0, none⟩)] w fun e w' => e = .returned (.int .i64 y) ∧ w'.heap[g]? = some (.cells #[u0, u1, u2, u3, u4, u5, u6, .int .u32 src, .int .u32 dst, u9, .slice A l.length c, .int .i64 2, .int .u32 src, .int .i64 r1, .int .u32 dst, .int .i64 r2, .int .i64 r5, u17, u18, u19, u20, u21] 92 (0, 0)) ∧ (∀ w0 : World, w0.heap.size ≤ g → Below w0.heap.size w0 w → Below w0.heap.size w0 w') ∧ (∀ j, j < w.heap.size → j ≠ g → w'.heap[j]? = w.heap[j]?) := by
  have hu96 := Try.underlying96
  have HP := Aside0.mk hp
  have HG := Aside0.mk (blk_lt hp)
  have HR := Aside0.mk hr
  have HC := Aside0.mk hc
  have HE := Aside0.mk he
  have HY := Aside0.mk hy
  clear hp hr hc he hy
  go_enter Try.func65, Try.ntmps65
  go_upto_region 1 with (fail)
  refine frame_reader_tcp.r1 (k := 0) HP.out HR.out HC.out HE.out ?_
  intro y5 y6 y7 y8 y9 y10 y11 y12 y13 y14 y15 y16 y17 y18 y19 y20 y21 y22 y23 y24 y25 y26 g3 v7 v8 w1 hg3 h3 h1 hb1
  have hne : ¬ g3 = g := by have := HG.out; omega
  have H3 := Aside0.mk h3
  have HB1 := Aside0.mk hb1
  have HNE := Aside0.mk hne
  have H1 := Aside0.mk h1
  clear h1 h3 hg3 hb1
  go_upto_region 2 with (fail)
  refine frame_reader_tcp.r2 (r5 := r5) H1.out ((blk_cell H3.out 4).trans rfl) HNE.out ?_
  intro y27 y28 y29 y30 y31 y32 y33 y34 y35 y36 w2 h2 hf2 hb2
  have d0 : w2.cell? ⟨g3, 0, none⟩ = some (.int .i64 r1) := (blk_cell ((hf2 g3 HNE.out).trans H3.out) 0).trans rfl
  have d1 : w2.cell? ⟨g3, 1, none⟩ = some (.int .i64 r2) := (blk_cell ((hf2 g3 HNE.out).trans H3.out) 1).trans rfl
  have H2 := Aside0.mk h2
  have HB := Aside0.mk (show ∀ w0 : World, w0.heap.size ≤ g → Below w0.heap.size w0 w → Below w0.heap.size w0 w2 from fun w0 hg hb => hb2 w0 hg (below_step hb HB1.out))
  have HF := Aside0.mk (show ∀ j, j < w.heap.size → j ≠ g → w2.heap[j]? = w.heap[j]? from fun j hj hg => (hf2 j hg).trans (HB1.out.block j hj))
  clear h2 hf2 hb2 hne
  go_wp2_with (fail)
  ((with_reducible refine (frame_reader_ends.calls g src dst r1 r2 _ H2.out).mono ?_); rintro e w3 ⟨rfl, h4, hb4, hf4⟩)
  have H4 := Aside0.mk h4
  have HB4 := Aside0.mk hb4
  have HF4 := Aside0.mk hf4
  clear h4 hb4 hf4
  go_wp2_with (fail)
  ((with_reducible refine (frame_why.calls r10 y _ HY.out).mono ?_); rintro e w4 ⟨rfl, ⟨nd, rfl⟩⟩)
  go_wp2_with (fail)
  go_ret
  exact ⟨rfl, (by (with_reducible repeat (first | refine blk_drewN ?_ _ | refine blk_drew ?_)); exact H4.out), fun w0 hg hb => (by repeat (first | (with_reducible first | exact HB4.out w0 hg (HB.out w0 hg hb) | apply pw_below_drewN | apply below_drew1) | exact HB4.out w0 hg (HB.out w0 hg hb))), fun j hj hg => (HF4.out j hg).trans (HF.out j hj hg)⟩
set_option maxHeartbeats 8000000 in
set_option maxRecDepth 100000 in
theorem frame_reader_icmp.r6 {s1 s2 s4 s5 s6 s7 s8 s9 s10 s11 s12 s13 s14 s15 s16 s17 s18 s19 s20 s21 s22 s23 s24 s25 s26 s27 s28 s29 s30 s31 s32 s33 s34 s35 s36 s37 s38 s39 s40 s41 s42 s43 s44 s45 s46 s47 s48 s49 s50 s51 s52 s53 s54 s55 s56 u0 u1 u2 u3 u4 u5 u6 u9 u10 u11 u12 u13 u14 u15 u16 u17 u18 u19 u20 u21 : Value} {D : List Deferred} {g i : Nat} {src dst q1 q2 q3 n : Int} {q4 : List Int} {A3 : Option Addr} {c3 : Nat} {w : World} {Q : Exit → Act → World → Prop}
    (hp : w.heap[g]? = some (.cells #[u0, u1, u2, u3, u4, u5, u6, .int .u32 src, .int .u32 dst, u9, u10, u11, u12, u13, u14, u15, u16, u17, u18, u19, u20, u21] 92 (0, 0))) (hv : w.heap[i]? = some (.cells #[.int .i64 q1, .int .i64 q2, .int .u32 q3, .slice A3 q4.length c3] 118 (0, 0))) (hd : Kd.C (Kd.int .u8) w A3 q4.length q4) (hl : q4.length ≤ c3) (hn : icmp_Number.f q1 q2 q3 q4 = some n) (hi : ¬ i = g)
    (hQ : ∀ y32 y33 y34 y35 y36 y37 w', w'.heap[g]? = some (.cells #[u0, u1, u2, u3, u4, u5, u6, .int .u32 src, .int .u32 dst, u9, u10, u11, .int .u32 src, .int .i64 n, .int .u32 dst, .int .i64 n, u16, u17, u18, u19, u20, u21] 92 (0, 0)) → (∀ w0 : World, w0.heap.size ≤ g → Below w0.heap.size w0 w → Below w0.heap.size w0 w') → (∀ j, j < w.heap.size → j ≠ g → w'.heap[j]? = w.heap[j]?) → Q .normal ⟨#[.pointer (some ⟨g, 0, none⟩), s1, s2, .pointer (some ⟨i, 0, none⟩), s4, s5, s6, s7, s8, s9, s10, s11, s12, s13, s14, s15, s16, s17, s18, s19, s20, s21, s22, s23, s24, s25, s26, s27, s28, s29, s30, s31, y32, y33, y34, y35, y36, y37, s38, s39, s40, s41, s42, s43, s44, s45, s46, s47, s48, s49, s50, s51, s52, s53, s54, s55, s56], D⟩ w') :
    (regionIn 6 Try.f66).wp Try.prog Q ⟨#[.pointer (some ⟨g, 0, none⟩), s1, s2, .pointer (some ⟨i, 0, none⟩), s4, s5, s6, s7, s8, s9, s10, s11, s12, s13, s14, s15, s16, s17, s18, s19, s20, s21, s22, s23, s24, s25, s26, s27, s28, s29, s30, s31, s32, s33, s34, s35, s36, s37, s38, s39, s40, s41, s42, s43, s44, s45, s46, s47, s48, s49, s50, s51, s52, s53, s54, s55, s56], D⟩ w := by
  conv => arg 2; whnf
  have hu118 := Try.underlying118
  have HP := Aside0.mk hp
  have HV := Aside0.mk hv
  have HD := Aside0.mk hd
  have HL := Aside0.mk hl
  have HN := Aside0.mk hn
  have HI := Aside0.mk hi
  have HQ := Aside0.mk hQ
  have HB := Aside0.mk (Below.refl w.heap.size w)
  have h0 : w.cell? ⟨i, 0, none⟩ = some (.int .i64 q1) := (blk_cell hv 0).trans rfl
  have h1 : w.cell? ⟨i, 1, none⟩ = some (.int .i64 q2) := (blk_cell hv 1).trans rfl
  have h2 : w.cell? ⟨i, 2, none⟩ = some (.int .u32 q3) := (blk_cell hv 2).trans rfl
  have h3 : w.cell? ⟨i, 3, none⟩ = some (.slice A3 q4.length c3) := (blk_cell hv 3).trans rfl
  clear hp hv hd hl hn hi hQ
  refine wp_region_noPanic ?_
  go_region_held3 (fun w' => w'.cell? ⟨i, 0, none⟩ = some (.int .i64 q1) ∧ w'.cell? ⟨i, 1, none⟩ = some (.int .i64 q2) ∧ w'.cell? ⟨i, 2, none⟩ = some (.int .u32 q3) ∧ w'.cell? ⟨i, 3, none⟩ = some (.slice A3 q4.length c3))
    (first
      | with_reducible exact ⟨(blk_cell HV2.out 0).trans rfl, (blk_cell HV2.out 1).trans rfl, (blk_cell HV2.out 2).trans rfl, (blk_cell HV2.out 3).trans rfl⟩
      | with_reducible exact ⟨(blk_cell HV.out 0).trans rfl, (blk_cell HV.out 1).trans rfl, (blk_cell HV.out 2).trans rfl, (blk_cell HV.out 3).trans rfl⟩
      | go_keep)
    (first
      | (refine goes_ (f := 112) Try.func112 (by kernel_rfl) rfl #[.agg #[.int .i64 q1, .int .i64 q2, .int .u32 q3, .slice A3 q4.length c3]] (by rfl) rfl rfl ?ha ?_
         (case ha => first | rfl | (go_simp; done) | (simp [Act.eval]; done))
         refine (icmp_Number.calls q1 q2 q3 A3 c3 q4 n _ (Kd.C_below HD.out (by first | exact HB.out | exact below_drew HB.out)) HL.out HN.out).mono ?_
         rintro e w1 ⟨rfl, hb1⟩
         refine ⟨_, rfl, ?_⟩
         have n1 := Aside0.mk (by first | exact blk_below (HP.out) hb1 | exact blk_below (blk_drew HP.out) hb1 : w1.heap[g]? = some (.cells #[u0, u1, u2, u3, u4, u5, u6, .int .u32 src, .int .u32 dst, u9, u10, u11, u12, u13, u14, u15, u16, u17, u18, u19, u20, u21] 92 (0, 0)))
         have n2 := Aside0.mk (by first | exact below_step (HB.out) hb1 | exact below_step (below_drew HB.out) hb1 : Below w.heap.size w w1)
         have n3 := Aside0.mk (by first | exact blk_below (HV.out) hb1 | exact blk_below (blk_drew HV.out) hb1 : w1.heap[i]? = some (.cells #[.int .i64 q1, .int .i64 q2, .int .u32 q3, .slice A3 q4.length c3] 118 (0, 0)))
         clear HP HB HV
         have HP := n1
         have HB := n2
         have HV := n3
         clear n1 n2 n3 hb1)
      | (refine goes_ (f := 109) Try.func109 (by kernel_rfl) rfl #[.pointer (some ⟨g, 0, none⟩), .int .i64 n, .int .i64 n] (by rfl) rfl rfl ?ha ?_
         (case ha => first | rfl | (go_simp; done) | (simp [Act.eval]; done))
         refine (frame_reader_ends.calls g src dst n n _ (by first | exact HP.out | exact blk_drew HP.out)).mono ?_
         rintro e w2 ⟨rfl, h4, hb4, hf4⟩
         refine ⟨_, rfl, ?_⟩
         have HP2 := Aside0.mk h4
         have HB2 := Aside0.mk hb4
         have HF2 := Aside0.mk hf4
         have HV2 := Aside0.mk ((hf4 i HI.out).trans (by first | exact HV.out | exact blk_drew HV.out))
         clear h4 hb4 hf4))
  all_goals
    refine NoPanic.normal (HQ.out _ _ _ _ _ _ _ ?q1 ?q2 ?q3)
    (case q1 => first | exact HP2.out | exact blk_drew HP2.out)
    (case q2 => exact fun w0 hg hb => (by first | exact HB2.out w0 hg (below_step hb HB.out) | exact below_drew (HB2.out w0 hg (below_step hb HB.out)) | exact HB2.out w0 hg (below_drew (below_step hb HB.out))))
    (case q3 => exact fun j hj hg => Eq.trans (HF2.out j hg) (HB.out.block j hj))
def frame_reader_icmp.f (src dst : Int) (l : List Int) : Option (Int × Int × Int × Int × Int × Int × Int × Int × Int × Int × Int × Int) :=
  (icmp_Parse.f l).bind fun p => match p with
  | (t, c, rest, data, e) => if e ≠ 0 then (frame_why.f e).bind fun y => some (0, 0, 0, 0, 0, 0, 0, 0, 0, 0, 0, y) else
    (icmp_Kind.f t c rest data).bind fun kind => if kind = 0 then some (0, 0, 0, 0, 0, 0, 0, 0, 0, 0, 0, 4) else if kind = 5 then
      (frame_Quote.f data).bind fun i => match i with
      | (i1, i2, i3, i4, i5, ok) => if ok = false then some (5, 0, 0, 0, 0, 0, 0, 0, 0, 0, 0, 1) else some (5, src, 0, dst, 0, 0, i1, i2, i3, i4, i5, 0)
    else (icmp_Number.f t c rest data).bind fun n => some (kind, src, n, dst, n, 0, 0, 0, 0, 0, 0, 0)
def frame_reader_udp.f (k : Nat) (src dst : Int) (l : List Int) : Option (Int × Int × Int × Int × Int × Int × Int × Int × Int × Int × Int × Int) := (udp_Parse.f k src dst l).bind fun p => (frame_why.f p.2.2.2.2).bind fun y => some (1, src, p.1, dst, p.2.1, 0, 0, 0, 0, 0, 0, y)
def frame_reader_tcp.f (src dst : Int) (l : List Int) : Option (Int × Int × Int × Int × Int × Int × Int × Int × Int × Int × Int × Int) := (tcp_Parse.f src dst l).bind fun p => (frame_why.f p.2.2.2.2.2.2.2.2.2).bind fun y => some (2, src, p.1, dst, p.2.1, p.2.2.2.2.1, 0, 0, 0, 0, 0, y)
def frame_reader_other.f : Option (Int × Int × Int × Int × Int × Int × Int × Int × Int × Int × Int × Int) := some (0, 0, 0, 0, 0, 0, 0, 0, 0, 0, 0, 4)
def frame_Read.part (k : Nat) (proto src dst : Int) (l : List Int) : Option (Int × Int × Int × Int × Int × Int × Int × Int × Int × Int × Int × Int) :=
  if proto = 17 then frame_reader_udp.f k src dst l else if proto = 6 then frame_reader_tcp.f src dst l else if proto = 1 then frame_reader_icmp.f src dst l else frame_reader_other.f
def frame_Read.zero (y : Int) : Option (Int × Int × Bool × Bool × Int × Int × Int × Int × Int × List Int × List Int × Int × Int × Int × Int × Int × Int × Int × Int × Int × Int × Int × Int) := some (0, 0, false, false, 0, 0, 0, 0, 0, [], [], 0, 0, 0, 0, 0, 0, 0, 0, 0, 0, 0, y)
def frame_Read.f (k : Nat) (l0 : List Int) : Option (Int × Int × Bool × Bool × Int × Int × Int × Int × Int × List Int × List Int × Int × Int × Int × Int × Int × Int × Int × Int × Int × Int × Int × Int) :=
  (ip_Parse.f l0).bind fun p => match p with
  | (q0, q1, q2, q3, q4, q5, q6, q7, q8, q9, q10, q11) => if q11 ≠ 0 then (frame_why.f q11).bind frame_Read.zero else if q3 = true then frame_Read.zero 3 else if q4 ≠ 0 then frame_Read.zero 3 else
    (frame_Read.part k q6 q7 q8 q10).bind fun x => match x with
    | (x11, x12, x13, x14, x15, x16, x17, x18, x19, x20, x21, x22) => if x22 ≠ 0 then frame_Read.zero x22 else some (q0, q1, q2, q3, q4, q5, q6, q7, q8, q9, q10, x11, x12, x13, x14, x15, x16, x17, x18, x19, x20, x21, x22)
set_option maxHeartbeats 8000000 in
set_option maxRecDepth 100000 in
theorem frame_reader_icmp.calls {u0 u1 u2 u3 u4 u5 u6 u9 : Value} (g : Nat) (src dst : Int) (A : Option Addr) (c : Nat) (l : List Int) (x11 x12 x13 x14 x15 x16 x17 x18 x19 x20 x21 x22 : Int) (w : World)
    (hp : w.heap[g]? = some (.cells #[u0, u1, u2, u3, u4, u5, u6, .int .u32 src, .int .u32 dst, u9, .slice A l.length c, .int .i64 0, .int .u32 0, .int .i64 0, .int .u32 0, .int .i64 0, .int .i64 0, .int .i64 0, .int .u32 0, .int .i64 0, .int .u32 0, .int .i64 0] 92 (0, 0))) (hr : Kd.C (Kd.int .u8) w A l.length l) (hc : l.length ≤ c) (h : frame_reader_icmp.f src dst l = some (x11, x12, x13, x14, x15, x16, x17, x18, x19, x20, x21, x22)) :
    Calls Try.prog 66 #[.pointer (some ⟨g, 0, none⟩)] w fun e w' => e = .returned (.int .i64 x22) ∧ w'.heap[g]? = some (.cells #[u0, u1, u2, u3, u4, u5, u6, .int .u32 src, .int .u32 dst, u9, .slice A l.length c, .int .i64 x11, .int .u32 x12, .int .i64 x13, .int .u32 x14, .int .i64 x15, .int .i64 x16, .int .i64 x17, .int .u32 x18, .int .i64 x19, .int .u32 x20, .int .i64 x21] 92 (0, 0)) ∧ (∀ w0 : World, w0.heap.size ≤ g → Below w0.heap.size w0 w → Below w0.heap.size w0 w') ∧ (∀ j, j < w.heap.size → j ≠ g → w'.heap[j]? = w.heap[j]?) := by
  have hu118 := Try.underlying118
  have hu35 := Try.underlying35
  have HP := Aside0.mk hp
  have HG := Aside0.mk (blk_lt hp)
  have HR := Aside0.mk hr
  have HC := Aside0.mk hc
  have h10 : w.cell? ⟨g, 10, none⟩ = some (.slice A l.length c) := (blk_cell hp 10).trans rfl
  clear hp hr hc
  unfold frame_reader_icmp.f at h
  obtain ⟨⟨q1, q2, q3, q4, q5⟩, hi, h1⟩ := Option.bind_eq_some_iff.mp h
  clear h
  have h := h1
  clear h1
  try dsimp only at h
  have HI := Aside0.mk hi
  clear hi
  go_enter Try.func66, Try.ntmps66
  go_upto_region 2 with ((with_reducible refine (icmp_Parse.calls A c l q1 q2 q3 q4 q5 _ HR.out HC.out HI.out).mono ?_); rintro e w1 ⟨v3, rfl, hr3, hb1⟩; obtain ⟨A3, c3, rfl⟩ := Kd.R_slice hr3; have H3 := Aside0.mk hr3; have HP1 := Aside0.mk (blk_below HP.out hb1); have HB1 := Aside0.mk hb1; clear hr3 hb1 h10)
  obtain ⟨i, hi⟩ : ∃ i, i = w1.heap.size := ⟨_, rfl⟩
  have HV := Aside0.mk (heap_alloc_new w1 (.cells #[.int .i64 q1, .int .i64 q2, .int .u32 q3, .slice A3 q4.length c3] 118))
  have HP2 := Aside0.mk (blk_alloc HP1.out (.cells #[.int .i64 q1, .int .i64 q2, .int .u32 q3, .slice A3 q4.length c3] 118))
  have HB2 := Aside0.mk (below_alloc HB1.out (.cells #[.int .i64 q1, .int .i64 q2, .int .u32 q3, .slice A3 q4.length c3] 118))
  have HD := Aside0.mk (Kd.R_alloc H3.out (.cells #[.int .i64 q1, .int .i64 q2, .int .u32 q3, .slice A3 q4.length c3] 118))
  have HL := Aside0.mk (Kd.R_reads' H3.out).2.1
  have HI2 := Aside0.mk (show ¬ i = g by have := blk_lt HP1.out; omega)
  rw [← hi] at HV ⊢
  clear HP1 HB1 H3 hi
  generalize (w1.alloc (.cells #[.int .i64 q1, .int .i64 q2, .int .u32 q3, .slice A3 q4.length c3] 118)) = W2 at HV HP2 HB2 HD ⊢
  have hv0 : W2.cell? ⟨i, 0, none⟩ = some (.int .i64 q1) := (blk_cell HV.out 0).trans rfl
  have hv1 : W2.cell? ⟨i, 1, none⟩ = some (.int .i64 q2) := (blk_cell HV.out 1).trans rfl
  have hv2 : W2.cell? ⟨i, 2, none⟩ = some (.int .u32 q3) := (blk_cell HV.out 2).trans rfl
  have hv3 : W2.cell? ⟨i, 3, none⟩ = some (.slice A3 q4.length c3) := (blk_cell HV.out 3).trans rfl
  by_cases c1 : q5 ≠ 0
  · rw [if_pos c1] at h
    obtain ⟨y, hy, h⟩ := Option.bind_eq_some_iff.mp h
    have HY := Aside0.mk hy
    clear hy
    simp only [Option.some.injEq, Prod.mk.injEq] at h
    obtain ⟨rfl, rfl, rfl, rfl, rfl, rfl, rfl, rfl, rfl, rfl, rfl, rfl⟩ := h
    have c1b0 : (q5 != 0) = true := bne_iff_ne.2 c1
    have c1b1 : (q5 == 0) = false := beq_eq_false_iff_ne.2 c1
    clear c1
    go_wp2_with (fail)
    ((with_reducible refine (frame_why.calls q5 y _ HY.out).mono ?_); rintro e w4 ⟨rfl, ⟨nd, rfl⟩⟩)
    go_wp2_with (fail)
    go_ret
    exact ⟨rfl, (by (with_reducible repeat (first | refine blk_drewN ?_ _ | refine blk_drew ?_)); exact HP2.out), fun w0 hg hb => (by repeat (first | (with_reducible first | exact below_step hb HB2.out | apply pw_below_drewN | apply below_drew1) | exact below_step hb HB2.out)), fun j hj hg => HB2.out.block j hj⟩
  rw [if_neg c1] at h
  have c1b0 : (q5 != 0) = false := bne_eq_false_iff_eq.2 (Classical.not_not.1 c1)
  have c1b1 : (q5 == 0) = true := beq_iff_eq.2 (Classical.not_not.1 c1)
  clear c1
  obtain ⟨kind, hk, h1⟩ := Option.bind_eq_some_iff.mp h
  clear h
  have h := h1
  clear h1
  try dsimp only at h
  have HK := Aside0.mk hk
  clear hk
  go_upto_region 5 with ((with_reducible refine (icmp_Kind.calls q1 q2 q3 A3 c3 q4 kind _ (Kd.R_reads' HD.out).2.2 HL.out HK.out).mono ?_); rintro e w3 ⟨rfl, hb3⟩; have HV3 := Aside0.mk (blk_below HV.out hb3); have HP3 := Aside0.mk (blk_below HP2.out hb3); have HB3 := Aside0.mk (below_step HB2.out hb3); have HD3 := Aside0.mk (Kd.R_below HD.out hb3); have c11 : w3.cell? ⟨g, 11, none⟩ = some (.int .i64 0) := (blk_cell HP3.out 11).trans rfl; have f11 : w3.frozen? ⟨g, 11, none⟩ = false := blk_frozen HP3.out 11; clear hb3 HP2 HV HB2 HD hv0 hv1 hv2 hv3)
  have HP4 := Aside0.mk (blk_put (cs' := #[u0, u1, u2, u3, u4, u5, u6, .int .u32 src, .int .u32 dst, u9, .slice A l.length c, .int .i64 kind, .int .u32 0, .int .i64 0, .int .u32 0, .int .i64 0, .int .i64 0, .int .i64 0, .int .u32 0, .int .i64 0, .int .u32 0, .int .i64 0]) HP3.out 11 (.int .i64 kind) rfl)
  have HV4 := Aside0.mk ((Below.heap_setCell w3 ⟨g, 11, none⟩ (.int .i64 kind) i HI2.out).trans HV3.out)
  have HF4 := Aside0.mk (show ∀ j, j < w.heap.size → j ≠ g → (w3.setCell ⟨g, 11, none⟩ (.int .i64 kind)).heap[j]? = w.heap[j]? from fun j hj hg => (Below.heap_setCell _ _ _ j hg).trans (HB3.out.block j hj))
  have HB4 := Aside0.mk (show ∀ w0 : World, w0.heap.size ≤ g → Below w0.heap.size w0 w → Below w0.heap.size w0 (w3.setCell ⟨g, 11, none⟩ (.int .i64 kind)) from fun w0 hg hb => below_set (below_step hb HB3.out) hg)
  have HD4 := Aside0.mk (Kd.R_set HD3.out HP3.out (by decide) 11 (.int .i64 kind))
  have HZ4 := Aside0.mk (show w.heap.size ≤ (w3.setCell ⟨g, 11, none⟩ (.int .i64 kind)).heap.size from Nat.le_trans HB3.out.size (Nat.le_of_eq (by simp [World.setCell])))
  clear HP3 HV3 HB3 HD3 c11 f11
  generalize (w3.setCell ⟨g, 11, none⟩ (.int .i64 kind)) = W4 at HP4 HV4 HF4 HB4 HD4 HZ4 ⊢
  have c11 : W4.cell? ⟨g, 11, none⟩ = some (.int .i64 kind) := (blk_cell HP4.out 11).trans rfl
  have hv3 : W4.cell? ⟨i, 3, none⟩ = some (.slice A3 q4.length c3) := (blk_cell HV4.out 3).trans rfl
  by_cases c2 : kind = 0
  · rw [if_pos c2] at h
    simp only [Option.some.injEq, Prod.mk.injEq] at h
    obtain ⟨rfl, rfl, rfl, rfl, rfl, rfl, rfl, rfl, rfl, rfl, rfl, rfl⟩ := h
    subst c2
    go_wp2_with (fail)
    go_ret
    exact ⟨rfl, (by (with_reducible repeat (first | refine blk_drewN ?_ _ | refine blk_drew ?_)); exact HP4.out), fun w0 hg hb => (by repeat (first | (with_reducible first | exact HB4.out w0 hg hb | apply pw_below_drewN | apply below_drew1) | exact HB4.out w0 hg hb)), fun j hj hg => HF4.out j hj hg⟩
  rw [if_neg c2] at h
  have c2b1 : (kind == 0) = false := beq_eq_false_iff_ne.2 c2
  clear c2
  by_cases c3_ : kind = 5
  · rw [if_pos c3_] at h
    subst c3_
    obtain ⟨⟨i1, i2, i3, i4, i5, ok⟩, hqu, h1⟩ := Option.bind_eq_some_iff.mp h
    clear h
    have h := h1
    clear h1
    try dsimp only at h
    have HQU := Aside0.mk hqu
    clear hqu
    go_upto_region 11 with ((with_reducible refine (frame_Quote.calls A3 c3 q4 i1 i2 i3 i4 i5 ok _ (Kd.R_reads' HD4.out).2.2 HL.out HQU.out).mono ?_); rintro e w5 ⟨rfl, hb5⟩; have HP5 := Aside0.mk (blk_below HP4.out hb5); have HB5 := Aside0.mk hb5; clear hb5 HP4 HV4 hv3 c11)
    obtain ⟨m, hm⟩ : ∃ m, m = w5.heap.size := ⟨_, rfl⟩
    have HM := Aside0.mk (heap_alloc_new w5 (.cells #[.int .i64 i1, .int .u32 i2, .int .i64 i3, .int .u32 i4, .int .i64 i5] 35))
    have HP6 := Aside0.mk (blk_alloc HP5.out (.cells #[.int .i64 i1, .int .u32 i2, .int .i64 i3, .int .u32 i4, .int .i64 i5] 35))
    have HB6 := Aside0.mk (below_alloc HB5.out (.cells #[.int .i64 i1, .int .u32 i2, .int .i64 i3, .int .u32 i4, .int .i64 i5] 35))
    rw [← hm] at HM ⊢
    clear HP5 HB5 hm
    generalize (w5.alloc (.cells #[.int .i64 i1, .int .u32 i2, .int .i64 i3, .int .u32 i4, .int .i64 i5] 35)) = W6 at HM HP6 HB6 ⊢
    have HF6 := Aside0.mk (show ∀ j, j < w.heap.size → j ≠ g → W6.heap[j]? = w.heap[j]? from fun j hj hg => (HB6.out.block j (Nat.lt_of_lt_of_le hj HZ4.out)).trans (HF4.out j hj hg))
    by_cases c4 : ok = false
    · rw [if_pos c4] at h
      simp only [Option.some.injEq, Prod.mk.injEq] at h
      obtain ⟨rfl, rfl, rfl, rfl, rfl, rfl, rfl, rfl, rfl, rfl, rfl, rfl⟩ := h
      subst c4
      go_wp2_with (fail)
      go_ret
      exact ⟨rfl, (by (with_reducible repeat (first | refine blk_drewN ?_ _ | refine blk_drew ?_)); exact HP6.out), fun w0 hg hb => (by repeat (first | (with_reducible first | exact below_step (HB4.out w0 hg hb) HB6.out | apply pw_below_drewN | apply below_drew1) | exact below_step (HB4.out w0 hg hb) HB6.out)), fun j hj hg => HF6.out j hj hg⟩
    rw [if_neg c4] at h
    have c4 : ok = true := by simpa using c4
    subst c4
    simp only [Option.some.injEq, Prod.mk.injEq] at h
    obtain ⟨rfl, rfl, rfl, rfl, rfl, rfl, rfl, rfl, rfl, rfl, rfl, rfl⟩ := h
    have mc0 : W6.cell? ⟨m, 0, none⟩ = some (.int .i64 i1) := (blk_cell HM.out 0).trans rfl
    have mc1 : W6.cell? ⟨m, 1, none⟩ = some (.int .u32 i2) := (blk_cell HM.out 1).trans rfl
    have mc2 : W6.cell? ⟨m, 2, none⟩ = some (.int .i64 i3) := (blk_cell HM.out 2).trans rfl
    have mc3 : W6.cell? ⟨m, 3, none⟩ = some (.int .u32 i4) := (blk_cell HM.out 3).trans rfl
    have mc4 : W6.cell? ⟨m, 4, none⟩ = some (.int .i64 i5) := (blk_cell HM.out 4).trans rfl
    have gc17 : W6.cell? ⟨g, 17, none⟩ = some (.int .i64 0) := (blk_cell HP6.out 17).trans rfl
    have gf17 : W6.frozen? ⟨g, 17, none⟩ = false := blk_frozen HP6.out 17
    have gc18 : W6.cell? ⟨g, 18, none⟩ = some (.int .u32 0) := (blk_cell HP6.out 18).trans rfl
    have gf18 : W6.frozen? ⟨g, 18, none⟩ = false := blk_frozen HP6.out 18
    have gc19 : W6.cell? ⟨g, 19, none⟩ = some (.int .i64 0) := (blk_cell HP6.out 19).trans rfl
    have gf19 : W6.frozen? ⟨g, 19, none⟩ = false := blk_frozen HP6.out 19
    have gc20 : W6.cell? ⟨g, 20, none⟩ = some (.int .u32 0) := (blk_cell HP6.out 20).trans rfl
    have gf20 : W6.frozen? ⟨g, 20, none⟩ = false := blk_frozen HP6.out 20
    have gc21 : W6.cell? ⟨g, 21, none⟩ = some (.int .i64 0) := (blk_cell HP6.out 21).trans rfl
    have gf21 : W6.frozen? ⟨g, 21, none⟩ = false := blk_frozen HP6.out 21
    go_upto_region 14 with (fail)
    have HP7 := Aside0.mk (blk_put (cs' := #[u0, u1, u2, u3, u4, u5, u6, .int .u32 src, .int .u32 dst, u9, .slice A l.length c, .int .i64 5, .int .u32 0, .int .i64 0, .int .u32 0, .int .i64 0, .int .i64 0, .int .i64 i1, .int .u32 i2, .int .i64 i3, .int .u32 i4, .int .i64 i5]) (blk_put (cs' := #[u0, u1, u2, u3, u4, u5, u6, .int .u32 src, .int .u32 dst, u9, .slice A l.length c, .int .i64 5, .int .u32 0, .int .i64 0, .int .u32 0, .int .i64 0, .int .i64 0, .int .i64 i1, .int .u32 i2, .int .i64 i3, .int .u32 i4, .int .i64 0]) (blk_put (cs' := #[u0, u1, u2, u3, u4, u5, u6, .int .u32 src, .int .u32 dst, u9, .slice A l.length c, .int .i64 5, .int .u32 0, .int .i64 0, .int .u32 0, .int .i64 0, .int .i64 0, .int .i64 i1, .int .u32 i2, .int .i64 i3, .int .u32 0, .int .i64 0]) (blk_put (cs' := #[u0, u1, u2, u3, u4, u5, u6, .int .u32 src, .int .u32 dst, u9, .slice A l.length c, .int .i64 5, .int .u32 0, .int .i64 0, .int .u32 0, .int .i64 0, .int .i64 0, .int .i64 i1, .int .u32 i2, .int .i64 0, .int .u32 0, .int .i64 0]) (blk_put (cs' := #[u0, u1, u2, u3, u4, u5, u6, .int .u32 src, .int .u32 dst, u9, .slice A l.length c, .int .i64 5, .int .u32 0, .int .i64 0, .int .u32 0, .int .i64 0, .int .i64 0, .int .i64 i1, .int .u32 0, .int .i64 0, .int .u32 0, .int .i64 0]) HP6.out 17 (.int .i64 i1) rfl) 18 (.int .u32 i2) rfl) 19 (.int .i64 i3) rfl) 20 (.int .u32 i4) rfl) 21 (.int .i64 i5) rfl)
    have HF7 := Aside0.mk (show ∀ j, j < w.heap.size → j ≠ g → (((((W6.setCell ⟨g, 17, none⟩ (.int .i64 i1)).setCell ⟨g, 18, none⟩ (.int .u32 i2)).setCell ⟨g, 19, none⟩ (.int .i64 i3)).setCell ⟨g, 20, none⟩ (.int .u32 i4)).setCell ⟨g, 21, none⟩ (.int .i64 i5)).heap[j]? = w.heap[j]? from fun j hj hg => Eq.trans (Below.heap_setCell _ _ _ j hg) (Eq.trans (Below.heap_setCell _ _ _ j hg) (Eq.trans (Below.heap_setCell _ _ _ j hg) (Eq.trans (Below.heap_setCell _ _ _ j hg) (Eq.trans (Below.heap_setCell _ _ _ j hg) (HF6.out j hj hg))))))
    have HB7 := Aside0.mk (show ∀ w0 : World, w0.heap.size ≤ g → Below w0.heap.size w0 w → Below w0.heap.size w0 (((((W6.setCell ⟨g, 17, none⟩ (.int .i64 i1)).setCell ⟨g, 18, none⟩ (.int .u32 i2)).setCell ⟨g, 19, none⟩ (.int .i64 i3)).setCell ⟨g, 20, none⟩ (.int .u32 i4)).setCell ⟨g, 21, none⟩ (.int .i64 i5)) from fun w0 hg hb => below_set (below_set (below_set (below_set (below_set (below_step (HB4.out w0 hg hb) HB6.out) hg) hg) hg) hg) hg)
    clear mc0 gc17 gf17 mc1 gc18 gf18 mc2 gc19 gf19 mc3 gc20 gf20 mc4 gc21 gf21 HM HP6
    generalize (((((W6.setCell ⟨g, 17, none⟩ (.int .i64 i1)).setCell ⟨g, 18, none⟩ (.int .u32 i2)).setCell ⟨g, 19, none⟩ (.int .i64 i3)).setCell ⟨g, 20, none⟩ (.int .u32 i4)).setCell ⟨g, 21, none⟩ (.int .i64 i5)) = W7 at HP7 HF7 HB7 ⊢
    go_wp2_with (fail)
    ((with_reducible refine (frame_reader_ends.calls g src dst 0 0 _ HP7.out).mono ?_); rintro e w8 ⟨rfl, h8, hb8, hf8⟩)
    have HP8 := Aside0.mk h8
    have HB8 := Aside0.mk (show ∀ w0 : World, w0.heap.size ≤ g → Below w0.heap.size w0 w → Below w0.heap.size w0 w8 from fun w0 hg hb => hb8 w0 hg (HB7.out w0 hg hb))
    have HF8 := Aside0.mk (show ∀ j, j < w.heap.size → j ≠ g → w8.heap[j]? = w.heap[j]? from fun j hj hg => (hf8 j hg).trans (HF7.out j hj hg))
    clear h8 hb8 hf8
    go_wp2_with (fail)
    go_ret
    exact ⟨rfl, (by (with_reducible repeat (first | refine blk_drewN ?_ _ | refine blk_drew ?_)); exact HP8.out), fun w0 hg hb => (by repeat (first | (with_reducible first | exact HB8.out w0 hg hb | apply pw_below_drewN | apply below_drew1) | exact HB8.out w0 hg hb)), fun j hj hg => HF8.out j hj hg⟩
  rw [if_neg c3_] at h
  have c3b1 : (kind == 5) = false := beq_eq_false_iff_ne.2 c3_
  clear c3_
  obtain ⟨n, hn, h⟩ := Option.bind_eq_some_iff.mp h
  have HN := Aside0.mk hn
  clear hn
  simp only [Option.some.injEq, Prod.mk.injEq] at h
  obtain ⟨rfl, rfl, rfl, rfl, rfl, rfl, rfl, rfl, rfl, rfl, rfl, rfl⟩ := h
  go_upto_region 6 with (fail)
  refine frame_reader_icmp.r6 HP4.out HV4.out (Kd.R_reads' HD4.out).2.2 HL.out HN.out HI2.out ?_
  intro y32 y33 y34 y35 y36 y37 w5 h5 hb5 hf5
  have HP8 := Aside0.mk h5
  have HB8 := Aside0.mk (show ∀ w0 : World, w0.heap.size ≤ g → Below w0.heap.size w0 w → Below w0.heap.size w0 w5 from fun w0 hg hb => hb5 w0 hg (HB4.out w0 hg hb))
  have HF8 := Aside0.mk (show ∀ j, j < w.heap.size → j ≠ g → w5.heap[j]? = w.heap[j]? from fun j hj hg => (hf5 j (Nat.lt_of_lt_of_le hj HZ4.out) hg).trans (HF4.out j hj hg))
  clear h5 hb5 hf5
  go_wp2_with (fail)
  go_ret
  exact ⟨rfl, (by (with_reducible repeat (first | refine blk_drewN ?_ _ | refine blk_drew ?_)); exact HP8.out), fun w0 hg hb => (by repeat (first | (with_reducible first | exact HB8.out w0 hg hb | apply pw_below_drewN | apply below_drew1) | exact HB8.out w0 hg hb)), fun j hj hg => HF8.out j hj hg⟩
theorem frame_reader_udp.run (k g : Nat) (q0 q1 : Int) (q2 q3 : Bool) (q4 q5 q6 q7 q8 : Int) (q9 q10 : List Int) (x11 x12 x13 x14 x15 x16 x17 x18 x19 x20 x21 x22 : Int) {A9 A10 : Option Addr} {c9 c10 : Nat} (w : World) (hp : w.heap[g]? = some (.cells #[.int .i64 q0, .int .i64 q1, .bool q2, .bool q3, .int .i64 q4, .int .i64 q5, .int .i64 q6, .int .u32 q7, .int .u32 q8, .slice A9 q9.length c9, .slice A10 q10.length c10, .int .i64 0, .int .u32 0, .int .i64 0, .int .u32 0, .int .i64 0, .int .i64 0, .int .i64 0, .int .u32 0, .int .i64 0, .int .u32 0, .int .i64 0] 92 (0, 0))) (hr : Kd.C (Kd.int .u8) w A10 q10.length q10) (hc : q10.length ≤ c10) (h : frame_reader_udp.f k q7 q8 q10 = some (x11, x12, x13, x14, x15, x16, x17, x18, x19, x20, x21, x22)) :
    Calls Try.prog 64 #[.pointer (some ⟨g, 0, none⟩)] w fun e w' => e = .returned (.int .i64 x22) ∧ w'.heap[g]? = some (.cells #[.int .i64 q0, .int .i64 q1, .bool q2, .bool q3, .int .i64 q4, .int .i64 q5, .int .i64 q6, .int .u32 q7, .int .u32 q8, .slice A9 q9.length c9, .slice A10 q10.length c10, .int .i64 x11, .int .u32 x12, .int .i64 x13, .int .u32 x14, .int .i64 x15, .int .i64 x16, .int .i64 x17, .int .u32 x18, .int .i64 x19, .int .u32 x20, .int .i64 x21] 92 (0, 0)) ∧ (∀ w0 : World, w0.heap.size ≤ g → Below w0.heap.size w0 w → Below w0.heap.size w0 w') ∧ (∀ j, j < w.heap.size → j ≠ g → w'.heap[j]? = w.heap[j]?) := by
  unfold frame_reader_udp.f at h
  obtain ⟨⟨p1, p2, p3, p4, p5⟩, hp1, h⟩ := Option.bind_eq_some_iff.mp h
  obtain ⟨y, hy, h⟩ := Option.bind_eq_some_iff.mp h
  simp only [Option.some.injEq, Prod.mk.injEq] at h
  obtain ⟨rfl, rfl, rfl, rfl, rfl, rfl, rfl, rfl, rfl, rfl, rfl, rfl⟩ := h
  exact frame_reader_udp.calls k g q7 q8 A10 c10 q10 p1 p2 p3 p4 p5 _ w hp hr hc hp1 hy
theorem frame_reader_tcp.run (k g : Nat) (q0 q1 : Int) (q2 q3 : Bool) (q4 q5 q6 q7 q8 : Int) (q9 q10 : List Int) (x11 x12 x13 x14 x15 x16 x17 x18 x19 x20 x21 x22 : Int) {A9 A10 : Option Addr} {c9 c10 : Nat} (w : World) (hp : w.heap[g]? = some (.cells #[.int .i64 q0, .int .i64 q1, .bool q2, .bool q3, .int .i64 q4, .int .i64 q5, .int .i64 q6, .int .u32 q7, .int .u32 q8, .slice A9 q9.length c9, .slice A10 q10.length c10, .int .i64 0, .int .u32 0, .int .i64 0, .int .u32 0, .int .i64 0, .int .i64 0, .int .i64 0, .int .u32 0, .int .i64 0, .int .u32 0, .int .i64 0] 92 (0, 0))) (hr : Kd.C (Kd.int .u8) w A10 q10.length q10) (hc : q10.length ≤ c10) (h : frame_reader_tcp.f q7 q8 q10 = some (x11, x12, x13, x14, x15, x16, x17, x18, x19, x20, x21, x22)) :
    Calls Try.prog 65 #[.pointer (some ⟨g, 0, none⟩)] w fun e w' => e = .returned (.int .i64 x22) ∧ w'.heap[g]? = some (.cells #[.int .i64 q0, .int .i64 q1, .bool q2, .bool q3, .int .i64 q4, .int .i64 q5, .int .i64 q6, .int .u32 q7, .int .u32 q8, .slice A9 q9.length c9, .slice A10 q10.length c10, .int .i64 x11, .int .u32 x12, .int .i64 x13, .int .u32 x14, .int .i64 x15, .int .i64 x16, .int .i64 x17, .int .u32 x18, .int .i64 x19, .int .u32 x20, .int .i64 x21] 92 (0, 0)) ∧ (∀ w0 : World, w0.heap.size ≤ g → Below w0.heap.size w0 w → Below w0.heap.size w0 w') ∧ (∀ j, j < w.heap.size → j ≠ g → w'.heap[j]? = w.heap[j]?) := by
  unfold frame_reader_tcp.f at h
  obtain ⟨⟨p1, p2, p3, p4, p5, p6, p7, p8, p9, p10⟩, hp1, h⟩ := Option.bind_eq_some_iff.mp h
  obtain ⟨y, hy, h⟩ := Option.bind_eq_some_iff.mp h
  simp only [Option.some.injEq, Prod.mk.injEq] at h
  obtain ⟨rfl, rfl, rfl, rfl, rfl, rfl, rfl, rfl, rfl, rfl, rfl, rfl⟩ := h
  exact frame_reader_tcp.calls g q7 q8 A10 c10 q10 p1 p2 p3 p4 p5 p6 p7 p8 p9 p10 _ w hp hr hc hp1 hy
theorem frame_reader_icmp.run (k g : Nat) (q0 q1 : Int) (q2 q3 : Bool) (q4 q5 q6 q7 q8 : Int) (q9 q10 : List Int) (x11 x12 x13 x14 x15 x16 x17 x18 x19 x20 x21 x22 : Int) {A9 A10 : Option Addr} {c9 c10 : Nat} (w : World) (hp : w.heap[g]? = some (.cells #[.int .i64 q0, .int .i64 q1, .bool q2, .bool q3, .int .i64 q4, .int .i64 q5, .int .i64 q6, .int .u32 q7, .int .u32 q8, .slice A9 q9.length c9, .slice A10 q10.length c10, .int .i64 0, .int .u32 0, .int .i64 0, .int .u32 0, .int .i64 0, .int .i64 0, .int .i64 0, .int .u32 0, .int .i64 0, .int .u32 0, .int .i64 0] 92 (0, 0))) (hr : Kd.C (Kd.int .u8) w A10 q10.length q10) (hc : q10.length ≤ c10) (h : frame_reader_icmp.f q7 q8 q10 = some (x11, x12, x13, x14, x15, x16, x17, x18, x19, x20, x21, x22)) :
    Calls Try.prog 66 #[.pointer (some ⟨g, 0, none⟩)] w fun e w' => e = .returned (.int .i64 x22) ∧ w'.heap[g]? = some (.cells #[.int .i64 q0, .int .i64 q1, .bool q2, .bool q3, .int .i64 q4, .int .i64 q5, .int .i64 q6, .int .u32 q7, .int .u32 q8, .slice A9 q9.length c9, .slice A10 q10.length c10, .int .i64 x11, .int .u32 x12, .int .i64 x13, .int .u32 x14, .int .i64 x15, .int .i64 x16, .int .i64 x17, .int .u32 x18, .int .i64 x19, .int .u32 x20, .int .i64 x21] 92 (0, 0)) ∧ (∀ w0 : World, w0.heap.size ≤ g → Below w0.heap.size w0 w → Below w0.heap.size w0 w') ∧ (∀ j, j < w.heap.size → j ≠ g → w'.heap[j]? = w.heap[j]?) := by
  exact frame_reader_icmp.calls g q7 q8 A10 c10 q10 x11 x12 x13 x14 x15 x16 x17 x18 x19 x20 x21 x22 w hp hr hc h
theorem frame_reader_other.run (k g : Nat) (q0 q1 : Int) (q2 q3 : Bool) (q4 q5 q6 q7 q8 : Int) (q9 q10 : List Int) (x11 x12 x13 x14 x15 x16 x17 x18 x19 x20 x21 x22 : Int) {A9 A10 : Option Addr} {c9 c10 : Nat} (w : World) (hp : w.heap[g]? = some (.cells #[.int .i64 q0, .int .i64 q1, .bool q2, .bool q3, .int .i64 q4, .int .i64 q5, .int .i64 q6, .int .u32 q7, .int .u32 q8, .slice A9 q9.length c9, .slice A10 q10.length c10, .int .i64 0, .int .u32 0, .int .i64 0, .int .u32 0, .int .i64 0, .int .i64 0, .int .i64 0, .int .u32 0, .int .i64 0, .int .u32 0, .int .i64 0] 92 (0, 0))) (hr : Kd.C (Kd.int .u8) w A10 q10.length q10) (hc : q10.length ≤ c10) (h : frame_reader_other.f = some (x11, x12, x13, x14, x15, x16, x17, x18, x19, x20, x21, x22)) :
    Calls Try.prog 63 #[.pointer (some ⟨g, 0, none⟩)] w fun e w' => e = .returned (.int .i64 x22) ∧ w'.heap[g]? = some (.cells #[.int .i64 q0, .int .i64 q1, .bool q2, .bool q3, .int .i64 q4, .int .i64 q5, .int .i64 q6, .int .u32 q7, .int .u32 q8, .slice A9 q9.length c9, .slice A10 q10.length c10, .int .i64 x11, .int .u32 x12, .int .i64 x13, .int .u32 x14, .int .i64 x15, .int .i64 x16, .int .i64 x17, .int .u32 x18, .int .i64 x19, .int .u32 x20, .int .i64 x21] 92 (0, 0)) ∧ (∀ w0 : World, w0.heap.size ≤ g → Below w0.heap.size w0 w → Below w0.heap.size w0 w') ∧ (∀ j, j < w.heap.size → j ≠ g → w'.heap[j]? = w.heap[j]?) := by
  simp only [frame_reader_other.f, Option.some.injEq, Prod.mk.injEq] at h
  obtain ⟨rfl, rfl, rfl, rfl, rfl, rfl, rfl, rfl, rfl, rfl, rfl, rfl⟩ := h
  refine (frame_reader_other.calls _ w).mono ?_
  rintro e w' ⟨rfl, ⟨nd, rfl⟩⟩
  exact ⟨rfl, blk_drewN hp _, fun w0 hg hb => pw_below_drewN hb _, fun j hj hg => by simp⟩
theorem below_row {B g : Nat} {w w' : World} {cs : Array Value} (h : Below B w w') (hg : B ≤ g) : Below B w (w'.setRow g cs) :=
  ⟨h.os, h.tape, h.output, (by have := h.size; simpa [World.setRow] using this), fun k hk => (setRow_other w' g k cs (by omega)).trans (h.block k hk)⟩
theorem build_to {P : Program} {ops : Array Oper} {rest : List Oper} {o : Oper} {a : Act} {w : World} {Q : Exit → Act → World → Prop} (hg : o.guard = none) (t : TypeId) (parts : Array (Nat × Operand)) (ho : o.op = .build t parts) (cs : Array Value)
    (hb : P.built t (parts.map fun (i, x) => (i, a.eval x)).toList = some cs) (h : wpList P ops Q rest (a.put o.dst (.agg cs)) w) : wpList P ops Q (o :: rest) a w :=
  wpList_build hg t parts ho (by rw [hb]; rfl) (by rw [hb]; exact h)
set_option maxHeartbeats 4000000 in
set_option maxRecDepth 100000 in
theorem frame_Read.r14 {s0 s1 s2 s3 s5 s6 s7 s8 s9 s10 s11 s12 s13 s14 s15 s16 s17 s18 s19 s20 s21 s22 s23 s24 s25 s26 s27 s28 s29 s30 s31 s32 s33 s34 s35 s36 s37 s38 s39 s40 s41 s42 s43 s44 s45 s46 s47 s48 s49 : Value} {D : List Deferred} {I : Nat} {q0 q1 : Int} {q2 q3 : Bool} {q4 q5 q6 q7 q8 : Int} {q9 q10 : List Int} {A9 A10 : Option Addr} {c9 c10 : Nat} {w : World} {Q : Exit → Act → World → Prop}
    (hv : w.heap[I]? = some (.cells #[.int .i64 q0, .int .i64 q1, .bool q2, .bool q3, .int .i64 q4, .int .i64 q5, .int .i64 q6, .int .u32 q7, .int .u32 q8, .slice A9 q9.length c9, .slice A10 q10.length c10] 29 (0, 0))) (hQ : ∀ y35 y36 y37 y38, Q .normal ⟨#[s0, s1, s2, s3, .pointer (some ⟨I, 0, none⟩), s5, s6, .pointer (some ⟨w.heap.size, 0, none⟩), s8, s9, s10, s11, s12, s13, s14, s15, s16, s17, s18, s19, s20, s21, s22, s23, s24, s25, s26, s27, s28, s29, s30, s31, s32, s33, s34, y35, y36, y37, y38, s39, s40, s41, s42, s43, s44, s45, s46, s47, s48, s49], D⟩ (w.alloc (.cells #[.int .i64 q0, .int .i64 q1, .bool q2, .bool q3, .int .i64 q4, .int .i64 q5, .int .i64 q6, .int .u32 q7, .int .u32 q8, .slice A9 q9.length c9, .slice A10 q10.length c10, .int .i64 0, .int .u32 0, .int .i64 0, .int .u32 0, .int .i64 0, .int .i64 0, .int .i64 0, .int .u32 0, .int .i64 0, .int .u32 0, .int .i64 0] 92))) :
    (regionIn 14 Try.f25).wp Try.prog Q ⟨#[s0, s1, s2, s3, .pointer (some ⟨I, 0, none⟩), s5, s6, s7, s8, s9, s10, s11, s12, s13, s14, s15, s16, s17, s18, s19, s20, s21, s22, s23, s24, s25, s26, s27, s28, s29, s30, s31, s32, s33, s34, s35, s36, s37, s38, s39, s40, s41, s42, s43, s44, s45, s46, s47, s48, s49], D⟩ w := by
  conv => arg 2; whnf
  have HV := Aside0.mk hv
  have HQ := Aside0.mk hQ
  clear hv hQ
  refine wp_region_lit ?_
  refine wpList_load_row rfl 29 (.tmp 4) rfl I rfl 29 #[.int .i64 q0, .int .i64 q1, .bool q2, .bool q3, .int .i64 q4, .int .i64 q5, .int .i64 q6, .int .u32 q7, .int .u32 q8, .slice A9 q9.length c9, .slice A10 q10.length c10] (0, 0) _ HV.out Try.underlying29 rfl (by kernel_rfl) ?_
  refine build_to rfl 37 #[(0, .tmp 35)] rfl #[.int .i64 q0, .int .i64 q1, .bool q2, .bool q3, .int .i64 q4, .int .i64 q5, .int .i64 q6, .int .u32 q7, .int .u32 q8, .slice A9 q9.length c9, .slice A10 q10.length c10, .int .i64 0, .int .u32 0, .int .i64 0, .int .u32 0, .int .i64 0, .int .i64 0, .int .i64 0, .int .u32 0, .int .i64 0, .int .u32 0, .int .i64 0] (by kernel_rfl) ?_
  refine build_to rfl 92 #[(0, .tmp 36)] rfl #[.int .i64 q0, .int .i64 q1, .bool q2, .bool q3, .int .i64 q4, .int .i64 q5, .int .i64 q6, .int .u32 q7, .int .u32 q8, .slice A9 q9.length c9, .slice A10 q10.length c10, .int .i64 0, .int .u32 0, .int .i64 0, .int .u32 0, .int .i64 0, .int .i64 0, .int .i64 0, .int .u32 0, .int .i64 0, .int .u32 0, .int .i64 0] (by kernel_rfl) ?_
  refine Go.Great.wpList_boxTo rfl 92 (.tmp 37) rfl (some 38) rfl w.heap.size rfl #[.int .i64 q0, .int .i64 q1, .bool q2, .bool q3, .int .i64 q4, .int .i64 q5, .int .i64 q6, .int .u32 q7, .int .u32 q8, .slice A9 q9.length c9, .slice A10 q10.length c10, .int .i64 0, .int .u32 0, .int .i64 0, .int .u32 0, .int .i64 0, .int .i64 0, .int .i64 0, .int .u32 0, .int .i64 0, .int .u32 0, .int .i64 0] (by rfl) ?_
  refine wpList_plain rfl fun K hK => Go.BigFrame.wp_assign (.tmp 38) rfl (hK _ _ (wpList_nil ?_))
  exact HQ.out _ _ _ _
set_option maxHeartbeats 8000000 in
set_option maxRecDepth 100000 in
theorem frame_Read.calls (k : Nat) (A0 : Option Addr) (c0 : Nat) (l0 : List Int) (r0 r1 : Int) (r2 r3 : Bool) (r4 r5 r6 r7 r8 : Int) (r9 r10 : List Int) (r11 r12 r13 r14 r15 r16 r17 r18 r19 r20 r21 r22 : Int) (w : World) (hr0 : Kd.C (Kd.int .u8) w A0 l0.length l0) (hc0 : l0.length ≤ c0) (h : frame_Read.f k l0 = some (r0, r1, r2, r3, r4, r5, r6, r7, r8, r9, r10, r11, r12, r13, r14, r15, r16, r17, r18, r19, r20, r21, r22)) :
    Calls Try.prog 25 #[.slice A0 l0.length c0] w fun e w' => ∃ v9_ v10_ : Value, e = .returned (.tuple #[.agg #[.int .i64 r0, .int .i64 r1, .bool r2, .bool r3, .int .i64 r4, .int .i64 r5, .int .i64 r6, .int .u32 r7, .int .u32 r8, v9_, v10_, .int .i64 r11, .int .u32 r12, .int .i64 r13, .int .u32 r14, .int .i64 r15, .int .i64 r16, .int .i64 r17, .int .u32 r18, .int .i64 r19, .int .u32 r20, .int .i64 r21], .int .i64 r22]) ∧ Kd.R (Kd.int .u8) 5 w' w.heap.size (fun k_ => some k_ ≠ (v10_ : Value).ownBlock) v9_ r9 ∧ Kd.R (Kd.int .u8) 5 w' w.heap.size (fun k_ => some k_ ≠ (v9_ : Value).ownBlock) v10_ r10 ∧ Below w.heap.size w w' := by
  have hu37 := Try.underlying37
  have hu29 := Try.underlying29
  have hu92 := Try.underlying92
  have HR := Aside0.mk hr0
  have HC := Aside0.mk hc0
  clear hr0 hc0
  unfold frame_Read.f at h
  obtain ⟨⟨q0, q1, q2, q3, q4, q5, q6, q7, q8, q9, q10, q11⟩, hp, h1⟩ := Option.bind_eq_some_iff.mp h
  clear h
  have h := h1
  clear h1
  have HI := Aside0.mk hp
  clear hp
  have HP := Aside0.mk (heap_alloc_new w (.cells #[.int .i64 0, .int .i64 0, .bool false, .bool false, .int .i64 0, .int .i64 0, .int .i64 0, .int .u32 0, .int .u32 0, .slice none 0 0, .slice none 0 0, .int .i64 0, .int .u32 0, .int .i64 0, .int .u32 0, .int .i64 0, .int .i64 0, .int .i64 0, .int .u32 0, .int .i64 0, .int .u32 0, .int .i64 0] 37))
  have HB := Aside0.mk (below_alloc (Below.refl w.heap.size w) (.cells #[.int .i64 0, .int .i64 0, .bool false, .bool false, .int .i64 0, .int .i64 0, .int .i64 0, .int .u32 0, .int .u32 0, .slice none 0 0, .slice none 0 0, .int .i64 0, .int .u32 0, .int .i64 0, .int .u32 0, .int .i64 0, .int .i64 0, .int .i64 0, .int .u32 0, .int .i64 0, .int .u32 0, .int .i64 0] 37))
  have HS := Aside0.mk (show w.heap.size < (w.alloc (.cells #[.int .i64 0, .int .i64 0, .bool false, .bool false, .int .i64 0, .int .i64 0, .int .i64 0, .int .u32 0, .int .u32 0, .slice none 0 0, .slice none 0 0, .int .i64 0, .int .u32 0, .int .i64 0, .int .u32 0, .int .i64 0, .int .i64 0, .int .i64 0, .int .u32 0, .int .i64 0, .int .u32 0, .int .i64 0] 37)).heap.size from blk_lt HP.out)
  go_enter Try.func25, Try.ntmps25
  go_upto_region 1 with (fail)
  generalize (w.alloc (.cells #[.int .i64 0, .int .i64 0, .bool false, .bool false, .int .i64 0, .int .i64 0, .int .i64 0, .int .u32 0, .int .u32 0, .slice none 0 0, .slice none 0 0, .int .i64 0, .int .u32 0, .int .i64 0, .int .u32 0, .int .i64 0, .int .i64 0, .int .i64 0, .int .u32 0, .int .i64 0, .int .u32 0, .int .i64 0] 37)) = W at HP HB HS ⊢
  go_upto_region 2 with ((with_reducible refine (ip_Parse.calls A0 c0 l0 q0 q1 q2 q3 q4 q5 q6 q7 q8 q9 q10 q11 _ (Kd.C_below HR.out HB.out) HC.out HI.out).mono ?_); rintro e' w1 ⟨v9, v10, rfl, hv9, hv10, hb1⟩; obtain ⟨A9, c9, rfl⟩ := Kd.R_slice hv9; obtain ⟨A10, c10, rfl⟩ := Kd.R_slice hv10; have H9 := Aside0.mk (Kd.R_types hv9 (blk_below HP.out hb1) (by decide)); have H10 := Aside0.mk (Kd.R_types hv10 (blk_below HP.out hb1) (by decide)); have n1 := Aside0.mk (blk_below HP.out hb1); have n2 := Aside0.mk (below_step HB.out hb1); clear HP HB hv9 hv10 hb1; have HP := n1; have HB := n2; clear n1 n2)
  obtain ⟨I, hI⟩ : ∃ i, i = w1.heap.size := ⟨_, rfl⟩
  have n1 := Aside0.mk (heap_alloc_new w1 (.cells #[.int .i64 q0, .int .i64 q1, .bool q2, .bool q3, .int .i64 q4, .int .i64 q5, .int .i64 q6, .int .u32 q7, .int .u32 q8, .slice A9 q9.length c9, .slice A10 q10.length c10] 29))
  have n2 := Aside0.mk (blk_alloc HP.out (.cells #[.int .i64 q0, .int .i64 q1, .bool q2, .bool q3, .int .i64 q4, .int .i64 q5, .int .i64 q6, .int .u32 q7, .int .u32 q8, .slice A9 q9.length c9, .slice A10 q10.length c10] 29))
  have n3 := Aside0.mk (below_alloc HB.out (.cells #[.int .i64 q0, .int .i64 q1, .bool q2, .bool q3, .int .i64 q4, .int .i64 q5, .int .i64 q6, .int .u32 q7, .int .u32 q8, .slice A9 q9.length c9, .slice A10 q10.length c10] 29))
  have n4 := Aside0.mk (Kd.R_alloc H9.out (.cells #[.int .i64 q0, .int .i64 q1, .bool q2, .bool q3, .int .i64 q4, .int .i64 q5, .int .i64 q6, .int .u32 q7, .int .u32 q8, .slice A9 q9.length c9, .slice A10 q10.length c10] 29))
  have n5 := Aside0.mk (Kd.R_alloc H10.out (.cells #[.int .i64 q0, .int .i64 q1, .bool q2, .bool q3, .int .i64 q4, .int .i64 q5, .int .i64 q6, .int .u32 q7, .int .u32 q8, .slice A9 q9.length c9, .slice A10 q10.length c10] 29))
  clear HP HB H9 H10
  have HP := n2
  have HB := n3
  have H9 := n4
  have H10 := n5
  rw [← hI] at n1 ⊢
  have HV := n1
  clear n1 n2 n3 n4 n5 hI
  generalize (w1.alloc (.cells #[.int .i64 q0, .int .i64 q1, .bool q2, .bool q3, .int .i64 q4, .int .i64 q5, .int .i64 q6, .int .u32 q7, .int .u32 q8, .slice A9 q9.length c9, .slice A10 q10.length c10] 29)) = W2 at HP HB HV H9 H10 ⊢
  have hcV3 : W2.cell? ⟨I, 3, none⟩ = some (.bool q3) := (blk_cell HV.out 3).trans rfl
  have hcV4 : W2.cell? ⟨I, 4, none⟩ = some (.int .i64 q4) := (blk_cell HV.out 4).trans rfl
  have hcV6 : W2.cell? ⟨I, 6, none⟩ = some (.int .i64 q6) := (blk_cell HV.out 6).trans rfl
  try dsimp only at h
  by_cases c1 : q11 ≠ 0
  · rw [if_pos c1] at h
    obtain ⟨y, hy, h⟩ := Option.bind_eq_some_iff.mp h
    have HY := Aside0.mk hy
    clear hy
    simp only [frame_Read.zero, Option.some.injEq, Prod.mk.injEq] at h
    obtain ⟨rfl, rfl, rfl, rfl, rfl, rfl, rfl, rfl, rfl, rfl, rfl, rfl, rfl, rfl, rfl, rfl, rfl, rfl, rfl, rfl, rfl, rfl, rfl⟩ := h
    have c1b0 : (q11 != 0) = true := bne_iff_ne.2 c1
    have c1b1 : (q11 == 0) = false := beq_eq_false_iff_ne.2 c1
    clear c1
    go_wp2_with (fail)
    ((with_reducible refine (frame_why.calls q11 y _ HY.out).mono ?_); rintro e' w' ⟨rfl, ⟨nd, rfl⟩⟩)
    go_wp2_with (refine wpList_store_row rfl 37 (.tmp 2) (.tmp 16) rfl w.heap.size #[.int .i64 0, .int .i64 0, .bool false, .bool false, .int .i64 0, .int .i64 0, .int .i64 0, .int .u32 0, .int .u32 0, .slice none 0 0, .slice none 0 0, .int .i64 0, .int .u32 0, .int .i64 0, .int .u32 0, .int .i64 0, .int .i64 0, .int .i64 0, .int .u32 0, .int .i64 0, .int .u32 0, .int .i64 0] (by rfl) (by rfl) 37 #[.int .i64 0, .int .i64 0, .bool false, .bool false, .int .i64 0, .int .i64 0, .int .i64 0, .int .u32 0, .int .u32 0, .slice none 0 0, .slice none 0 0, .int .i64 0, .int .u32 0, .int .i64 0, .int .u32 0, .int .i64 0, .int .i64 0, .int .i64 0, .int .u32 0, .int .i64 0, .int .u32 0, .int .i64 0] (by (with_reducible repeat (first | refine blk_drewN ?_ _ | refine blk_drew ?_)); exact HP.out) (by kernel_rfl) rfl (by kernel_rfl) ?_)
    refine bodyPost_ret (results_ct rfl _ _ w.heap.size 37 #[.int .i64 0, .int .i64 0, .bool false, .bool false, .int .i64 0, .int .i64 0, .int .i64 0, .int .u32 0, .int .u32 0, .slice none 0 0, .slice none 0 0, .int .i64 0, .int .u32 0, .int .i64 0, .int .u32 0, .int .i64 0, .int .i64 0, .int .i64 0, .int .u32 0, .int .i64 0, .int .u32 0, .int .i64 0] (0, 0) _ rfl (setRow_heap _ _ _ _ _ _ (by (with_reducible repeat (first | refine blk_drewN ?_ _ | refine blk_drew ?_)); exact HP.out)) Try.underlying37 rfl (by kernel_rfl)) rfl ?_
    exact ⟨_, _, rfl, Kd.R_nil _ _ _ _ _, Kd.R_nil _ _ _ _ _, below_row (by repeat (first | (with_reducible first | exact HB.out | apply pw_below_drewN | apply below_drew1) | exact HB.out)) (Nat.le_refl _)⟩
  rw [if_neg c1] at h
  have c1b0 : (q11 != 0) = false := bne_eq_false_iff_eq.2 (Classical.not_not.1 c1)
  have c1b1 : (q11 == 0) = true := beq_iff_eq.2 (Classical.not_not.1 c1)
  clear c1
  by_cases c2 : q3 = true
  · rw [if_pos c2] at h
    simp only [frame_Read.zero, Option.some.injEq, Prod.mk.injEq] at h
    obtain ⟨rfl, rfl, rfl, rfl, rfl, rfl, rfl, rfl, rfl, rfl, rfl, rfl, rfl, rfl, rfl, rfl, rfl, rfl, rfl, rfl, rfl, rfl, rfl⟩ := h
    subst c2
    go_wp2_with (refine wpList_store_row rfl 37 (.tmp 2) (.tmp 26) rfl w.heap.size #[.int .i64 0, .int .i64 0, .bool false, .bool false, .int .i64 0, .int .i64 0, .int .i64 0, .int .u32 0, .int .u32 0, .slice none 0 0, .slice none 0 0, .int .i64 0, .int .u32 0, .int .i64 0, .int .u32 0, .int .i64 0, .int .i64 0, .int .i64 0, .int .u32 0, .int .i64 0, .int .u32 0, .int .i64 0] (by rfl) (by rfl) 37 #[.int .i64 0, .int .i64 0, .bool false, .bool false, .int .i64 0, .int .i64 0, .int .i64 0, .int .u32 0, .int .u32 0, .slice none 0 0, .slice none 0 0, .int .i64 0, .int .u32 0, .int .i64 0, .int .u32 0, .int .i64 0, .int .i64 0, .int .i64 0, .int .u32 0, .int .i64 0, .int .u32 0, .int .i64 0] (by (with_reducible repeat (first | refine blk_drewN ?_ _ | refine blk_drew ?_)); exact HP.out) (by kernel_rfl) rfl (by kernel_rfl) ?_)
    refine bodyPost_ret (results_ct rfl _ _ w.heap.size 37 #[.int .i64 0, .int .i64 0, .bool false, .bool false, .int .i64 0, .int .i64 0, .int .i64 0, .int .u32 0, .int .u32 0, .slice none 0 0, .slice none 0 0, .int .i64 0, .int .u32 0, .int .i64 0, .int .u32 0, .int .i64 0, .int .i64 0, .int .i64 0, .int .u32 0, .int .i64 0, .int .u32 0, .int .i64 0] (0, 0) _ rfl (setRow_heap _ _ _ _ _ _ (by (with_reducible repeat (first | refine blk_drewN ?_ _ | refine blk_drew ?_)); exact HP.out)) Try.underlying37 rfl (by kernel_rfl)) rfl ?_
    exact ⟨_, _, rfl, Kd.R_nil _ _ _ _ _, Kd.R_nil _ _ _ _ _, below_row (by repeat (first | (with_reducible first | exact HB.out | apply pw_below_drewN | apply below_drew1) | exact HB.out)) (Nat.le_refl _)⟩
  rw [if_neg c2] at h
  have c2 : q3 = false := by simpa using c2
  subst c2
  by_cases c3 : q4 ≠ 0
  · rw [if_pos c3] at h
    simp only [frame_Read.zero, Option.some.injEq, Prod.mk.injEq] at h
    obtain ⟨rfl, rfl, rfl, rfl, rfl, rfl, rfl, rfl, rfl, rfl, rfl, rfl, rfl, rfl, rfl, rfl, rfl, rfl, rfl, rfl, rfl, rfl, rfl⟩ := h
    have c3b0 : (q4 != 0) = true := bne_iff_ne.2 c3
    have c3b1 : (q4 == 0) = false := beq_eq_false_iff_ne.2 c3
    clear c3
    go_wp2_with (refine wpList_store_row rfl 37 (.tmp 2) (.tmp 26) rfl w.heap.size #[.int .i64 0, .int .i64 0, .bool false, .bool false, .int .i64 0, .int .i64 0, .int .i64 0, .int .u32 0, .int .u32 0, .slice none 0 0, .slice none 0 0, .int .i64 0, .int .u32 0, .int .i64 0, .int .u32 0, .int .i64 0, .int .i64 0, .int .i64 0, .int .u32 0, .int .i64 0, .int .u32 0, .int .i64 0] (by rfl) (by rfl) 37 #[.int .i64 0, .int .i64 0, .bool false, .bool false, .int .i64 0, .int .i64 0, .int .i64 0, .int .u32 0, .int .u32 0, .slice none 0 0, .slice none 0 0, .int .i64 0, .int .u32 0, .int .i64 0, .int .u32 0, .int .i64 0, .int .i64 0, .int .i64 0, .int .u32 0, .int .i64 0, .int .u32 0, .int .i64 0] (by (with_reducible repeat (first | refine blk_drewN ?_ _ | refine blk_drew ?_)); exact HP.out) (by kernel_rfl) rfl (by kernel_rfl) ?_)
    refine bodyPost_ret (results_ct rfl _ _ w.heap.size 37 #[.int .i64 0, .int .i64 0, .bool false, .bool false, .int .i64 0, .int .i64 0, .int .i64 0, .int .u32 0, .int .u32 0, .slice none 0 0, .slice none 0 0, .int .i64 0, .int .u32 0, .int .i64 0, .int .u32 0, .int .i64 0, .int .i64 0, .int .i64 0, .int .u32 0, .int .i64 0, .int .u32 0, .int .i64 0] (0, 0) _ rfl (setRow_heap _ _ _ _ _ _ (by (with_reducible repeat (first | refine blk_drewN ?_ _ | refine blk_drew ?_)); exact HP.out)) Try.underlying37 rfl (by kernel_rfl)) rfl ?_
    exact ⟨_, _, rfl, Kd.R_nil _ _ _ _ _, Kd.R_nil _ _ _ _ _, below_row (by repeat (first | (with_reducible first | exact HB.out | apply pw_below_drewN | apply below_drew1) | exact HB.out)) (Nat.le_refl _)⟩
  rw [if_neg c3] at h
  have c3b0 : (q4 != 0) = false := bne_eq_false_iff_eq.2 (Classical.not_not.1 c3)
  have c3b1 : (q4 == 0) = true := beq_iff_eq.2 (Classical.not_not.1 c3)
  clear c3
  obtain ⟨⟨x11, x12, x13, x14, x15, x16, x17, x18, x19, x20, x21, x22⟩, hx, h1⟩ := Option.bind_eq_some_iff.mp h
  clear h
  have h := h1
  clear h1
  try dsimp only at h
  unfold frame_Read.part at hx
  have HRB := Aside0.mk (Kd.R_reads' H10.out)
  by_cases d0 : q6 = 17
  · rw [if_pos d0] at hx
    have d0b : (q6 == 17) = true := beq_iff_eq.2 d0
    clear d0
    have HX := Aside0.mk hx
    clear hx
    go_upto_region 14 with (fail)
    refine frame_Read.r14 (by (with_reducible repeat (first | refine blk_drewN ?_ _ | refine blk_drew ?_)); exact HV.out) ?_
    intro y35 y36 y37 y38
    obtain ⟨g, hg⟩ : ∃ g, g = W2.heap.size := ⟨_, rfl⟩
    have HG0 := Aside0.mk hg
    have HG := Aside0.mk (heap_alloc_new W2 (.cells #[.int .i64 q0, .int .i64 q1, .bool q2, .bool false, .int .i64 q4, .int .i64 q5, .int .i64 q6, .int .u32 q7, .int .u32 q8, .slice A9 q9.length c9, .slice A10 q10.length c10, .int .i64 0, .int .u32 0, .int .i64 0, .int .u32 0, .int .i64 0, .int .i64 0, .int .i64 0, .int .u32 0, .int .i64 0, .int .u32 0, .int .i64 0] 92))
    have HP3 := Aside0.mk (blk_alloc HP.out (.cells #[.int .i64 q0, .int .i64 q1, .bool q2, .bool false, .int .i64 q4, .int .i64 q5, .int .i64 q6, .int .u32 q7, .int .u32 q8, .slice A9 q9.length c9, .slice A10 q10.length c10, .int .i64 0, .int .u32 0, .int .i64 0, .int .u32 0, .int .i64 0, .int .i64 0, .int .i64 0, .int .u32 0, .int .i64 0, .int .u32 0, .int .i64 0] 92))
    have HB3 := Aside0.mk (below_alloc HB.out (.cells #[.int .i64 q0, .int .i64 q1, .bool q2, .bool false, .int .i64 q4, .int .i64 q5, .int .i64 q6, .int .u32 q7, .int .u32 q8, .slice A9 q9.length c9, .slice A10 q10.length c10, .int .i64 0, .int .u32 0, .int .i64 0, .int .u32 0, .int .i64 0, .int .i64 0, .int .i64 0, .int .u32 0, .int .i64 0, .int .u32 0, .int .i64 0] 92))
    have HW3 := Aside0.mk (below_alloc (Below.refl W2.heap.size W2) (.cells #[.int .i64 q0, .int .i64 q1, .bool q2, .bool false, .int .i64 q4, .int .i64 q5, .int .i64 q6, .int .u32 q7, .int .u32 q8, .slice A9 q9.length c9, .slice A10 q10.length c10, .int .i64 0, .int .u32 0, .int .i64 0, .int .u32 0, .int .i64 0, .int .i64 0, .int .i64 0, .int .u32 0, .int .i64 0, .int .u32 0, .int .i64 0] 92))
    have HRB3 := Aside0.mk (Kd.C_below HRB.out.2.2 HW3.out)
    rw [← hg] at HG HW3 ⊢
    clear hg
    generalize (W2.alloc (.cells #[.int .i64 q0, .int .i64 q1, .bool q2, .bool false, .int .i64 q4, .int .i64 q5, .int .i64 q6, .int .u32 q7, .int .u32 q8, .slice A9 q9.length c9, .slice A10 q10.length c10, .int .i64 0, .int .u32 0, .int .i64 0, .int .u32 0, .int .i64 0, .int .i64 0, .int .i64 0, .int .u32 0, .int .i64 0, .int .u32 0, .int .i64 0] 92)) = W3 at HG HP3 HB3 HW3 HRB3 ⊢
    go_upto_region 16 with ((with_reducible refine (frame_reader_udp.run k g q0 q1 q2 false q4 q5 q6 q7 q8 q9 q10 x11 x12 x13 x14 x15 x16 x17 x18 x19 x20 x21 x22 W3 HG.out HRB3.out HRB.out.2.1 HX.out).mono ?_); rintro e w4 ⟨rfl, h4, hb4, hf4⟩)
    have HG4 := Aside0.mk h4
    have HP4 := Aside0.mk ((hf4 w.heap.size (blk_lt HP3.out) (by have := blk_lt HP.out; have := HG0.out; omega)).trans HP3.out)
    have HB4 := Aside0.mk (hb4 w (by have := blk_lt HP.out; have := HG0.out; omega) HB3.out)
    have HW4 := Aside0.mk (hb4 W2 (by have := HG0.out; omega) (by rw [HG0.out] at HW3; exact HW3.out))
    have K9 := Aside0.mk (Kd.R_below H9.out HW4.out)
    have K10 := Aside0.mk (Kd.R_below H10.out HW4.out)
    clear h4 hb4 hf4 HW3 HW4 HP HB HP3 HB3 HG HRB3 H9 H10 HV
    by_cases e1 : x22 ≠ 0
    · rw [if_pos e1] at h
      simp only [frame_Read.zero, Option.some.injEq, Prod.mk.injEq] at h
      obtain ⟨rfl, rfl, rfl, rfl, rfl, rfl, rfl, rfl, rfl, rfl, rfl, rfl, rfl, rfl, rfl, rfl, rfl, rfl, rfl, rfl, rfl, rfl, rfl⟩ := h
      have e1b0 : (x22 != 0) = true := bne_iff_ne.2 e1
      have e1b1 : (x22 == 0) = false := beq_eq_false_iff_ne.2 e1
      clear e1
      go_wp2_with (refine wpList_store_row rfl 37 (.tmp 2) (.tmp 44) rfl w.heap.size #[.int .i64 0, .int .i64 0, .bool false, .bool false, .int .i64 0, .int .i64 0, .int .i64 0, .int .u32 0, .int .u32 0, .slice none 0 0, .slice none 0 0, .int .i64 0, .int .u32 0, .int .i64 0, .int .u32 0, .int .i64 0, .int .i64 0, .int .i64 0, .int .u32 0, .int .i64 0, .int .u32 0, .int .i64 0] (by rfl) (by rfl) 37 #[.int .i64 0, .int .i64 0, .bool false, .bool false, .int .i64 0, .int .i64 0, .int .i64 0, .int .u32 0, .int .u32 0, .slice none 0 0, .slice none 0 0, .int .i64 0, .int .u32 0, .int .i64 0, .int .u32 0, .int .i64 0, .int .i64 0, .int .i64 0, .int .u32 0, .int .i64 0, .int .u32 0, .int .i64 0] (by (with_reducible repeat (first | refine blk_drewN ?_ _ | refine blk_drew ?_)); exact HP4.out) (by kernel_rfl) rfl (by kernel_rfl) ?_)
      refine bodyPost_ret (results_ct rfl _ _ w.heap.size 37 #[.int .i64 0, .int .i64 0, .bool false, .bool false, .int .i64 0, .int .i64 0, .int .i64 0, .int .u32 0, .int .u32 0, .slice none 0 0, .slice none 0 0, .int .i64 0, .int .u32 0, .int .i64 0, .int .u32 0, .int .i64 0, .int .i64 0, .int .i64 0, .int .u32 0, .int .i64 0, .int .u32 0, .int .i64 0] (0, 0) _ rfl (setRow_heap _ _ _ _ _ _ (by (with_reducible repeat (first | refine blk_drewN ?_ _ | refine blk_drew ?_)); exact HP4.out)) Try.underlying37 rfl (by kernel_rfl)) rfl ?_
      exact ⟨_, _, rfl, Kd.R_nil _ _ _ _ _, Kd.R_nil _ _ _ _ _, below_row (by repeat (first | (with_reducible first | exact HB4.out | apply pw_below_drewN | apply below_drew1) | exact HB4.out)) (Nat.le_refl _)⟩
    rw [if_neg e1] at h
    simp only [Option.some.injEq, Prod.mk.injEq] at h
    obtain ⟨rfl, rfl, rfl, rfl, rfl, rfl, rfl, rfl, rfl, rfl, rfl, rfl, rfl, rfl, rfl, rfl, rfl, rfl, rfl, rfl, rfl, rfl, rfl⟩ := h
    have e1b0 : (x22 != 0) = false := bne_eq_false_iff_eq.2 (Classical.not_not.1 e1)
    have e1b1 : (x22 == 0) = true := beq_iff_eq.2 (Classical.not_not.1 e1)
    have e1c := Classical.not_not.1 e1
    subst e1c
    clear e1
    go_wp2_with (first | (refine wpList_load_row rfl 37 (.tmp 48) rfl g rfl 92 #[.int .i64 q0, .int .i64 q1, .bool q2, .bool false, .int .i64 q4, .int .i64 q5, .int .i64 q6, .int .u32 q7, .int .u32 q8, .slice A9 q9.length c9, .slice A10 q10.length c10, .int .i64 x11, .int .u32 x12, .int .i64 x13, .int .u32 x14, .int .i64 x15, .int .i64 x16, .int .i64 x17, .int .u32 x18, .int .i64 x19, .int .u32 x20, .int .i64 x21] (0, 0) _ (by (with_reducible repeat (first | refine blk_drewN ?_ _ | refine blk_drew ?_)); exact HG4.out) Try.underlying37 rfl (by kernel_rfl) ?_) | (refine wpList_store_row rfl 37 (.tmp 2) (.tmp 49) rfl w.heap.size #[.int .i64 q0, .int .i64 q1, .bool q2, .bool false, .int .i64 q4, .int .i64 q5, .int .i64 q6, .int .u32 q7, .int .u32 q8, .slice A9 q9.length c9, .slice A10 q10.length c10, .int .i64 x11, .int .u32 x12, .int .i64 x13, .int .u32 x14, .int .i64 x15, .int .i64 x16, .int .i64 x17, .int .u32 x18, .int .i64 x19, .int .u32 x20, .int .i64 x21] (by rfl) (by rfl) 37 #[.int .i64 0, .int .i64 0, .bool false, .bool false, .int .i64 0, .int .i64 0, .int .i64 0, .int .u32 0, .int .u32 0, .slice none 0 0, .slice none 0 0, .int .i64 0, .int .u32 0, .int .i64 0, .int .u32 0, .int .i64 0, .int .i64 0, .int .i64 0, .int .u32 0, .int .i64 0, .int .u32 0, .int .i64 0] (by (with_reducible repeat (first | refine blk_drewN ?_ _ | refine blk_drew ?_)); exact HP4.out) (by kernel_rfl) rfl (by kernel_rfl) ?_))
    refine bodyPost_ret (results_ct rfl _ _ w.heap.size 37 #[.int .i64 q0, .int .i64 q1, .bool q2, .bool false, .int .i64 q4, .int .i64 q5, .int .i64 q6, .int .u32 q7, .int .u32 q8, .slice A9 q9.length c9, .slice A10 q10.length c10, .int .i64 x11, .int .u32 x12, .int .i64 x13, .int .u32 x14, .int .i64 x15, .int .i64 x16, .int .i64 x17, .int .u32 x18, .int .i64 x19, .int .u32 x20, .int .i64 x21] (0, 0) _ rfl (setRow_heap _ _ _ _ _ _ (by (with_reducible repeat (first | refine blk_drewN ?_ _ | refine blk_drew ?_)); exact HP4.out)) Try.underlying37 rfl (by kernel_rfl)) rfl ?_
    exact ⟨_, _, rfl, Kd.R_lower (Kd.R_mono (Kd.R_step (id K9.out) (fun k hk _ => setRow_other _ _ _ _ hk.2)) (fun k hk => hk.1)) (Nat.le_of_lt HS.out), Kd.R_lower (Kd.R_mono (Kd.R_step (id K10.out) (fun k hk _ => setRow_other _ _ _ _ hk.2)) (fun k hk => hk.1)) (Nat.le_of_lt HS.out), below_row (by repeat (first | (with_reducible first | exact HB4.out | apply pw_below_drewN | apply below_drew1) | exact HB4.out)) (Nat.le_refl _)⟩
  rw [if_neg d0] at hx
  have d0b : (q6 == 17) = false := beq_eq_false_iff_ne.2 d0
  clear d0
  by_cases d1 : q6 = 6
  · rw [if_pos d1] at hx
    have d1b : (q6 == 6) = true := beq_iff_eq.2 d1
    clear d1
    have HX := Aside0.mk hx
    clear hx
    go_upto_region 14 with (fail)
    refine frame_Read.r14 (by (with_reducible repeat (first | refine blk_drewN ?_ _ | refine blk_drew ?_)); exact HV.out) ?_
    intro y35 y36 y37 y38
    obtain ⟨g, hg⟩ : ∃ g, g = W2.heap.size := ⟨_, rfl⟩
    have HG0 := Aside0.mk hg
    have HG := Aside0.mk (heap_alloc_new W2 (.cells #[.int .i64 q0, .int .i64 q1, .bool q2, .bool false, .int .i64 q4, .int .i64 q5, .int .i64 q6, .int .u32 q7, .int .u32 q8, .slice A9 q9.length c9, .slice A10 q10.length c10, .int .i64 0, .int .u32 0, .int .i64 0, .int .u32 0, .int .i64 0, .int .i64 0, .int .i64 0, .int .u32 0, .int .i64 0, .int .u32 0, .int .i64 0] 92))
    have HP3 := Aside0.mk (blk_alloc HP.out (.cells #[.int .i64 q0, .int .i64 q1, .bool q2, .bool false, .int .i64 q4, .int .i64 q5, .int .i64 q6, .int .u32 q7, .int .u32 q8, .slice A9 q9.length c9, .slice A10 q10.length c10, .int .i64 0, .int .u32 0, .int .i64 0, .int .u32 0, .int .i64 0, .int .i64 0, .int .i64 0, .int .u32 0, .int .i64 0, .int .u32 0, .int .i64 0] 92))
    have HB3 := Aside0.mk (below_alloc HB.out (.cells #[.int .i64 q0, .int .i64 q1, .bool q2, .bool false, .int .i64 q4, .int .i64 q5, .int .i64 q6, .int .u32 q7, .int .u32 q8, .slice A9 q9.length c9, .slice A10 q10.length c10, .int .i64 0, .int .u32 0, .int .i64 0, .int .u32 0, .int .i64 0, .int .i64 0, .int .i64 0, .int .u32 0, .int .i64 0, .int .u32 0, .int .i64 0] 92))
    have HW3 := Aside0.mk (below_alloc (Below.refl W2.heap.size W2) (.cells #[.int .i64 q0, .int .i64 q1, .bool q2, .bool false, .int .i64 q4, .int .i64 q5, .int .i64 q6, .int .u32 q7, .int .u32 q8, .slice A9 q9.length c9, .slice A10 q10.length c10, .int .i64 0, .int .u32 0, .int .i64 0, .int .u32 0, .int .i64 0, .int .i64 0, .int .i64 0, .int .u32 0, .int .i64 0, .int .u32 0, .int .i64 0] 92))
    have HRB3 := Aside0.mk (Kd.C_below HRB.out.2.2 HW3.out)
    rw [← hg] at HG HW3 ⊢
    clear hg
    generalize (W2.alloc (.cells #[.int .i64 q0, .int .i64 q1, .bool q2, .bool false, .int .i64 q4, .int .i64 q5, .int .i64 q6, .int .u32 q7, .int .u32 q8, .slice A9 q9.length c9, .slice A10 q10.length c10, .int .i64 0, .int .u32 0, .int .i64 0, .int .u32 0, .int .i64 0, .int .i64 0, .int .i64 0, .int .u32 0, .int .i64 0, .int .u32 0, .int .i64 0] 92)) = W3 at HG HP3 HB3 HW3 HRB3 ⊢
    go_upto_region 16 with ((with_reducible refine (frame_reader_tcp.run k g q0 q1 q2 false q4 q5 q6 q7 q8 q9 q10 x11 x12 x13 x14 x15 x16 x17 x18 x19 x20 x21 x22 W3 HG.out HRB3.out HRB.out.2.1 HX.out).mono ?_); rintro e w4 ⟨rfl, h4, hb4, hf4⟩)
    have HG4 := Aside0.mk h4
    have HP4 := Aside0.mk ((hf4 w.heap.size (blk_lt HP3.out) (by have := blk_lt HP.out; have := HG0.out; omega)).trans HP3.out)
    have HB4 := Aside0.mk (hb4 w (by have := blk_lt HP.out; have := HG0.out; omega) HB3.out)
    have HW4 := Aside0.mk (hb4 W2 (by have := HG0.out; omega) (by rw [HG0.out] at HW3; exact HW3.out))
    have K9 := Aside0.mk (Kd.R_below H9.out HW4.out)
    have K10 := Aside0.mk (Kd.R_below H10.out HW4.out)
    clear h4 hb4 hf4 HW3 HW4 HP HB HP3 HB3 HG HRB3 H9 H10 HV
    by_cases e1 : x22 ≠ 0
    · rw [if_pos e1] at h
      simp only [frame_Read.zero, Option.some.injEq, Prod.mk.injEq] at h
      obtain ⟨rfl, rfl, rfl, rfl, rfl, rfl, rfl, rfl, rfl, rfl, rfl, rfl, rfl, rfl, rfl, rfl, rfl, rfl, rfl, rfl, rfl, rfl, rfl⟩ := h
      have e1b0 : (x22 != 0) = true := bne_iff_ne.2 e1
      have e1b1 : (x22 == 0) = false := beq_eq_false_iff_ne.2 e1
      clear e1
      go_wp2_with (refine wpList_store_row rfl 37 (.tmp 2) (.tmp 44) rfl w.heap.size #[.int .i64 0, .int .i64 0, .bool false, .bool false, .int .i64 0, .int .i64 0, .int .i64 0, .int .u32 0, .int .u32 0, .slice none 0 0, .slice none 0 0, .int .i64 0, .int .u32 0, .int .i64 0, .int .u32 0, .int .i64 0, .int .i64 0, .int .i64 0, .int .u32 0, .int .i64 0, .int .u32 0, .int .i64 0] (by rfl) (by rfl) 37 #[.int .i64 0, .int .i64 0, .bool false, .bool false, .int .i64 0, .int .i64 0, .int .i64 0, .int .u32 0, .int .u32 0, .slice none 0 0, .slice none 0 0, .int .i64 0, .int .u32 0, .int .i64 0, .int .u32 0, .int .i64 0, .int .i64 0, .int .i64 0, .int .u32 0, .int .i64 0, .int .u32 0, .int .i64 0] (by (with_reducible repeat (first | refine blk_drewN ?_ _ | refine blk_drew ?_)); exact HP4.out) (by kernel_rfl) rfl (by kernel_rfl) ?_)
      refine bodyPost_ret (results_ct rfl _ _ w.heap.size 37 #[.int .i64 0, .int .i64 0, .bool false, .bool false, .int .i64 0, .int .i64 0, .int .i64 0, .int .u32 0, .int .u32 0, .slice none 0 0, .slice none 0 0, .int .i64 0, .int .u32 0, .int .i64 0, .int .u32 0, .int .i64 0, .int .i64 0, .int .i64 0, .int .u32 0, .int .i64 0, .int .u32 0, .int .i64 0] (0, 0) _ rfl (setRow_heap _ _ _ _ _ _ (by (with_reducible repeat (first | refine blk_drewN ?_ _ | refine blk_drew ?_)); exact HP4.out)) Try.underlying37 rfl (by kernel_rfl)) rfl ?_
      exact ⟨_, _, rfl, Kd.R_nil _ _ _ _ _, Kd.R_nil _ _ _ _ _, below_row (by repeat (first | (with_reducible first | exact HB4.out | apply pw_below_drewN | apply below_drew1) | exact HB4.out)) (Nat.le_refl _)⟩
    rw [if_neg e1] at h
    simp only [Option.some.injEq, Prod.mk.injEq] at h
    obtain ⟨rfl, rfl, rfl, rfl, rfl, rfl, rfl, rfl, rfl, rfl, rfl, rfl, rfl, rfl, rfl, rfl, rfl, rfl, rfl, rfl, rfl, rfl, rfl⟩ := h
    have e1b0 : (x22 != 0) = false := bne_eq_false_iff_eq.2 (Classical.not_not.1 e1)
    have e1b1 : (x22 == 0) = true := beq_iff_eq.2 (Classical.not_not.1 e1)
    have e1c := Classical.not_not.1 e1
    subst e1c
    clear e1
    go_wp2_with (first | (refine wpList_load_row rfl 37 (.tmp 48) rfl g rfl 92 #[.int .i64 q0, .int .i64 q1, .bool q2, .bool false, .int .i64 q4, .int .i64 q5, .int .i64 q6, .int .u32 q7, .int .u32 q8, .slice A9 q9.length c9, .slice A10 q10.length c10, .int .i64 x11, .int .u32 x12, .int .i64 x13, .int .u32 x14, .int .i64 x15, .int .i64 x16, .int .i64 x17, .int .u32 x18, .int .i64 x19, .int .u32 x20, .int .i64 x21] (0, 0) _ (by (with_reducible repeat (first | refine blk_drewN ?_ _ | refine blk_drew ?_)); exact HG4.out) Try.underlying37 rfl (by kernel_rfl) ?_) | (refine wpList_store_row rfl 37 (.tmp 2) (.tmp 49) rfl w.heap.size #[.int .i64 q0, .int .i64 q1, .bool q2, .bool false, .int .i64 q4, .int .i64 q5, .int .i64 q6, .int .u32 q7, .int .u32 q8, .slice A9 q9.length c9, .slice A10 q10.length c10, .int .i64 x11, .int .u32 x12, .int .i64 x13, .int .u32 x14, .int .i64 x15, .int .i64 x16, .int .i64 x17, .int .u32 x18, .int .i64 x19, .int .u32 x20, .int .i64 x21] (by rfl) (by rfl) 37 #[.int .i64 0, .int .i64 0, .bool false, .bool false, .int .i64 0, .int .i64 0, .int .i64 0, .int .u32 0, .int .u32 0, .slice none 0 0, .slice none 0 0, .int .i64 0, .int .u32 0, .int .i64 0, .int .u32 0, .int .i64 0, .int .i64 0, .int .i64 0, .int .u32 0, .int .i64 0, .int .u32 0, .int .i64 0] (by (with_reducible repeat (first | refine blk_drewN ?_ _ | refine blk_drew ?_)); exact HP4.out) (by kernel_rfl) rfl (by kernel_rfl) ?_))
    refine bodyPost_ret (results_ct rfl _ _ w.heap.size 37 #[.int .i64 q0, .int .i64 q1, .bool q2, .bool false, .int .i64 q4, .int .i64 q5, .int .i64 q6, .int .u32 q7, .int .u32 q8, .slice A9 q9.length c9, .slice A10 q10.length c10, .int .i64 x11, .int .u32 x12, .int .i64 x13, .int .u32 x14, .int .i64 x15, .int .i64 x16, .int .i64 x17, .int .u32 x18, .int .i64 x19, .int .u32 x20, .int .i64 x21] (0, 0) _ rfl (setRow_heap _ _ _ _ _ _ (by (with_reducible repeat (first | refine blk_drewN ?_ _ | refine blk_drew ?_)); exact HP4.out)) Try.underlying37 rfl (by kernel_rfl)) rfl ?_
    exact ⟨_, _, rfl, Kd.R_lower (Kd.R_mono (Kd.R_step (id K9.out) (fun k hk _ => setRow_other _ _ _ _ hk.2)) (fun k hk => hk.1)) (Nat.le_of_lt HS.out), Kd.R_lower (Kd.R_mono (Kd.R_step (id K10.out) (fun k hk _ => setRow_other _ _ _ _ hk.2)) (fun k hk => hk.1)) (Nat.le_of_lt HS.out), below_row (by repeat (first | (with_reducible first | exact HB4.out | apply pw_below_drewN | apply below_drew1) | exact HB4.out)) (Nat.le_refl _)⟩
  rw [if_neg d1] at hx
  have d1b : (q6 == 6) = false := beq_eq_false_iff_ne.2 d1
  clear d1
  by_cases d2 : q6 = 1
  · rw [if_pos d2] at hx
    have d2b : (q6 == 1) = true := beq_iff_eq.2 d2
    clear d2
    have HX := Aside0.mk hx
    clear hx
    go_upto_region 14 with (fail)
    refine frame_Read.r14 (by (with_reducible repeat (first | refine blk_drewN ?_ _ | refine blk_drew ?_)); exact HV.out) ?_
    intro y35 y36 y37 y38
    obtain ⟨g, hg⟩ : ∃ g, g = W2.heap.size := ⟨_, rfl⟩
    have HG0 := Aside0.mk hg
    have HG := Aside0.mk (heap_alloc_new W2 (.cells #[.int .i64 q0, .int .i64 q1, .bool q2, .bool false, .int .i64 q4, .int .i64 q5, .int .i64 q6, .int .u32 q7, .int .u32 q8, .slice A9 q9.length c9, .slice A10 q10.length c10, .int .i64 0, .int .u32 0, .int .i64 0, .int .u32 0, .int .i64 0, .int .i64 0, .int .i64 0, .int .u32 0, .int .i64 0, .int .u32 0, .int .i64 0] 92))
    have HP3 := Aside0.mk (blk_alloc HP.out (.cells #[.int .i64 q0, .int .i64 q1, .bool q2, .bool false, .int .i64 q4, .int .i64 q5, .int .i64 q6, .int .u32 q7, .int .u32 q8, .slice A9 q9.length c9, .slice A10 q10.length c10, .int .i64 0, .int .u32 0, .int .i64 0, .int .u32 0, .int .i64 0, .int .i64 0, .int .i64 0, .int .u32 0, .int .i64 0, .int .u32 0, .int .i64 0] 92))
    have HB3 := Aside0.mk (below_alloc HB.out (.cells #[.int .i64 q0, .int .i64 q1, .bool q2, .bool false, .int .i64 q4, .int .i64 q5, .int .i64 q6, .int .u32 q7, .int .u32 q8, .slice A9 q9.length c9, .slice A10 q10.length c10, .int .i64 0, .int .u32 0, .int .i64 0, .int .u32 0, .int .i64 0, .int .i64 0, .int .i64 0, .int .u32 0, .int .i64 0, .int .u32 0, .int .i64 0] 92))
    have HW3 := Aside0.mk (below_alloc (Below.refl W2.heap.size W2) (.cells #[.int .i64 q0, .int .i64 q1, .bool q2, .bool false, .int .i64 q4, .int .i64 q5, .int .i64 q6, .int .u32 q7, .int .u32 q8, .slice A9 q9.length c9, .slice A10 q10.length c10, .int .i64 0, .int .u32 0, .int .i64 0, .int .u32 0, .int .i64 0, .int .i64 0, .int .i64 0, .int .u32 0, .int .i64 0, .int .u32 0, .int .i64 0] 92))
    have HRB3 := Aside0.mk (Kd.C_below HRB.out.2.2 HW3.out)
    rw [← hg] at HG HW3 ⊢
    clear hg
    generalize (W2.alloc (.cells #[.int .i64 q0, .int .i64 q1, .bool q2, .bool false, .int .i64 q4, .int .i64 q5, .int .i64 q6, .int .u32 q7, .int .u32 q8, .slice A9 q9.length c9, .slice A10 q10.length c10, .int .i64 0, .int .u32 0, .int .i64 0, .int .u32 0, .int .i64 0, .int .i64 0, .int .i64 0, .int .u32 0, .int .i64 0, .int .u32 0, .int .i64 0] 92)) = W3 at HG HP3 HB3 HW3 HRB3 ⊢
    go_upto_region 16 with ((with_reducible refine (frame_reader_icmp.run k g q0 q1 q2 false q4 q5 q6 q7 q8 q9 q10 x11 x12 x13 x14 x15 x16 x17 x18 x19 x20 x21 x22 W3 HG.out HRB3.out HRB.out.2.1 HX.out).mono ?_); rintro e w4 ⟨rfl, h4, hb4, hf4⟩)
    have HG4 := Aside0.mk h4
    have HP4 := Aside0.mk ((hf4 w.heap.size (blk_lt HP3.out) (by have := blk_lt HP.out; have := HG0.out; omega)).trans HP3.out)
    have HB4 := Aside0.mk (hb4 w (by have := blk_lt HP.out; have := HG0.out; omega) HB3.out)
    have HW4 := Aside0.mk (hb4 W2 (by have := HG0.out; omega) (by rw [HG0.out] at HW3; exact HW3.out))
    have K9 := Aside0.mk (Kd.R_below H9.out HW4.out)
    have K10 := Aside0.mk (Kd.R_below H10.out HW4.out)
    clear h4 hb4 hf4 HW3 HW4 HP HB HP3 HB3 HG HRB3 H9 H10 HV
    by_cases e1 : x22 ≠ 0
    · rw [if_pos e1] at h
      simp only [frame_Read.zero, Option.some.injEq, Prod.mk.injEq] at h
      obtain ⟨rfl, rfl, rfl, rfl, rfl, rfl, rfl, rfl, rfl, rfl, rfl, rfl, rfl, rfl, rfl, rfl, rfl, rfl, rfl, rfl, rfl, rfl, rfl⟩ := h
      have e1b0 : (x22 != 0) = true := bne_iff_ne.2 e1
      have e1b1 : (x22 == 0) = false := beq_eq_false_iff_ne.2 e1
      clear e1
      go_wp2_with (refine wpList_store_row rfl 37 (.tmp 2) (.tmp 44) rfl w.heap.size #[.int .i64 0, .int .i64 0, .bool false, .bool false, .int .i64 0, .int .i64 0, .int .i64 0, .int .u32 0, .int .u32 0, .slice none 0 0, .slice none 0 0, .int .i64 0, .int .u32 0, .int .i64 0, .int .u32 0, .int .i64 0, .int .i64 0, .int .i64 0, .int .u32 0, .int .i64 0, .int .u32 0, .int .i64 0] (by rfl) (by rfl) 37 #[.int .i64 0, .int .i64 0, .bool false, .bool false, .int .i64 0, .int .i64 0, .int .i64 0, .int .u32 0, .int .u32 0, .slice none 0 0, .slice none 0 0, .int .i64 0, .int .u32 0, .int .i64 0, .int .u32 0, .int .i64 0, .int .i64 0, .int .i64 0, .int .u32 0, .int .i64 0, .int .u32 0, .int .i64 0] (by (with_reducible repeat (first | refine blk_drewN ?_ _ | refine blk_drew ?_)); exact HP4.out) (by kernel_rfl) rfl (by kernel_rfl) ?_)
      refine bodyPost_ret (results_ct rfl _ _ w.heap.size 37 #[.int .i64 0, .int .i64 0, .bool false, .bool false, .int .i64 0, .int .i64 0, .int .i64 0, .int .u32 0, .int .u32 0, .slice none 0 0, .slice none 0 0, .int .i64 0, .int .u32 0, .int .i64 0, .int .u32 0, .int .i64 0, .int .i64 0, .int .i64 0, .int .u32 0, .int .i64 0, .int .u32 0, .int .i64 0] (0, 0) _ rfl (setRow_heap _ _ _ _ _ _ (by (with_reducible repeat (first | refine blk_drewN ?_ _ | refine blk_drew ?_)); exact HP4.out)) Try.underlying37 rfl (by kernel_rfl)) rfl ?_
      exact ⟨_, _, rfl, Kd.R_nil _ _ _ _ _, Kd.R_nil _ _ _ _ _, below_row (by repeat (first | (with_reducible first | exact HB4.out | apply pw_below_drewN | apply below_drew1) | exact HB4.out)) (Nat.le_refl _)⟩
    rw [if_neg e1] at h
    simp only [Option.some.injEq, Prod.mk.injEq] at h
    obtain ⟨rfl, rfl, rfl, rfl, rfl, rfl, rfl, rfl, rfl, rfl, rfl, rfl, rfl, rfl, rfl, rfl, rfl, rfl, rfl, rfl, rfl, rfl, rfl⟩ := h
    have e1b0 : (x22 != 0) = false := bne_eq_false_iff_eq.2 (Classical.not_not.1 e1)
    have e1b1 : (x22 == 0) = true := beq_iff_eq.2 (Classical.not_not.1 e1)
    have e1c := Classical.not_not.1 e1
    subst e1c
    clear e1
    go_wp2_with (first | (refine wpList_load_row rfl 37 (.tmp 48) rfl g rfl 92 #[.int .i64 q0, .int .i64 q1, .bool q2, .bool false, .int .i64 q4, .int .i64 q5, .int .i64 q6, .int .u32 q7, .int .u32 q8, .slice A9 q9.length c9, .slice A10 q10.length c10, .int .i64 x11, .int .u32 x12, .int .i64 x13, .int .u32 x14, .int .i64 x15, .int .i64 x16, .int .i64 x17, .int .u32 x18, .int .i64 x19, .int .u32 x20, .int .i64 x21] (0, 0) _ (by (with_reducible repeat (first | refine blk_drewN ?_ _ | refine blk_drew ?_)); exact HG4.out) Try.underlying37 rfl (by kernel_rfl) ?_) | (refine wpList_store_row rfl 37 (.tmp 2) (.tmp 49) rfl w.heap.size #[.int .i64 q0, .int .i64 q1, .bool q2, .bool false, .int .i64 q4, .int .i64 q5, .int .i64 q6, .int .u32 q7, .int .u32 q8, .slice A9 q9.length c9, .slice A10 q10.length c10, .int .i64 x11, .int .u32 x12, .int .i64 x13, .int .u32 x14, .int .i64 x15, .int .i64 x16, .int .i64 x17, .int .u32 x18, .int .i64 x19, .int .u32 x20, .int .i64 x21] (by rfl) (by rfl) 37 #[.int .i64 0, .int .i64 0, .bool false, .bool false, .int .i64 0, .int .i64 0, .int .i64 0, .int .u32 0, .int .u32 0, .slice none 0 0, .slice none 0 0, .int .i64 0, .int .u32 0, .int .i64 0, .int .u32 0, .int .i64 0, .int .i64 0, .int .i64 0, .int .u32 0, .int .i64 0, .int .u32 0, .int .i64 0] (by (with_reducible repeat (first | refine blk_drewN ?_ _ | refine blk_drew ?_)); exact HP4.out) (by kernel_rfl) rfl (by kernel_rfl) ?_))
    refine bodyPost_ret (results_ct rfl _ _ w.heap.size 37 #[.int .i64 q0, .int .i64 q1, .bool q2, .bool false, .int .i64 q4, .int .i64 q5, .int .i64 q6, .int .u32 q7, .int .u32 q8, .slice A9 q9.length c9, .slice A10 q10.length c10, .int .i64 x11, .int .u32 x12, .int .i64 x13, .int .u32 x14, .int .i64 x15, .int .i64 x16, .int .i64 x17, .int .u32 x18, .int .i64 x19, .int .u32 x20, .int .i64 x21] (0, 0) _ rfl (setRow_heap _ _ _ _ _ _ (by (with_reducible repeat (first | refine blk_drewN ?_ _ | refine blk_drew ?_)); exact HP4.out)) Try.underlying37 rfl (by kernel_rfl)) rfl ?_
    exact ⟨_, _, rfl, Kd.R_lower (Kd.R_mono (Kd.R_step (id K9.out) (fun k hk _ => setRow_other _ _ _ _ hk.2)) (fun k hk => hk.1)) (Nat.le_of_lt HS.out), Kd.R_lower (Kd.R_mono (Kd.R_step (id K10.out) (fun k hk _ => setRow_other _ _ _ _ hk.2)) (fun k hk => hk.1)) (Nat.le_of_lt HS.out), below_row (by repeat (first | (with_reducible first | exact HB4.out | apply pw_below_drewN | apply below_drew1) | exact HB4.out)) (Nat.le_refl _)⟩
  rw [if_neg d2] at hx
  have d2b : (q6 == 1) = false := beq_eq_false_iff_ne.2 d2
  clear d2
  have HX := Aside0.mk hx
  clear hx
  go_upto_region 14 with (fail)
  refine frame_Read.r14 (by (with_reducible repeat (first | refine blk_drewN ?_ _ | refine blk_drew ?_)); exact HV.out) ?_
  intro y35 y36 y37 y38
  obtain ⟨g, hg⟩ : ∃ g, g = W2.heap.size := ⟨_, rfl⟩
  have HG0 := Aside0.mk hg
  have HG := Aside0.mk (heap_alloc_new W2 (.cells #[.int .i64 q0, .int .i64 q1, .bool q2, .bool false, .int .i64 q4, .int .i64 q5, .int .i64 q6, .int .u32 q7, .int .u32 q8, .slice A9 q9.length c9, .slice A10 q10.length c10, .int .i64 0, .int .u32 0, .int .i64 0, .int .u32 0, .int .i64 0, .int .i64 0, .int .i64 0, .int .u32 0, .int .i64 0, .int .u32 0, .int .i64 0] 92))
  have HP3 := Aside0.mk (blk_alloc HP.out (.cells #[.int .i64 q0, .int .i64 q1, .bool q2, .bool false, .int .i64 q4, .int .i64 q5, .int .i64 q6, .int .u32 q7, .int .u32 q8, .slice A9 q9.length c9, .slice A10 q10.length c10, .int .i64 0, .int .u32 0, .int .i64 0, .int .u32 0, .int .i64 0, .int .i64 0, .int .i64 0, .int .u32 0, .int .i64 0, .int .u32 0, .int .i64 0] 92))
  have HB3 := Aside0.mk (below_alloc HB.out (.cells #[.int .i64 q0, .int .i64 q1, .bool q2, .bool false, .int .i64 q4, .int .i64 q5, .int .i64 q6, .int .u32 q7, .int .u32 q8, .slice A9 q9.length c9, .slice A10 q10.length c10, .int .i64 0, .int .u32 0, .int .i64 0, .int .u32 0, .int .i64 0, .int .i64 0, .int .i64 0, .int .u32 0, .int .i64 0, .int .u32 0, .int .i64 0] 92))
  have HW3 := Aside0.mk (below_alloc (Below.refl W2.heap.size W2) (.cells #[.int .i64 q0, .int .i64 q1, .bool q2, .bool false, .int .i64 q4, .int .i64 q5, .int .i64 q6, .int .u32 q7, .int .u32 q8, .slice A9 q9.length c9, .slice A10 q10.length c10, .int .i64 0, .int .u32 0, .int .i64 0, .int .u32 0, .int .i64 0, .int .i64 0, .int .i64 0, .int .u32 0, .int .i64 0, .int .u32 0, .int .i64 0] 92))
  have HRB3 := Aside0.mk (Kd.C_below HRB.out.2.2 HW3.out)
  rw [← hg] at HG HW3 ⊢
  clear hg
  generalize (W2.alloc (.cells #[.int .i64 q0, .int .i64 q1, .bool q2, .bool false, .int .i64 q4, .int .i64 q5, .int .i64 q6, .int .u32 q7, .int .u32 q8, .slice A9 q9.length c9, .slice A10 q10.length c10, .int .i64 0, .int .u32 0, .int .i64 0, .int .u32 0, .int .i64 0, .int .i64 0, .int .i64 0, .int .u32 0, .int .i64 0, .int .u32 0, .int .i64 0] 92)) = W3 at HG HP3 HB3 HW3 HRB3 ⊢
  go_upto_region 16 with ((with_reducible refine (frame_reader_other.run k g q0 q1 q2 false q4 q5 q6 q7 q8 q9 q10 x11 x12 x13 x14 x15 x16 x17 x18 x19 x20 x21 x22 W3 HG.out HRB3.out HRB.out.2.1 HX.out).mono ?_); rintro e w4 ⟨rfl, h4, hb4, hf4⟩)
  have HG4 := Aside0.mk h4
  have HP4 := Aside0.mk ((hf4 w.heap.size (blk_lt HP3.out) (by have := blk_lt HP.out; have := HG0.out; omega)).trans HP3.out)
  have HB4 := Aside0.mk (hb4 w (by have := blk_lt HP.out; have := HG0.out; omega) HB3.out)
  have HW4 := Aside0.mk (hb4 W2 (by have := HG0.out; omega) (by rw [HG0.out] at HW3; exact HW3.out))
  have K9 := Aside0.mk (Kd.R_below H9.out HW4.out)
  have K10 := Aside0.mk (Kd.R_below H10.out HW4.out)
  clear h4 hb4 hf4 HW3 HW4 HP HB HP3 HB3 HG HRB3 H9 H10 HV
  by_cases e1 : x22 ≠ 0
  · rw [if_pos e1] at h
    simp only [frame_Read.zero, Option.some.injEq, Prod.mk.injEq] at h
    obtain ⟨rfl, rfl, rfl, rfl, rfl, rfl, rfl, rfl, rfl, rfl, rfl, rfl, rfl, rfl, rfl, rfl, rfl, rfl, rfl, rfl, rfl, rfl, rfl⟩ := h
    have e1b0 : (x22 != 0) = true := bne_iff_ne.2 e1
    have e1b1 : (x22 == 0) = false := beq_eq_false_iff_ne.2 e1
    clear e1
    go_wp2_with (refine wpList_store_row rfl 37 (.tmp 2) (.tmp 44) rfl w.heap.size #[.int .i64 0, .int .i64 0, .bool false, .bool false, .int .i64 0, .int .i64 0, .int .i64 0, .int .u32 0, .int .u32 0, .slice none 0 0, .slice none 0 0, .int .i64 0, .int .u32 0, .int .i64 0, .int .u32 0, .int .i64 0, .int .i64 0, .int .i64 0, .int .u32 0, .int .i64 0, .int .u32 0, .int .i64 0] (by rfl) (by rfl) 37 #[.int .i64 0, .int .i64 0, .bool false, .bool false, .int .i64 0, .int .i64 0, .int .i64 0, .int .u32 0, .int .u32 0, .slice none 0 0, .slice none 0 0, .int .i64 0, .int .u32 0, .int .i64 0, .int .u32 0, .int .i64 0, .int .i64 0, .int .i64 0, .int .u32 0, .int .i64 0, .int .u32 0, .int .i64 0] (by (with_reducible repeat (first | refine blk_drewN ?_ _ | refine blk_drew ?_)); exact HP4.out) (by kernel_rfl) rfl (by kernel_rfl) ?_)
    refine bodyPost_ret (results_ct rfl _ _ w.heap.size 37 #[.int .i64 0, .int .i64 0, .bool false, .bool false, .int .i64 0, .int .i64 0, .int .i64 0, .int .u32 0, .int .u32 0, .slice none 0 0, .slice none 0 0, .int .i64 0, .int .u32 0, .int .i64 0, .int .u32 0, .int .i64 0, .int .i64 0, .int .i64 0, .int .u32 0, .int .i64 0, .int .u32 0, .int .i64 0] (0, 0) _ rfl (setRow_heap _ _ _ _ _ _ (by (with_reducible repeat (first | refine blk_drewN ?_ _ | refine blk_drew ?_)); exact HP4.out)) Try.underlying37 rfl (by kernel_rfl)) rfl ?_
    exact ⟨_, _, rfl, Kd.R_nil _ _ _ _ _, Kd.R_nil _ _ _ _ _, below_row (by repeat (first | (with_reducible first | exact HB4.out | apply pw_below_drewN | apply below_drew1) | exact HB4.out)) (Nat.le_refl _)⟩
  rw [if_neg e1] at h
  simp only [Option.some.injEq, Prod.mk.injEq] at h
  obtain ⟨rfl, rfl, rfl, rfl, rfl, rfl, rfl, rfl, rfl, rfl, rfl, rfl, rfl, rfl, rfl, rfl, rfl, rfl, rfl, rfl, rfl, rfl, rfl⟩ := h
  have e1b0 : (x22 != 0) = false := bne_eq_false_iff_eq.2 (Classical.not_not.1 e1)
  have e1b1 : (x22 == 0) = true := beq_iff_eq.2 (Classical.not_not.1 e1)
  have e1c := Classical.not_not.1 e1
  subst e1c
  clear e1
  go_wp2_with (first | (refine wpList_load_row rfl 37 (.tmp 48) rfl g rfl 92 #[.int .i64 q0, .int .i64 q1, .bool q2, .bool false, .int .i64 q4, .int .i64 q5, .int .i64 q6, .int .u32 q7, .int .u32 q8, .slice A9 q9.length c9, .slice A10 q10.length c10, .int .i64 x11, .int .u32 x12, .int .i64 x13, .int .u32 x14, .int .i64 x15, .int .i64 x16, .int .i64 x17, .int .u32 x18, .int .i64 x19, .int .u32 x20, .int .i64 x21] (0, 0) _ (by (with_reducible repeat (first | refine blk_drewN ?_ _ | refine blk_drew ?_)); exact HG4.out) Try.underlying37 rfl (by kernel_rfl) ?_) | (refine wpList_store_row rfl 37 (.tmp 2) (.tmp 49) rfl w.heap.size #[.int .i64 q0, .int .i64 q1, .bool q2, .bool false, .int .i64 q4, .int .i64 q5, .int .i64 q6, .int .u32 q7, .int .u32 q8, .slice A9 q9.length c9, .slice A10 q10.length c10, .int .i64 x11, .int .u32 x12, .int .i64 x13, .int .u32 x14, .int .i64 x15, .int .i64 x16, .int .i64 x17, .int .u32 x18, .int .i64 x19, .int .u32 x20, .int .i64 x21] (by rfl) (by rfl) 37 #[.int .i64 0, .int .i64 0, .bool false, .bool false, .int .i64 0, .int .i64 0, .int .i64 0, .int .u32 0, .int .u32 0, .slice none 0 0, .slice none 0 0, .int .i64 0, .int .u32 0, .int .i64 0, .int .u32 0, .int .i64 0, .int .i64 0, .int .i64 0, .int .u32 0, .int .i64 0, .int .u32 0, .int .i64 0] (by (with_reducible repeat (first | refine blk_drewN ?_ _ | refine blk_drew ?_)); exact HP4.out) (by kernel_rfl) rfl (by kernel_rfl) ?_))
  refine bodyPost_ret (results_ct rfl _ _ w.heap.size 37 #[.int .i64 q0, .int .i64 q1, .bool q2, .bool false, .int .i64 q4, .int .i64 q5, .int .i64 q6, .int .u32 q7, .int .u32 q8, .slice A9 q9.length c9, .slice A10 q10.length c10, .int .i64 x11, .int .u32 x12, .int .i64 x13, .int .u32 x14, .int .i64 x15, .int .i64 x16, .int .i64 x17, .int .u32 x18, .int .i64 x19, .int .u32 x20, .int .i64 x21] (0, 0) _ rfl (setRow_heap _ _ _ _ _ _ (by (with_reducible repeat (first | refine blk_drewN ?_ _ | refine blk_drew ?_)); exact HP4.out)) Try.underlying37 rfl (by kernel_rfl)) rfl ?_
  exact ⟨_, _, rfl, Kd.R_lower (Kd.R_mono (Kd.R_step (id K9.out) (fun k hk _ => setRow_other _ _ _ _ hk.2)) (fun k hk => hk.1)) (Nat.le_of_lt HS.out), Kd.R_lower (Kd.R_mono (Kd.R_step (id K10.out) (fun k hk _ => setRow_other _ _ _ _ hk.2)) (fun k hk => hk.1)) (Nat.le_of_lt HS.out), below_row (by repeat (first | (with_reducible first | exact HB4.out | apply pw_below_drewN | apply below_drew1) | exact HB4.out)) (Nat.le_refl _)⟩
theorem frame_reader_udp.mono (k : Nat) (src dst : Int) (l : List Int) : LeO (frame_reader_udp.f k src dst l) (frame_reader_udp.f (k + 1) src dst l) := by
  unfold frame_reader_udp.f
  exact LeO.bind (udp_Parse.mono _ _ _ _) (fun _ => LeO.refl _)
theorem frame_Read.part_mono (k : Nat) (proto src dst : Int) (l : List Int) : LeO (frame_Read.part k proto src dst l) (frame_Read.part (k + 1) proto src dst l) := by
  unfold frame_Read.part
  exact LeO.ite (frame_reader_udp.mono _ _ _ _) (LeO.refl _)
theorem frame_Read.mono : ∀ l0 k, LeO (frame_Read.f k l0) (frame_Read.f (k + 1) l0) := by
  intro l0 k
  unfold frame_Read.f
  refine LeO.bind (LeO.refl _) (fun p => ?_)
  obtain ⟨q0, q1, q2, q3, q4, q5, q6, q7, q8, q9, q10, q11⟩ := p
  exact LeO.ite (LeO.refl _) (LeO.ite (LeO.refl _) (LeO.ite (LeO.refl _) (LeO.bind (frame_Read.part_mono _ _ _ _ _) (fun _ => LeO.refl _))))

end Go.Proofs.Ytljnnhloinbjhaa.P
