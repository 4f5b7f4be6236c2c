-- Laid by a program (wip/tools/myprint.py) out of the translation. Not trusted: Lean checks it.
import Derived.Test.YtljnnhloinbjhaaP0
import Derived.Test.YtljnnhloinbjhaaPoctet
import Derived.Test.YtljnnhloinbjhaaPudp
import Derived.Test.YtljnnhloinbjhaaPureWTcp
namespace Go.Proofs.Ytljnnhloinbjhaa.P
open Go.RowKit Go.Proofs.YtljnnhloinbjhaaW.PrintWords Go.Proofs.YtljnnhloinbjhaaW.PrintLast
set_option linter.unusedVariables false
set_option linter.unusedSimpArgs false

/-! ### tcp_get: function 137 -/
def tcp_get.f (l0 : List Int) (a1 : Int) (a2 : Int) : Option (Int) := (octet_Get.f l0 a1 a2).bind fun bt136 => (some (wrap64 (bt136.1)))
set_option maxHeartbeats 8000000 in
set_option maxRecDepth 100000 in
theorem tcp_get.calls (A0 : Option Addr) (c0 : Nat) (l0 : List Int) (a1 : Int) (a2 : Int) (r : Int) (w : World) (hr0 : Kd.C (Kd.int .u8) w A0 l0.length l0) (hc0 : l0.length ≤ c0) (h : tcp_get.f l0 a1 a2 = some r) :
    Calls Try.prog 137 #[.slice A0 l0.length c0, .int .i64 a1, .int .i64 a2] w fun e w' => e = .returned (.int .i64 r) ∧ Drawn0 w w' := by
  have HR0 := Aside0.mk hr0
  have HC0 := Aside0.mk hc0
  clear hr0 hc0
  have H : ((octet_Get.f l0 a1 a2).bind fun bt136 => (some (wrap64 (bt136.1)))) = some r := h
  clear h
  replace H := Option.bind_eq_some_iff.mp H
  obtain ⟨⟨t136, t137⟩, A40, H⟩ := H
  replace H : (some (wrap64 (t136))) = some r := H
  have A4 := Aside0.mk A40
  clear A40
  obtain rfl := Option.some.inj H
  go_enter Try.func137, Try.ntmps137
  go_wp2_with (first | ((with_reducible refine gate_callee (f := 73) rfl ?_); refine goesL_ (some 13) rfl rfl Try.func73 (by kernel_rfl) rfl #[.slice A0 l0.length c0, .int .i64 a1, .int .i64 a2] rfl (by (try simp only [List.map_toArray, List.map_cons, List.map_nil]); first | done | rfl | (simp only [List.length_drop, List.length_take]; rfl)) ?_; (with_reducible refine (octet_Get.calls _ _ l0 a1 a2 t136 t137 _ ?side1 ?side2 A4.out).mono ?_); (case side1 => repeat (first | exact HR0.out | (with_reducible refine Kd.C_alloc ?_ _) | (with_reducible refine Kd.C_drewN ?_ _) | (with_reducible refine Kd.C_drew ?_))); (case side2 => exact HC0.out); rintro e w' ⟨rfl, ⟨nd, rfl⟩⟩; refine ⟨_, rfl, ?_⟩))
  go_ret
  exact ⟨by first | rfl | (simp; done) | (simp [*]; done), by repeat (first | exact Drawn0.refl _ | apply Drawn0.step)⟩

/-! ### tcp_Parse: function 110, by hand -/
set_option maxHeartbeats 8000000 in
set_option maxRecDepth 100000 in
theorem tcp_Parse.r10 {s0 s1 s3 s4 s5 s7 s9 s10 s11 s12 s13 s14 s15 s16 s17 s18 s19 s20 s21 s22 s23 s24 s25 s26 s27 s28 s29 s30 s31 s32 s33 s34 s35 s36 s37 s38 s39 s40 s41 s42 s43 s44 s45 s46 s47 s48 s49 s50 s51 s52 s53 s54 s55 s56 s57 s58 s59 s60 s61 s62 s63 s64 s65 s66 s67 s68 s69 s70 s71 s72 s73 s74 s75 s76 s77 s78 s79 s80 s81 s82 s83 s84 s85 s86 s87 s88 s89 s90 : Value} {g6 : Nat} {hd : Int} {A : Option Addr} {c : Nat} {l : List Int} {cs : Array Value} {w0 w : World} {Q : Exit → Act → World → Prop} (x0 x1 x2 x3 x5 x6 : Int)
    (hg : w.heap[g6]? = some (.cells cs 96 (0, 0))) (hr : Kd.C (Kd.int .u8) w0 A l.length l) (hc : l.length ≤ c) (hb : Below w0.heap.size w0 w)
    (hl : l.length ≤ 1000000) (h20 : 20 ≤ hd) (hhd : hd ≤ l.length)
    (e0 : tcp_get.f l 0 2 = some x0) (e1 : tcp_get.f l 2 2 = some x1) (e2 : tcp_get.f l 4 4 = some x2) (e3 : tcp_get.f l 8 4 = some x3) (e5 : tcp_get.f l 14 2 = some x5) (e6 : tcp_get.f l 18 2 = some x6)
    (hQ : ∀ y51 y52 y53 y54 y55 y56 y57 y58 y59 y60 y61 y62 y63 y64 y65 y66 y67 y68 y69 y70 y71 y72 y73 v7 v8 g9 w', g9 ≠ g6 → w0.heap.size ≤ g9 → w'.heap[g6]? = some (.cells cs 96 (0, 0)) → w'.heap[g9]? = some (.cells #[.int .i64 x0, .int .i64 x1, .int .u32 (IntKind.u32.wrap x2), .int .u32 (IntKind.u32.wrap x3), .int .i64 0, .int .i64 x5, .int .i64 x6, v7, v8] 96 (0, 0)) →
      Kd.R (Kd.int .u8) 5 w' w0.heap.size (fun _ => True) v7 ((l.take hd.toNat).drop 20) → Kd.R (Kd.int .u8) 5 w' w0.heap.size (fun _ => True) v8 (l.drop hd.toNat) → (∀ k, v7.ownBlock = some k → v8.ownBlock ≠ some k) → Below w0.heap.size w0 w' → Q .normal ⟨#[s0, s1, .slice A l.length c, s3, s4, s5, .pointer (some ⟨g6, 0, none⟩), s7, .int .i64 hd, .pointer (some ⟨g9, 0, none⟩), s10, s11, s12, s13, s14, s15, s16, s17, s18, s19, s20, s21, s22, s23, s24, s25, s26, s27, s28, s29, s30, s31, s32, s33, s34, s35, s36, s37, s38, s39, s40, s41, s42, s43, s44, s45, s46, s47, s48, s49, s50, y51, y52, y53, y54, y55, y56, y57, y58, y59, y60, y61, y62, y63, y64, y65, y66, y67, y68, y69, y70, y71, y72, y73, s74, s75, s76, s77, s78, s79, s80, s81, s82, s83, s84, s85, s86, s87, s88, s89, s90], []⟩ w') :
    (regionIn 10 Try.f110).wp Try.prog Q ⟨#[s0, s1, .slice A l.length c, s3, s4, s5, .pointer (some ⟨g6, 0, none⟩), s7, .int .i64 hd, s9, s10, s11, s12, s13, s14, s15, s16, s17, s18, s19, s20, s21, s22, s23, s24, s25, s26, s27, s28, s29, s30, s31, s32, s33, s34, s35, s36, s37, s38, s39, s40, s41, s42, s43, s44, s45, s46, s47, s48, s49, s50, s51, s52, s53, s54, s55, s56, s57, s58, s59, s60, s61, s62, s63, s64, s65, s66, s67, s68, s69, s70, s71, s72, s73, s74, s75, s76, s77, s78, s79, s80, s81, s82, s83, s84, s85, s86, s87, s88, s89, s90], []⟩ w := by
  conv => arg 2; whnf
  have hu := Try.underlying96
  have HP := Aside0.mk hg
  have HR := Aside0.mk hr
  have HC := Aside0.mk hc
  have HB := Aside0.mk hb
  have HL := Aside0.mk hl
  have HQ := Aside0.mk hQ
  have HH := Aside0.mk (show (20 : Int) ≤ hd ∧ hd ≤ l.length from ⟨h20, hhd⟩)
  obtain ⟨iz, hin, hz, hsz, hbb⟩ := info_parts info5
  have m1 := cut_mid (P := Try.prog) 23 5 .i64 .i64 Try.underlying23 hin 1 hsz A l.length c 20 hd (by decide) h20 hhd hc
  have m2 := cut_from (P := Try.prog) 23 5 .i64 Try.underlying23 hin 1 hsz A l.length c hd (by omega) hhd
  have c1 := Kd.C_mid (lo := 20) (hi := hd.toNat) hr (by omega) (by omega) hc
  have c2 := Kd.C_drop (m := hd.toNat) hr (by omega) hc
  obtain ⟨ys7, hy7⟩ : ∃ y, y = (l.take hd.toNat).drop 20 := ⟨_, rfl⟩
  obtain ⟨ys8, hy8⟩ : ∃ y, y = l.drop hd.toNat := ⟨_, rfl⟩
  have k7 : hd.toNat - 20 = ys7.length := by rw [hy7]; simp; omega
  have k8 : l.length - hd.toNat = ys8.length := by rw [hy8]; simp
  obtain ⟨A7, hA7⟩ : ∃ y, y = (if c = (20 : Int).toNat then A else A.map (·.add ((20 : Int).toNat * 1))) := ⟨_, rfl⟩
  obtain ⟨A8, hA8⟩ : ∃ y, y = (if c = hd.toNat then A else A.map (·.add (hd.toNat * 1))) := ⟨_, rfl⟩
  rw [← hA7, show (20 : Int).toNat = 20 from rfl, k7] at m1
  rw [← hA8, k8] at m2
  have HR7 : Aside0 (Kd.C (Kd.int .u8) w0 A7 ys7.length ys7) := ⟨by rw [hA7, hy7]; exact c1⟩
  have HR8 : Aside0 (Kd.C (Kd.int .u8) w0 A8 ys8.length ys8) := ⟨by rw [hA8, hy8]; exact c2⟩
  have HK : Aside0 (ys7.length ≤ 1000000 ∧ ys8.length ≤ 1000000) := ⟨by omega⟩
  have HY7 := Aside0.mk hy7
  have HY8 := Aside0.mk hy8
  have E0 := Aside0.mk e0
  have E1 := Aside0.mk e1
  have E2 := Aside0.mk e2
  have E3 := Aside0.mk e3
  have E5 := Aside0.mk e5
  have E6 := Aside0.mk e6
  clear hg hr hc hb hl hQ h20 hhd hin hsz hbb hz c1 c2 hy7 hy8 k7 k8 hA7 hA8 e0 e1 e2 e3 e5 e6
  refine wp_region_noPanic ?_
  go_region_law
    (first
      | (refine goes_ (f := 137) Try.func137 (by kernel_rfl) rfl #[.slice A l.length c, .int .i64 0, .int .i64 2] (by rfl) rfl rfl ?ha ?_
         (case ha => first | rfl | (go_simp; done) | (simp [Act.eval]; done))
         refine (tcp_get.calls A c l 0 2 x0 _ (Kd.C_below HR.out (by first | exact below_drew (HB.out) | exact below_drew (below_alloc HB.out _))) HC.out E0.out).mono ?_
         rintro e w1 ⟨rfl, hd1⟩
         refine ⟨_, rfl, ?_⟩
         have hb1 := hd1.below
         clear hd1
         have n1 := Aside0.mk (by first | exact blk_below (blk_drew (HP.out)) hb1 | exact blk_below (blk_drew (blk_alloc HP.out _)) hb1 : w1.heap[g6]? = some (.cells cs 96 (0, 0)))
         have n2 := Aside0.mk (by first | exact below_step (below_drew (HB.out)) hb1 | exact below_step (below_drew (below_alloc HB.out _)) hb1 : Below w0.heap.size w0 w1)
         (first | (have n3 := Aside0.mk (blk_below (HA.out) hb1); clear HA; have HA := n3; clear n3) | (have HA := Aside0.mk (blk_below (blk_drew (heap_alloc_new w (.cells #[.int .i64 0, .int .i64 0, .int .u32 0, .int .u32 0, .int .i64 0, .int .i64 0, .int .i64 0, .slice none 0 0, .slice none 0 0] 96))) hb1); have HGE := Aside0.mk (below_size HB.out); have HNE := Aside0.mk (Nat.ne_of_gt (blk_lt HP.out))) | skip)
         clear HP HB
         have HP := n1
         have HB := n2
         clear n1 n2
         clear hb1)
      | (refine goes_ (f := 137) Try.func137 (by kernel_rfl) rfl #[.slice A l.length c, .int .i64 2, .int .i64 2] (by rfl) rfl rfl ?ha ?_
         (case ha => first | rfl | (go_simp; done) | (simp [Act.eval]; done))
         refine (tcp_get.calls A c l 2 2 x1 _ (Kd.C_below HR.out (by first | exact HB.out | exact below_alloc HB.out _)) HC.out E1.out).mono ?_
         rintro e w2 ⟨rfl, hd1⟩
         refine ⟨_, rfl, ?_⟩
         have hb1 := hd1.below
         clear hd1
         have n1 := Aside0.mk (by first | exact blk_below (HP.out) hb1 | exact blk_below (blk_alloc HP.out _) hb1 : w2.heap[g6]? = some (.cells cs 96 (0, 0)))
         have n2 := Aside0.mk (by first | exact below_step (HB.out) hb1 | exact below_step (below_alloc HB.out _) hb1 : Below w0.heap.size w0 w2)
         (first | (have n3 := Aside0.mk (blk_below (HA.out) hb1); clear HA; have HA := n3; clear n3) | (have HA := Aside0.mk (blk_below (heap_alloc_new w1 (.cells #[.int .i64 0, .int .i64 0, .int .u32 0, .int .u32 0, .int .i64 0, .int .i64 0, .int .i64 0, .slice none 0 0, .slice none 0 0] 96)) hb1); have HGE := Aside0.mk (below_size HB.out); have HNE := Aside0.mk (Nat.ne_of_gt (blk_lt HP.out))) | skip)
         clear HP HB
         have HP := n1
         have HB := n2
         clear n1 n2
         clear hb1)
      | (refine goes_ (f := 137) Try.func137 (by kernel_rfl) rfl #[.slice A l.length c, .int .i64 4, .int .i64 4] (by rfl) rfl rfl ?ha ?_
         (case ha => first | rfl | (go_simp; done) | (simp [Act.eval]; done))
         refine (tcp_get.calls A c l 4 4 x2 _ (Kd.C_below HR.out (by first | exact HB.out | exact below_alloc HB.out _)) HC.out E2.out).mono ?_
         rintro e w3 ⟨rfl, hd1⟩
         refine ⟨_, rfl, ?_⟩
         have hb1 := hd1.below
         clear hd1
         have n1 := Aside0.mk (by first | exact blk_below (HP.out) hb1 | exact blk_below (blk_alloc HP.out _) hb1 : w3.heap[g6]? = some (.cells cs 96 (0, 0)))
         have n2 := Aside0.mk (by first | exact below_step (HB.out) hb1 | exact below_step (below_alloc HB.out _) hb1 : Below w0.heap.size w0 w3)
         (first | (have n3 := Aside0.mk (blk_below (HA.out) hb1); clear HA; have HA := n3; clear n3) | (have HA := Aside0.mk (blk_below (heap_alloc_new w2 (.cells #[.int .i64 0, .int .i64 0, .int .u32 0, .int .u32 0, .int .i64 0, .int .i64 0, .int .i64 0, .slice none 0 0, .slice none 0 0] 96)) hb1); have HGE := Aside0.mk (below_size HB.out); have HNE := Aside0.mk (Nat.ne_of_gt (blk_lt HP.out))) | skip)
         clear HP HB
         have HP := n1
         have HB := n2
         clear n1 n2
         clear hb1)
      | (refine goes_ (f := 137) Try.func137 (by kernel_rfl) rfl #[.slice A l.length c, .int .i64 8, .int .i64 4] (by rfl) rfl rfl ?ha ?_
         (case ha => first | rfl | (go_simp; done) | (simp [Act.eval]; done))
         refine (tcp_get.calls A c l 8 4 x3 _ (Kd.C_below HR.out (by first | exact HB.out | exact below_alloc HB.out _)) HC.out E3.out).mono ?_
         rintro e w4 ⟨rfl, hd1⟩
         refine ⟨_, rfl, ?_⟩
         have hb1 := hd1.below
         clear hd1
         have n1 := Aside0.mk (by first | exact blk_below (HP.out) hb1 | exact blk_below (blk_alloc HP.out _) hb1 : w4.heap[g6]? = some (.cells cs 96 (0, 0)))
         have n2 := Aside0.mk (by first | exact below_step (HB.out) hb1 | exact below_step (below_alloc HB.out _) hb1 : Below w0.heap.size w0 w4)
         (first | (have n3 := Aside0.mk (blk_below (HA.out) hb1); clear HA; have HA := n3; clear n3) | (have HA := Aside0.mk (blk_below (heap_alloc_new w3 (.cells #[.int .i64 0, .int .i64 0, .int .u32 0, .int .u32 0, .int .i64 0, .int .i64 0, .int .i64 0, .slice none 0 0, .slice none 0 0] 96)) hb1); have HGE := Aside0.mk (below_size HB.out); have HNE := Aside0.mk (Nat.ne_of_gt (blk_lt HP.out))) | skip)
         clear HP HB
         have HP := n1
         have HB := n2
         clear n1 n2
         clear hb1)
      | (refine goes_ (f := 137) Try.func137 (by kernel_rfl) rfl #[.slice A l.length c, .int .i64 14, .int .i64 2] (by rfl) rfl rfl ?ha ?_
         (case ha => first | rfl | (go_simp; done) | (simp [Act.eval]; done))
         refine (tcp_get.calls A c l 14 2 x5 _ (Kd.C_below HR.out (by first | exact HB.out | exact below_alloc HB.out _)) HC.out E5.out).mono ?_
         rintro e w5 ⟨rfl, hd1⟩
         refine ⟨_, rfl, ?_⟩
         have hb1 := hd1.below
         clear hd1
         have n1 := Aside0.mk (by first | exact blk_below (HP.out) hb1 | exact blk_below (blk_alloc HP.out _) hb1 : w5.heap[g6]? = some (.cells cs 96 (0, 0)))
         have n2 := Aside0.mk (by first | exact below_step (HB.out) hb1 | exact below_step (below_alloc HB.out _) hb1 : Below w0.heap.size w0 w5)
         (first | (have n3 := Aside0.mk (blk_below (HA.out) hb1); clear HA; have HA := n3; clear n3) | (have HA := Aside0.mk (blk_below (heap_alloc_new w4 (.cells #[.int .i64 0, .int .i64 0, .int .u32 0, .int .u32 0, .int .i64 0, .int .i64 0, .int .i64 0, .slice none 0 0, .slice none 0 0] 96)) hb1); have HGE := Aside0.mk (below_size HB.out); have HNE := Aside0.mk (Nat.ne_of_gt (blk_lt HP.out))) | skip)
         clear HP HB
         have HP := n1
         have HB := n2
         clear n1 n2
         clear hb1)
      | (refine goes_ (f := 137) Try.func137 (by kernel_rfl) rfl #[.slice A l.length c, .int .i64 18, .int .i64 2] (by rfl) rfl rfl ?ha ?_
         (case ha => first | rfl | (go_simp; done) | (simp [Act.eval]; done))
         refine (tcp_get.calls A c l 18 2 x6 _ (Kd.C_below HR.out (by first | exact HB.out | exact below_alloc HB.out _)) HC.out E6.out).mono ?_
         rintro e w6 ⟨rfl, hd1⟩
         refine ⟨_, rfl, ?_⟩
         have hb1 := hd1.below
         clear hd1
         have n1 := Aside0.mk (by first | exact blk_below (HP.out) hb1 | exact blk_below (blk_alloc HP.out _) hb1 : w6.heap[g6]? = some (.cells cs 96 (0, 0)))
         have n2 := Aside0.mk (by first | exact below_step (HB.out) hb1 | exact below_step (below_alloc HB.out _) hb1 : Below w0.heap.size w0 w6)
         (first | (have n3 := Aside0.mk (blk_below (HA.out) hb1); clear HA; have HA := n3; clear n3) | (have HA := Aside0.mk (blk_below (heap_alloc_new w5 (.cells #[.int .i64 0, .int .i64 0, .int .u32 0, .int .u32 0, .int .i64 0, .int .i64 0, .int .i64 0, .slice none 0 0, .slice none 0 0] 96)) hb1); have HGE := Aside0.mk (below_size HB.out); have HNE := Aside0.mk (Nat.ne_of_gt (blk_lt HP.out))) | skip)
         clear HP HB
         have HP := n1
         have HB := n2
         clear n1 n2
         clear hb1)
      | (refine fresh_step (w0 := w0) rfl (.tmp 67) rfl (ys := ys7) (A := A7) (by rfl) (Kd.C_below HR7.out (by first | exact HB.out | exact below_alloc HB.out _)) (by first | exact HB.out | exact below_alloc HB.out _) (by have := HK.out.1; omega) ?_
         intro v7 w7 ho1 hb1 hn1
         obtain ⟨Vv7, Cv7, rfl⟩ := Kd.R_slice ho1
         have n1 := Aside0.mk (by first | exact blk_below (HP.out) hb1 | exact blk_below (blk_alloc HP.out _) hb1 : w7.heap[g6]? = some (.cells cs 96 (0, 0)))
         have n2 := Aside0.mk (by first | exact below_step (HB.out) hb1 | exact below_step (below_alloc HB.out _) hb1 : Below w0.heap.size w0 w7)
         (first | (have n3 := Aside0.mk (blk_below (HA.out) hb1); clear HA; have HA := n3; clear n3) | (have HA := Aside0.mk (blk_below (heap_alloc_new w6 (.cells #[.int .i64 0, .int .i64 0, .int .u32 0, .int .u32 0, .int .i64 0, .int .i64 0, .int .i64 0, .slice none 0 0, .slice none 0 0] 96)) hb1); have HGE := Aside0.mk (below_size HB.out); have HNE := Aside0.mk (Nat.ne_of_gt (blk_lt HP.out))) | skip)
         clear HP HB
         have HP := n1
         have HB := n2
         clear n1 n2
         have HOv7 := Aside0.mk ho1
         have HNv7 := Aside0.mk hn1
         clear hb1 ho1 hn1)
      | (refine fresh_step (w0 := w0) rfl (.tmp 71) rfl (ys := ys8) (A := A8) (by rfl) (Kd.C_below HR8.out (by first | exact HB.out | exact below_alloc HB.out _)) (by first | exact HB.out | exact below_alloc HB.out _) (by have := HK.out.2; omega) ?_
         intro v8 w8 ho1 hb1 hn1
         obtain ⟨Vv8, Cv8, rfl⟩ := Kd.R_slice ho1
         have n1 := Aside0.mk (by first | exact blk_below (HP.out) hb1 | exact blk_below (blk_alloc HP.out _) hb1 : w8.heap[g6]? = some (.cells cs 96 (0, 0)))
         have n2 := Aside0.mk (by first | exact below_step (HB.out) hb1 | exact below_step (below_alloc HB.out _) hb1 : Below w0.heap.size w0 w8)
         (first | (have n3 := Aside0.mk (blk_below (HA.out) hb1); clear HA; have HA := n3; clear n3) | (have HA := Aside0.mk (blk_below (heap_alloc_new w7 (.cells #[.int .i64 0, .int .i64 0, .int .u32 0, .int .u32 0, .int .i64 0, .int .i64 0, .int .i64 0, .slice none 0 0, .slice none 0 0] 96)) hb1); have HGE := Aside0.mk (below_size HB.out); have HNE := Aside0.mk (Nat.ne_of_gt (blk_lt HP.out))) | skip)
         clear HP HB
         have HP := n1
         have HB := n2
         clear n1 n2
         have HNN : Aside0 (∀ k, (Value.slice Vv7 ys7.length Cv7).ownBlock = some k → (Value.slice Vv8 ys8.length Cv8).ownBlock ≠ some k) := ⟨fun k hk hk' => by
           have q1 := own_lt (Kd.own_of_R HOv7.out) k hk
           have q2 := hn1 k hk'
           try simp only [World.alloc, Array.size_push] at q2
           omega⟩
         have n1 := Aside0.mk (Kd.R_below HOv7.out (by first | exact hb1 | exact below_step (below_alloc (Below.refl _ _) _) hb1))
         have HOv8 := Aside0.mk ho1
         have HNv8 := Aside0.mk hn1
         clear HOv7
         have HOv7 := n1
         clear n1
         (first | (have hcA0 : w8.cell? ⟨_, 0, none⟩ = some (.int .i64 0) := (blk_cell HA.out 0).trans rfl; have hfA0 : w8.frozen? ⟨_, 0, none⟩ = false := blk_frozen HA.out 0; have hcA1 : w8.cell? ⟨_, 1, none⟩ = some (.int .i64 0) := (blk_cell HA.out 1).trans rfl; have hfA1 : w8.frozen? ⟨_, 1, none⟩ = false := blk_frozen HA.out 1; have hcA2 : w8.cell? ⟨_, 2, none⟩ = some (.int .u32 0) := (blk_cell HA.out 2).trans rfl; have hfA2 : w8.frozen? ⟨_, 2, none⟩ = false := blk_frozen HA.out 2; have hcA3 : w8.cell? ⟨_, 3, none⟩ = some (.int .u32 0) := (blk_cell HA.out 3).trans rfl; have hfA3 : w8.frozen? ⟨_, 3, none⟩ = false := blk_frozen HA.out 3; have hcA4 : w8.cell? ⟨_, 4, none⟩ = some (.int .i64 0) := (blk_cell HA.out 4).trans rfl; have hfA4 : w8.frozen? ⟨_, 4, none⟩ = false := blk_frozen HA.out 4; have hcA5 : w8.cell? ⟨_, 5, none⟩ = some (.int .i64 0) := (blk_cell HA.out 5).trans rfl; have hfA5 : w8.frozen? ⟨_, 5, none⟩ = false := blk_frozen HA.out 5; have hcA6 : w8.cell? ⟨_, 6, none⟩ = some (.int .i64 0) := (blk_cell HA.out 6).trans rfl; have hfA6 : w8.frozen? ⟨_, 6, none⟩ = false := blk_frozen HA.out 6; have hcA7 : w8.cell? ⟨_, 7, none⟩ = some (.slice none 0 0) := (blk_cell HA.out 7).trans rfl; have hfA7 : w8.frozen? ⟨_, 7, none⟩ = false := blk_frozen HA.out 7; have hcA8 : w8.cell? ⟨_, 8, none⟩ = some (.slice none 0 0) := (blk_cell HA.out 8).trans rfl; have hfA8 : w8.frozen? ⟨_, 8, none⟩ = false := blk_frozen HA.out 8) | skip)
         clear hb1 ho1 hn1))
  all_goals
    first
      | (refine NoPanic.normal (HQ.out _ _ _ _ _ _ _ _ _ _ _ _ _ _ _ _ _ _ _ _ _ _ _ _ _ _ _ HNE.out HGE.out ?q1 ?q2 ?q3 ?q4 HNN.out ?q5)
         (case q1 => exact (nine_far _ (Ne.symm HNE.out)).trans HP.out)
         (case q2 => exact nine_set HA.out)
         (case q3 => rw [← HY7.out]; exact Kd.R_mono (Kd.R_step (Kd.R_types HOv7.out HA.out (by decide)) (fun k hk _ => nine_far _ hk.2)) (fun _ hk => hk.1))
         (case q4 => rw [← HY8.out]; exact Kd.R_mono (Kd.R_step (Kd.R_types HOv8.out HA.out (by decide)) (fun k hk _ => nine_far _ hk.2)) (fun _ hk => hk.1))
         (case q5 => exact below_set (below_set (below_set (below_set (below_set (below_set (below_set (below_set (below_set HB.out HGE.out) HGE.out) HGE.out) HGE.out) HGE.out) HGE.out) HGE.out) HGE.out) HGE.out))
      | (refine NoPanic.normal (HQ.out _ _ _ _ _ _ _ _ _ _ _ _ _ _ _ _ _ _ _ _ _ _ _ _ _ _ _ ?q0 ?q6 ?q1 ?q2 ?q3 ?q4 HNN.out ?q5)
         (case q0 => exact Nat.ne_of_gt (blk_lt HP.out))
         (case q6 => exact below_size HB.out)
         (case q1 => exact blk_alloc HP.out _)
         (case q2 => exact heap_alloc_new _ _)
         (case q3 => rw [← HY7.out]; exact Kd.R_alloc HOv7.out _)
         (case q4 => rw [← HY8.out]; exact Kd.R_alloc HOv8.out _)
         (case q5 => exact below_alloc HB.out _))
def tcp_Parse.zero (e : Int) : Option (Int × Int × Int × Int × Int × Int × Int × List Int × List Int × Int) := some (0, 0, 0, 0, 0, 0, 0, ([] : List Int), ([] : List Int), e)
def tcp_Parse.f (a0 a1 : Int) (l : List Int) : Option (Int × Int × Int × Int × Int × Int × Int × List Int × List Int × Int) :=
  if (l.length : Int) < 20 then tcp_Parse.zero 2
  else if 1000000 < (l.length : Int) then none
  else if ¬ (0 ≤ rd l 12 ∧ rd l 12 ≤ 255 ∧ 0 ≤ rd l 13 ∧ rd l 13 ≤ 255) then none
  else if rd l 12 / 16 * 4 < 20 then tcp_Parse.zero 4
  else if rd l 12 % 16 ≠ 0 then tcp_Parse.zero 4
  else if rd l 12 / 16 * 4 > (l.length : Int) then tcp_Parse.zero 2
  else (udp_Pseudo.f 20 a0 a1 6 (l.length : Int)).bind fun ps => (octet_Sum.f [ps, l]).bind fun s => if s = 65535 then
    ((tcp_get.f l 0 2).bind fun x0 => (tcp_get.f l 2 2).bind fun x1 => (tcp_get.f l 4 4).bind fun x2 => (tcp_get.f l 8 4).bind fun x3 => (tcp_get.f l 14 2).bind fun x5 => (tcp_get.f l 18 2).bind fun x6 =>
      some (x0, x1, IntKind.u32.wrap x2, IntKind.u32.wrap x3, rd l 13, x5, x6, (l.take (rd l 12 / 16 * 4).toNat).drop 20, l.drop (rd l 12 / 16 * 4).toNat, 0)) else tcp_Parse.zero 5
theorem flag_all : ∀ (j : Fin 8) (x : Fin 256), (if (Go.bits .and .i64 (wrap64 (x.1 : Int)) (2 ^ j.1) != 0) = true then decide (Go.bits .or .i64 ((x.1 : Int) % 2 ^ j.1) (2 ^ j.1) = (x.1 : Int) % 2 ^ (j.1 + 1)) else decide ((x.1 : Int) % 2 ^ j.1 = (x.1 : Int) % 2 ^ (j.1 + 1))) = true := by decide +kernel
theorem flag_step (j : Nat) (hj : j < 8) (x : Int) (h0 : 0 ≤ x) (h1 : x ≤ 255) :
    ((Go.bits .and .i64 (wrap64 x) (2 ^ j) != 0) = true → Go.bits .or .i64 (x % 2 ^ j) (2 ^ j) = x % 2 ^ (j + 1)) ∧ ((Go.bits .and .i64 (wrap64 x) (2 ^ j) != 0) = false → x % 2 ^ j = x % 2 ^ (j + 1)) := by
  obtain ⟨n, rfl⟩ := Int.eq_ofNat_of_zero_le h0
  have := flag_all ⟨j, hj⟩ ⟨n, by omega⟩
  dsimp only at this
  constructor
  · intro h
    rw [if_pos h] at this
    exact of_decide_eq_true this
  · intro h
    rw [if_neg (by rw [h]; decide)] at this
    exact of_decide_eq_true this
theorem flag_pow : ∀ (j : Nat), j < 8 → 1 ≤ (2 : Int) ^ j ∧ (2 : Int) ^ j ≤ 128 ∧ (2 : Int) ^ j * 2 = 2 ^ (j + 1) := by decide
/-- The closure 'has': it reads what it captured. -/
theorem tcp_Parse.has (g : Nat) (bit x : Int) (w : World) (hI : w.heap[g]? = some (.cells #[.int .u8 x] 5 (0, 0))) :
    Calls Try.prog 138 #[.int .i64 bit, .pointer (some ⟨g, 0, none⟩)] w fun e w' => e = .returned (.bool ((Go.bits .and .i64 (wrap64 x) bit) != 0)) ∧ w' = w := by
  have hc0 : w.cell? ⟨g, 0, none⟩ = some (.int .u8 x) := (blk_cell hI 0).trans rfl
  clear hI
  go_enter Try.func138, Try.ntmps138
  go_wp2
  go_ret
  exact ⟨rfl, rfl⟩
set_option maxHeartbeats 8000000 in
set_option maxRecDepth 100000 in
theorem tcp_Parse.calls (a0 : Int) (a1 : Int) (A2 : Option Addr) (c2 : Nat) (l2 : List Int) (r1 : Int) (r2 : Int) (r3 : Int) (r4 : Int) (r5 : Int) (r6 : Int) (r7 : Int) (r8 : List Int) (r9 : List Int) (r10 : Int) (w : World) (hr2 : Kd.C (Kd.int .u8) w A2 l2.length l2) (hc2 : l2.length ≤ c2) (h : tcp_Parse.f a0 a1 l2 = some (r1, r2, r3, r4, r5, r6, r7, r8, r9, r10)) :
    Calls Try.prog 110 #[.int .u32 a0, .int .u32 a1, .slice A2 l2.length c2] w fun e w' => ∃ v7_ v8_ : Value, e = .returned (.tuple #[.agg #[.int .i64 r1, .int .i64 r2, .int .u32 r3, .int .u32 r4, .int .i64 r5, .int .i64 r6, .int .i64 r7, v7_, v8_], .int .i64 r10]) ∧ Kd.R (Kd.int .u8) 5 w' w.heap.size (fun k_ => some k_ ≠ (v8_ : Value).ownBlock) v7_ r8 ∧ Kd.R (Kd.int .u8) 5 w' w.heap.size (fun k_ => some k_ ≠ (v7_ : Value).ownBlock) v8_ r9 ∧ Below w.heap.size w w' := by
  have hu := Try.underlying96
  have HR := Aside0.mk hr2
  have HC := Aside0.mk hc2
  clear hr2 hc2
  unfold tcp_Parse.f at h
  by_cases c1 : (l2.length : Int) < 20
  · rw [if_pos c1] at h
    simp only [tcp_Parse.zero, Option.some.injEq, Prod.mk.injEq] at h
    obtain ⟨rfl, rfl, rfl, rfl, rfl, rfl, rfl, rfl, rfl, rfl⟩ := h
    have c1b0 : decide ((l2.length : Int) < 20) = true := decide_eq_true c1
    have c1b1 : decide (l2.length < 20) = true := decide_eq_true (by omega)
    clear c1
    go_enter Try.func110, Try.ntmps110
    go_wp2
    refine bodyPost_ret (results_ct rfl _ _ w.heap.size 96 #[.int .i64 0, .int .i64 0, .int .u32 0, .int .u32 0, .int .i64 0, .int .i64 0, .int .i64 0, .slice none 0 0, .slice none 0 0] (0, 0) _ rfl (heap_alloc_new w _) hu rfl rfl) rfl ?_
    exact ⟨_, _, rfl, Kd.R_nil _ _ _ _ _, Kd.R_nil _ _ _ _ _, below_alloc (Below.refl _ _) _⟩
  rw [if_neg c1] at h
  have c1b0 : decide ((l2.length : Int) < 20) = false := decide_eq_false c1
  have c1b1 : decide (l2.length < 20) = false := decide_eq_false (by omega)
  by_cases cl : 1000000 < (l2.length : Int)
  · rw [if_pos cl] at h; cases h
  rw [if_neg cl] at h
  by_cases cr : 0 ≤ rd l2 12 ∧ rd l2 12 ≤ 255 ∧ 0 ≤ rd l2 13 ∧ rd l2 13 ≤ 255
  case neg => rw [if_pos cr] at h; cases h
  rw [if_neg (Classical.not_not.2 cr)] at h
  have HL := Aside0.mk (show 20 ≤ l2.length ∧ l2.length ≤ 1000000 by omega)
  obtain ⟨x12, e12⟩ : ∃ x, x = rd l2 12 := ⟨_, rfl⟩
  obtain ⟨x13, e13⟩ : ∃ x, x = rd l2 13 := ⟨_, rfl⟩
  obtain ⟨ad, rfl, hx12⟩ := Kd.at_int HR.out 12 (by decide) (by omega)
  obtain ⟨ad', ea, hx13⟩ := Kd.at_int HR.out 13 (by decide) (by omega)
  injection ea with ea
  subst ea
  rw [← e12, ← e13] at cr
  rw [← e12, ← e13] at h
  rw [← e12] at hx12
  rw [← e13] at hx13
  simp only [show (12 : Int).toNat = 12 from rfl, show (13 : Int).toNat = 13 from rfl, Nat.reduceEqDiff, Go.Addr.add, ↓reduceIte] at hx12 hx13
  have ea : Go.bits .and .u8 x12 15 = x12 % 16 := by
    obtain ⟨n, rfl⟩ := Int.eq_ofNat_of_zero_le cr.1
    have : ∀ n : Fin 256, Go.bits .and .u8 (n.1 : Int) 15 = (n.1 : Int) % 16 := by decide
    exact this ⟨n, by omega⟩
  have e2 : wrap64 (x12 / 16) = x12 / 16 := by unfold wrap64; omega
  have b1 : (12 : Int) < (l2.length : Int) := by omega
  have b2 : 12 < l2.length := by omega
  have b3 : (13 : Int) < (l2.length : Int) := by omega
  have b4 : 13 < l2.length := by omega
  have hy12 : (w.alloc (.cells #[.int .i64 0, .int .i64 0, .int .u32 0, .int .u32 0, .int .i64 0, .int .i64 0, .int .i64 0, .slice none 0 0, .slice none 0 0] 96)).cell? ⟨ad.block, ad.off + 12, none⟩ = some (.int .u8 x12) := ((below_alloc (Below.refl w.heap.size w) _).cell (World.block_lt_of_cell? w _ hx12)).trans hx12
  have HX12 := Aside0.mk hx12
  have HX13 := Aside0.mk hx13
  have HCR := Aside0.mk cr
  obtain ⟨hd, ehd⟩ : ∃ x, x = x12 / 16 * 4 := ⟨_, rfl⟩
  have e1 : wrap64 (x12 / 16 * 4) = hd := by rw [ehd]; unfold wrap64; omega
  rw [← ehd] at h
  have HHD := Aside0.mk ehd
  have HE13 := Aside0.mk e13
  have HE12 := Aside0.mk e12
  clear cr e12 e13 c1 cl ehd hx13
  by_cases c2 : hd < 20
  · rw [if_pos c2] at h
    simp only [tcp_Parse.zero, Option.some.injEq, Prod.mk.injEq] at h
    obtain ⟨rfl, rfl, rfl, rfl, rfl, rfl, rfl, rfl, rfl, rfl⟩ := h
    have c2b0 : decide (hd < 20) = true := decide_eq_true c2
    clear c2
    go_enter Try.func110, Try.ntmps110
    go_wp2
    refine bodyPost_ret (results_ct rfl _ _ w.heap.size 96 #[.int .i64 0, .int .i64 0, .int .u32 0, .int .u32 0, .int .i64 0, .int .i64 0, .int .i64 0, .slice none 0 0, .slice none 0 0] (0, 0) _ rfl (heap_alloc_new w _) hu rfl rfl) rfl ?_
    exact ⟨_, _, rfl, Kd.R_nil _ _ _ _ _, Kd.R_nil _ _ _ _ _, below_alloc (Below.refl _ _) _⟩
  rw [if_neg c2] at h
  have c2b0 : decide (hd < 20) = false := decide_eq_false c2
  by_cases c3 : x12 % 16 ≠ 0
  · rw [if_pos c3] at h
    simp only [tcp_Parse.zero, Option.some.injEq, Prod.mk.injEq] at h
    obtain ⟨rfl, rfl, rfl, rfl, rfl, rfl, rfl, rfl, rfl, rfl⟩ := h
    have c3b0 : (x12 % 16 != 0) = true := bne_iff_ne.2 c3
    have c3b1 : (x12 % 16 == 0) = false := beq_eq_false_iff_ne.2 c3
    clear c3
    go_enter Try.func110, Try.ntmps110
    go_wp2
    refine bodyPost_ret (results_ct rfl _ _ w.heap.size 96 #[.int .i64 0, .int .i64 0, .int .u32 0, .int .u32 0, .int .i64 0, .int .i64 0, .int .i64 0, .slice none 0 0, .slice none 0 0] (0, 0) _ rfl (heap_alloc_new w _) hu rfl rfl) rfl ?_
    exact ⟨_, _, rfl, Kd.R_nil _ _ _ _ _, Kd.R_nil _ _ _ _ _, below_alloc (Below.refl _ _) _⟩
  rw [if_neg c3] at h
  have c3b0 : (x12 % 16 != 0) = false := bne_eq_false_iff_eq.2 (Classical.not_not.1 c3)
  have c3b1 : (x12 % 16 == 0) = true := beq_iff_eq.2 (Classical.not_not.1 c3)
  have HC2 := Aside0.mk c2
  clear c2 c3
  by_cases c4 : hd > (l2.length : Int)
  · rw [if_pos c4] at h
    simp only [tcp_Parse.zero, Option.some.injEq, Prod.mk.injEq] at h
    obtain ⟨rfl, rfl, rfl, rfl, rfl, rfl, rfl, rfl, rfl, rfl⟩ := h
    have c4b0 : decide (hd > (l2.length : Int)) = true := decide_eq_true c4
    have c4b1 : decide ((l2.length : Int) < hd) = true := decide_eq_true c4
    clear c4
    go_enter Try.func110, Try.ntmps110
    go_wp2
    refine bodyPost_ret (results_ct rfl _ _ w.heap.size 96 #[.int .i64 0, .int .i64 0, .int .u32 0, .int .u32 0, .int .i64 0, .int .i64 0, .int .i64 0, .slice none 0 0, .slice none 0 0] (0, 0) _ rfl (heap_alloc_new w _) hu rfl rfl) rfl ?_
    exact ⟨_, _, rfl, Kd.R_nil _ _ _ _ _, Kd.R_nil _ _ _ _ _, below_alloc (Below.refl _ _) _⟩
  rw [if_neg c4] at h
  have c4b0 : decide (hd > (l2.length : Int)) = false := decide_eq_false c4
  have c4b1 : decide ((l2.length : Int) < hd) = false := decide_eq_false c4
  have HC4 := Aside0.mk c4
  clear c4
  obtain ⟨ps, hps, h⟩ := Option.bind_eq_some_iff.mp h
  obtain ⟨s, hs, h⟩ := Option.bind_eq_some_iff.mp h
  have HPS := Aside0.mk hps
  have HS := Aside0.mk hs
  have HH := Aside0.mk h
  clear hps hs h
  go_enter Try.func110, Try.ntmps110
  go_upto_if 40 with (first | (go_at_call 136; refine (udp_Pseudo.calls 20 a0 a1 6 l2.length ps _ HPS.out).mono ?_; rintro e w1 ⟨v1, rfl, ho1, hb1⟩; obtain ⟨B1, d1, rfl⟩ := Kd.R_slice ho1; have HB := Aside0.mk (below_step (below_alloc (Below.refl w.heap.size w) _) hb1); have HP := Aside0.mk (blk_below (heap_alloc_new w (.cells #[.int .i64 0, .int .i64 0, .int .u32 0, .int .u32 0, .int .i64 0, .int .i64 0, .int .i64 0, .slice none 0 0, .slice none 0 0] 96)) hb1); have HO1 := Aside0.mk (Kd.R_reads' ho1); clear ho1 hb1) | (go_at_call 107; refine (octet_Sum.calls (some ⟨w1.heap.size, 0, none⟩) 2 [ps, l2] s _ (C_two (heap_alloc_new w1 _) HO1.out.2.1 HC.out (Kd.C_alloc HO1.out.2.2 _) (Kd.C_alloc (Kd.C_below HR.out HB.out) _)) (Nat.le_refl 2) HS.out).mono ?_; rintro e w2 ⟨rfl, hb2⟩; have n1 := Aside0.mk (below_step (below_alloc HB.out _) hb2); have n2 := Aside0.mk (blk_below (blk_alloc HP.out _) hb2); clear HB HP hb2; have HB := n1; have HP := n2; clear n1 n2))
  by_cases c5 : s = 65535
  case neg =>
    have h := HH.out
    rw [if_neg c5] at h
    simp only [tcp_Parse.zero, Option.some.injEq, Prod.mk.injEq] at h
    obtain ⟨rfl, rfl, rfl, rfl, rfl, rfl, rfl, rfl, rfl, rfl⟩ := h
    have c5b0 : (s != 65535) = true := bne_iff_ne.2 c5
    have c5b1 : (s == 65535) = false := beq_eq_false_iff_ne.2 c5
    clear c5 HH
    have hz0 : w2.cell? ⟨w.heap.size, 0, none⟩ = some (.int .i64 0) := (blk_cell HP.out 0).trans rfl
    have hf0 : w2.frozen? ⟨w.heap.size, 0, none⟩ = false := blk_frozen HP.out 0
    have hz1 : w2.cell? ⟨w.heap.size, 1, none⟩ = some (.int .i64 0) := (blk_cell HP.out 1).trans rfl
    have hf1 : w2.frozen? ⟨w.heap.size, 1, none⟩ = false := blk_frozen HP.out 1
    have hz2 : w2.cell? ⟨w.heap.size, 2, none⟩ = some (.int .u32 0) := (blk_cell HP.out 2).trans rfl
    have hf2 : w2.frozen? ⟨w.heap.size, 2, none⟩ = false := blk_frozen HP.out 2
    have hz3 : w2.cell? ⟨w.heap.size, 3, none⟩ = some (.int .u32 0) := (blk_cell HP.out 3).trans rfl
    have hf3 : w2.frozen? ⟨w.heap.size, 3, none⟩ = false := blk_frozen HP.out 3
    have hz4 : w2.cell? ⟨w.heap.size, 4, none⟩ = some (.int .i64 0) := (blk_cell HP.out 4).trans rfl
    have hf4 : w2.frozen? ⟨w.heap.size, 4, none⟩ = false := blk_frozen HP.out 4
    have hz5 : w2.cell? ⟨w.heap.size, 5, none⟩ = some (.int .i64 0) := (blk_cell HP.out 5).trans rfl
    have hf5 : w2.frozen? ⟨w.heap.size, 5, none⟩ = false := blk_frozen HP.out 5
    have hz6 : w2.cell? ⟨w.heap.size, 6, none⟩ = some (.int .i64 0) := (blk_cell HP.out 6).trans rfl
    have hf6 : w2.frozen? ⟨w.heap.size, 6, none⟩ = false := blk_frozen HP.out 6
    have hz7 : w2.cell? ⟨w.heap.size, 7, none⟩ = some (.slice none 0 0) := (blk_cell HP.out 7).trans rfl
    have hf7 : w2.frozen? ⟨w.heap.size, 7, none⟩ = false := blk_frozen HP.out 7
    have hz8 : w2.cell? ⟨w.heap.size, 8, none⟩ = some (.slice none 0 0) := (blk_cell HP.out 8).trans rfl
    have hf8 : w2.frozen? ⟨w.heap.size, 8, none⟩ = false := blk_frozen HP.out 8
    go_wp2
    refine bodyPost_ret (results_ct rfl _ _ w.heap.size 96 #[.int .i64 0, .int .i64 0, .int .u32 0, .int .u32 0, .int .i64 0, .int .i64 0, .int .i64 0, .slice none 0 0, .slice none 0 0] (0, 0) _ rfl (nine_set HP.out) hu rfl rfl) rfl ?_
    exact ⟨_, _, rfl, Kd.R_nil _ _ _ _ _, Kd.R_nil _ _ _ _ _, below_set (below_set (below_set (below_set (below_set (below_set (below_set (below_set (below_set HB.out (Nat.le_refl _)) (Nat.le_refl _)) (Nat.le_refl _)) (Nat.le_refl _)) (Nat.le_refl _)) (Nat.le_refl _)) (Nat.le_refl _)) (Nat.le_refl _)) (Nat.le_refl _)⟩
  have h := HH.out
  rw [if_pos c5] at h
  clear HH
  obtain ⟨x0, e0, h⟩ := Option.bind_eq_some_iff.mp h
  obtain ⟨x1, e1', h⟩ := Option.bind_eq_some_iff.mp h
  obtain ⟨x2, e2', h⟩ := Option.bind_eq_some_iff.mp h
  obtain ⟨x3, e3, h⟩ := Option.bind_eq_some_iff.mp h
  obtain ⟨x5, e5, h⟩ := Option.bind_eq_some_iff.mp h
  obtain ⟨x6, e6, h⟩ := Option.bind_eq_some_iff.mp h
  simp only [Option.some.injEq, Prod.mk.injEq] at h
  have HG := Aside0.mk (And.intro e0 (And.intro e1' (And.intro e2' (And.intro e3 (And.intro e5 e6)))))
  have HRS := Aside0.mk h
  have c5b0 : (s != 65535) = false := bne_eq_false_iff_eq.2 c5
  have c5b1 : (s == 65535) = true := beq_iff_eq.2 c5
  clear e0 e1' e2' e3 e5 e6 h c5
  rw [c5b0]
  go_wp2
  refine tcp_Parse.r10 (w0 := w) x0 x1 x2 x3 x5 x6 HP.out HR.out HC.out HB.out HL.out.2 (by have := HC2.out; omega) (by have := HC4.out; omega) HG.out.1 HG.out.2.1 HG.out.2.2.1 HG.out.2.2.2.1 HG.out.2.2.2.2.1 HG.out.2.2.2.2.2 ?_
  intro y51 y52 y53 y54 y55 y56 y57 y58 y59 y60 y61 y62 y63 y64 y65 y66 y67 y68 y69 y70 y71 y72 y73 v7 v8 g9 w3 hne hge hp6 hp9 h7 h8 hnn hb
  obtain ⟨ys7, hys7⟩ : ∃ y, y = (l2.take hd.toNat).drop 20 := ⟨_, rfl⟩
  obtain ⟨ys8, hys8⟩ : ∃ y, y = l2.drop hd.toNat := ⟨_, rfl⟩
  have HY := Aside0.mk (And.intro hys7 hys8)
  rw [← hys7] at h7
  rw [← hys8] at h8
  clear hys7 hys8
  obtain ⟨V7, C7, rfl⟩ := Kd.R_slice h7
  obtain ⟨V8, C8, rfl⟩ := Kd.R_slice h8
  clear HP HB
  have HP := Aside0.mk hp6
  have HQ9 := Aside0.mk hp9
  have HB := Aside0.mk hb
  have HO7 := Aside0.mk h7
  have HO8 := Aside0.mk h8
  have HNN := Aside0.mk hnn
  have HNE := Aside0.mk hne
  have HGE := Aside0.mk hge
  have hx13 : w3.cell? ⟨ad.block, ad.off + 13, none⟩ = some (.int .u8 x13) := (HB.out.cell (World.block_lt_of_cell? w _ HX13.out)).trans HX13.out
  have hmf : ∀ (fn : Fn) (first cap : Array Value) (w : World), (Instr.makeFunc fn first cap).run Try.prog w = .ok (.func fn first cap) w := fun _ _ _ _ => rfl
  clear hp6 hp9 hb h7 h8 hnn hne hge
  go_wp2
  obtain ⟨g10, hg10⟩ : ∃ g, g = w3.heap.size := ⟨_, rfl⟩
  have HBIT := Aside0.mk (heap_alloc_new w3 (.cells #[.int .u8 x13] 5))
  have n1 := Aside0.mk (blk_alloc HP.out (.cells #[.int .u8 x13] 5))
  have n2 := Aside0.mk (blk_alloc HQ9.out (.cells #[.int .u8 x13] 5))
  have n3 := Aside0.mk (below_alloc HB.out (.cells #[.int .u8 x13] 5))
  have n4 := Aside0.mk (Kd.R_alloc HO7.out (.cells #[.int .u8 x13] 5))
  have n5 := Aside0.mk (Kd.R_alloc HO8.out (.cells #[.int .u8 x13] 5))
  have HNX := Aside0.mk (show g9 ≠ g10 from by rw [hg10]; exact Nat.ne_of_lt (blk_lt HQ9.out))
  rw [← hg10] at HBIT
  rw [← hg10]
  clear HP HQ9 HB HO7 HO8 hx13
  have HP := n1
  have HQ9 := n2
  have HB := n3
  have HO7 := n4
  have HO8 := n5
  clear n1 n2 n3 n4 n5 hg10
  clear e1 ea e2 hy12 b1 b2 b3 b4 c1b0 c1b1 c2b0 c3b0 c3b1 c4b0 c4b1 c5b0 c5b1 hmf
  go_loopg [12] 8 (fun kq v12 w' => ∃ (B fl : Int), v12 = .int .i64 B ∧ Aside0 (kq ≤ 8 ∧ B = 2 ^ (8 - kq) ∧ fl = x13 % 2 ^ (8 - kq)) ∧ Aside0 (w'.heap[w.heap.size]? = some (.cells #[.int .i64 0, .int .i64 0, .int .u32 0, .int .u32 0, .int .i64 0, .int .i64 0, .int .i64 0, .slice none 0 0, .slice none 0 0] 96 (0, 0))) ∧ Aside0 (w'.heap[g9]? = some (.cells #[.int .i64 x0, .int .i64 x1, .int .u32 (IntKind.u32.wrap x2), .int .u32 (IntKind.u32.wrap x3), .int .i64 fl, .int .i64 x5, .int .i64 x6, .slice V7 ys7.length C7, .slice V8 ys8.length C8] 96 (0, 0))) ∧ Aside0 (w'.heap[g10]? = some (.cells #[.int .u8 x13] 5 (0, 0))) ∧
    Aside0 (Kd.R (Kd.int .u8) 5 w' w.heap.size (fun k_ => True) (.slice V7 ys7.length C7) ys7) ∧ Aside0 (Kd.R (Kd.int .u8) 5 w' w.heap.size (fun k_ => True) (.slice V8 ys8.length C8) ys8) ∧ Aside0 (Below w.heap.size w w'))
  case atStart => exact ⟨1, 0, rfl, ⟨⟨Nat.le_refl _, rfl, by simp [Int.emod_one]⟩⟩, HP, HQ9, HBIT, HO7, HO8, HB⟩
  case round =>
    clear HP HQ9 HB HO7 HO8 HBIT
    obtain ⟨B, fl, rfl, HK, HP, HQ9, HBIT, HO7, HO8, HB⟩ := hrel
    cases gk with
    | zero =>
      have HFL : Aside0 (fl = x13) := ⟨by have h1 := HK.out.2.2; have h2 := HCR.out; rw [show (2 : Int) ^ (8 - 0) = 256 from by decide] at h1; omega⟩
      obtain rfl : B = 256 := HK.out.2.1
      have c6b0 : decide ((256 : Int) < 256) = false := by decide
      have hz0 : wr.cell? ⟨w.heap.size, 0, none⟩ = some (.int .i64 0) := (blk_cell HP.out 0).trans rfl
      have hf0 : wr.frozen? ⟨w.heap.size, 0, none⟩ = false := blk_frozen HP.out 0
      have hz1 : wr.cell? ⟨w.heap.size, 1, none⟩ = some (.int .i64 0) := (blk_cell HP.out 1).trans rfl
      have hf1 : wr.frozen? ⟨w.heap.size, 1, none⟩ = false := blk_frozen HP.out 1
      have hz2 : wr.cell? ⟨w.heap.size, 2, none⟩ = some (.int .u32 0) := (blk_cell HP.out 2).trans rfl
      have hf2 : wr.frozen? ⟨w.heap.size, 2, none⟩ = false := blk_frozen HP.out 2
      have hz3 : wr.cell? ⟨w.heap.size, 3, none⟩ = some (.int .u32 0) := (blk_cell HP.out 3).trans rfl
      have hf3 : wr.frozen? ⟨w.heap.size, 3, none⟩ = false := blk_frozen HP.out 3
      have hz4 : wr.cell? ⟨w.heap.size, 4, none⟩ = some (.int .i64 0) := (blk_cell HP.out 4).trans rfl
      have hf4 : wr.frozen? ⟨w.heap.size, 4, none⟩ = false := blk_frozen HP.out 4
      have hz5 : wr.cell? ⟨w.heap.size, 5, none⟩ = some (.int .i64 0) := (blk_cell HP.out 5).trans rfl
      have hf5 : wr.frozen? ⟨w.heap.size, 5, none⟩ = false := blk_frozen HP.out 5
      have hz6 : wr.cell? ⟨w.heap.size, 6, none⟩ = some (.int .i64 0) := (blk_cell HP.out 6).trans rfl
      have hf6 : wr.frozen? ⟨w.heap.size, 6, none⟩ = false := blk_frozen HP.out 6
      have hz7 : wr.cell? ⟨w.heap.size, 7, none⟩ = some (.slice none 0 0) := (blk_cell HP.out 7).trans rfl
      have hf7 : wr.frozen? ⟨w.heap.size, 7, none⟩ = false := blk_frozen HP.out 7
      have hz8 : wr.cell? ⟨w.heap.size, 8, none⟩ = some (.slice none 0 0) := (blk_cell HP.out 8).trans rfl
      have hf8 : wr.frozen? ⟨w.heap.size, 8, none⟩ = false := blk_frozen HP.out 8
      have hy0 : wr.cell? ⟨g9, 0, none⟩ = some (.int .i64 x0) := (blk_cell HQ9.out 0).trans rfl
      have hy1 : wr.cell? ⟨g9, 1, none⟩ = some (.int .i64 x1) := (blk_cell HQ9.out 1).trans rfl
      have hy2 : wr.cell? ⟨g9, 2, none⟩ = some (.int .u32 (IntKind.u32.wrap x2)) := (blk_cell HQ9.out 2).trans rfl
      have hy3 : wr.cell? ⟨g9, 3, none⟩ = some (.int .u32 (IntKind.u32.wrap x3)) := (blk_cell HQ9.out 3).trans rfl
      have hy4 : wr.cell? ⟨g9, 4, none⟩ = some (.int .i64 fl) := (blk_cell HQ9.out 4).trans rfl
      have hy5 : wr.cell? ⟨g9, 5, none⟩ = some (.int .i64 x5) := (blk_cell HQ9.out 5).trans rfl
      have hy6 : wr.cell? ⟨g9, 6, none⟩ = some (.int .i64 x6) := (blk_cell HQ9.out 6).trans rfl
      have hy7 : wr.cell? ⟨g9, 7, none⟩ = some (.slice V7 ys7.length C7) := (blk_cell HQ9.out 7).trans rfl
      have hy8 : wr.cell? ⟨g9, 8, none⟩ = some (.slice V8 ys8.length C8) := (blk_cell HQ9.out 8).trans rfl
      go_wp2
      obtain ⟨rfl, rfl, q3, q4, q5, rfl, rfl, q7, q8, rfl⟩ := HRS.out
      rw [IntKind.wrap_u32] at q3 q4
      have q5' : fl = r5 := by rw [HFL.out]; exact q5
      subst q3 q4 q5'
      have q7' : ys7 = r8 := by rw [HY.out.1]; exact q7
      have q8' : ys8 = r9 := by rw [HY.out.2]; exact q8
      subst q7' q8'
      refine bodyPost_ret (results_ct rfl _ _ w.heap.size 96 #[.int .i64 x0, .int .i64 x1, .int .u32 (x2 % 4294967296), .int .u32 (x3 % 4294967296), .int .i64 fl, .int .i64 x5, .int .i64 x6, .slice V7 ys7.length C7, .slice V8 ys8.length C8] (0, 0) _ rfl (nine_set HP.out) hu rfl rfl) rfl ?_
      refine ⟨_, _, rfl, ?_, ?_, ?_⟩
      · exact Kd.R_of_own (Kd.own_of_R (Kd.R_step (Kd.R_types HO7.out HP.out (by decide)) (fun k hk _ => nine_far _ hk.2))) (fun k hk hk' => HNN.out k hk hk'.symm)
      · exact Kd.R_of_own (Kd.own_of_R (Kd.R_step (Kd.R_types HO8.out HP.out (by decide)) (fun k hk _ => nine_far _ hk.2))) (fun k hk hk' => HNN.out k hk'.symm hk)
      · exact below_set (below_set (below_set (below_set (below_set (below_set (below_set (below_set (below_set HB.out (Nat.le_refl _)) (Nat.le_refl _)) (Nat.le_refl _)) (Nat.le_refl _)) (Nat.le_refl _)) (Nat.le_refl _)) (Nat.le_refl _)) (Nat.le_refl _)) (Nat.le_refl _)
    | succ k1 =>
      have hk8 : k1 < 8 := by have := HK.out.1; omega
      obtain ⟨j, hj⟩ : ∃ j, j = 8 - (k1 + 1) := ⟨_, rfl⟩
      have hj1 : 8 - k1 = j + 1 := by omega
      have HJ := Aside0.mk (And.intro hj hj1)
      have hB : B = 2 ^ j := by rw [hj]; exact HK.out.2.1
      have hfl : fl = x13 % 2 ^ j := by rw [hj]; exact HK.out.2.2
      have hst := flag_step j (by omega) x13 HCR.out.2.2.1 HCR.out.2.2.2
      rw [← hfl, ← hB] at hst
      have hB2 : 1 ≤ B ∧ B ≤ 128 ∧ B * 2 = 2 ^ (j + 1) := by rw [hB]; exact flag_pow j (by omega)
      have HST := Aside0.mk hst
      have HB2 := Aside0.mk hB2
      have c7b0 : decide (B < 256) = true := decide_eq_true (by omega)
      have E8 : Aside0 (wrap64 (B * 2) = B * 2) := ⟨by unfold wrap64; omega⟩
      have hy4 : wr.cell? ⟨g9, 4, none⟩ = some (.int .i64 fl) := (blk_cell HQ9.out 4).trans rfl
      have hf4 : wr.frozen? ⟨g9, 4, none⟩ = false := blk_frozen HQ9.out 4
      clear hj hj1 hB hfl hst hB2 hk8
      by_cases hb : (Go.bits .and .i64 (wrap64 x13) B != 0) = true
      · have HS2 := Aside0.mk (HST.out.1 hb)
        go_wp2_with (first | (go_at_call 138; refine (tcp_Parse.has g10 B x13 _ HBIT.out).mono ?_; rintro e w5 ⟨rfl, rfl⟩; rw [hb]))
        all_goals (go_roundg k1; (case measure => omega); (case rel => exact ⟨wrap64 (B * 2), _, rfl, ⟨⟨by have := HK.out.1; omega, by rw [E8.out, HJ.out.2]; exact HB2.out.2.2, by rw [HJ.out.2]; exact HS2.out⟩⟩, ⟨blk_far HP.out (Ne.symm HNE.out) _⟩, ⟨blk_put HQ9.out 4 _ rfl⟩, ⟨blk_far HBIT.out (Ne.symm HNX.out) _⟩, ⟨Kd.R_set HO7.out HQ9.out (by decide) 4 _⟩, ⟨Kd.R_set HO8.out HQ9.out (by decide) 4 _⟩, ⟨below_set HB.out HGE.out⟩⟩))
      · replace hb := Bool.eq_false_iff.mpr hb
        have HS2 := Aside0.mk (HST.out.2 hb)
        go_wp2_with (first | (go_at_call 138; refine (tcp_Parse.has g10 B x13 _ HBIT.out).mono ?_; rintro e w5 ⟨rfl, rfl⟩; rw [hb]))
        all_goals (go_roundg k1; (case measure => omega); (case rel => exact ⟨wrap64 (B * 2), _, rfl, ⟨⟨by have := HK.out.1; omega, by rw [E8.out, HJ.out.2]; exact HB2.out.2.2, by rw [HJ.out.2]; exact HS2.out⟩⟩, HP, HQ9, HBIT, HO7, HO8, HB⟩))

end Go.Proofs.Ytljnnhloinbjhaa.P
