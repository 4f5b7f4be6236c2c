-- Laid by a program (wip/tools/myprint.py) out of the translation. Not trusted: Lean checks it.
import Derived.Test.YtljnnhloinbjhaaP0
import Derived.Test.YtljnnhloinbjhaaPoctet
import Derived.Test.YtljnnhloinbjhaaPureWIp
import Derived.WalkSmall
namespace Go.Proofs.Ytljnnhloinbjhaa.P
open Go.RowKit Go.Proofs.YtljnnhloinbjhaaW.PrintWords Go.Proofs.YtljnnhloinbjhaaW.PrintLast
set_option linter.unusedVariables false
set_option linter.unusedSimpArgs false

/-! ### ip_get: function 106 -/
def ip_get.f (l0 : List Int) (a1 : Int) (a2 : Int) : Option (Int) := (octet_Get.f l0 a1 a2).bind fun bt268 => (some (wrap64 (bt268.1)))
set_option maxHeartbeats 8000000 in
set_option maxRecDepth 100000 in
theorem ip_get.calls (A0 : Option Addr) (c0 : Nat) (l0 : List Int) (a1 : Int) (a2 : Int) (r : Int) (w : World) (hr0 : Kd.C (Kd.int .u8) w A0 l0.length l0) (hc0 : l0.length ≤ c0) (h : ip_get.f l0 a1 a2 = some r) :
    Calls Try.prog 106 #[.slice A0 l0.length c0, .int .i64 a1, .int .i64 a2] w fun e w' => e = .returned (.int .i64 r) ∧ Drawn0 w w' := by
  have HR0 := Aside0.mk hr0
  have HC0 := Aside0.mk hc0
  clear hr0 hc0
  have H : ((octet_Get.f l0 a1 a2).bind fun bt268 => (some (wrap64 (bt268.1)))) = some r := h
  clear h
  replace H := Option.bind_eq_some_iff.mp H
  obtain ⟨⟨t268, t269⟩, A40, H⟩ := H
  replace H : (some (wrap64 (t268))) = some r := H
  have A4 := Aside0.mk A40
  clear A40
  obtain rfl := Option.some.inj H
  go_enter Try.func106, Try.ntmps106
  go_wp2_with (first | ((with_reducible refine gate_callee (f := 73) rfl ?_); refine goesL_ (some 13) rfl rfl Try.func73 (by kernel_rfl) rfl #[.slice A0 l0.length c0, .int .i64 a1, .int .i64 a2] rfl (by (try simp only [List.map_toArray, List.map_cons, List.map_nil]); first | done | rfl | (simp only [List.length_drop, List.length_take]; rfl)) ?_; (with_reducible refine (octet_Get.calls _ _ l0 a1 a2 t268 t269 _ ?side1 ?side2 A4.out).mono ?_); (case side1 => repeat (first | exact HR0.out | (with_reducible refine Kd.C_alloc ?_ _) | (with_reducible refine Kd.C_drewN ?_ _) | (with_reducible refine Kd.C_drew ?_))); (case side2 => exact HC0.out); rintro e w' ⟨rfl, ⟨nd, rfl⟩⟩; refine ⟨_, rfl, ?_⟩))
  go_ret
  exact ⟨by first | rfl | (simp; done) | (simp [*]; done), by repeat (first | exact Drawn0.refl _ | apply Drawn0.step)⟩

/-! ### ip_Parse: function 61, by hand -/
set_option maxRecDepth 100000 in
set_option maxHeartbeats 1600000 in
theorem ip_Parse.catch (p q : Nat) (e : Int) (u : Value) (older : List PanicEntry) (w : World) {u0 u1 u2 u3 u4 u5 u6 u7 u8 u9 u10 : Value} (hp : w.heap[p]? = some (.cells #[u0, u1, u2, u3, u4, u5, u6, u7, u8, u9, u10] 29 (0, 0))) (hq : w.heap[q]? = some (.cells #[u] 47 (0, 0))) (hne : ¬ p = q) :
    CallsD Try.prog 103 #[.pointer (some ⟨p, 0, none⟩), .pointer (some ⟨q, 0, none⟩)] (.panicking ({ v := .iface 47 (.int .i64 e), recovered := false } :: older)) w fun e' u' w' =>
      e' = .returned (.tuple #[]) ∧ u' = .panicking ({ v := .iface 47 (.int .i64 e), recovered := true } :: older) ∧ w' = (((((((((((w.setCell ⟨p, 0, none⟩ (.int .i64 0)).setCell ⟨p, 1, none⟩ (.int .i64 0)).setCell ⟨p, 2, none⟩ (.bool false)).setCell ⟨p, 3, none⟩ (.bool false)).setCell ⟨p, 4, none⟩ (.int .i64 0)).setCell ⟨p, 5, none⟩ (.int .i64 0)).setCell ⟨p, 6, none⟩ (.int .i64 0)).setCell ⟨p, 7, none⟩ (.int .u32 0)).setCell ⟨p, 8, none⟩ (.int .u32 0)).setCell ⟨p, 9, none⟩ (.slice none 0 0)).setCell ⟨p, 10, none⟩ (.slice none 0 0)).setCell ⟨q, 0, none⟩ (.int .i64 e) := by
  have hne' : ¬ q = p := fun h => hne h.symm
  have hu25 := Try.underlying29
  have hc0 : w.cell? ⟨p, 0, none⟩ = some u0 := (blk_cell hp 0).trans rfl
  have hf0 := blk_frozen hp 0
  have hc1 : w.cell? ⟨p, 1, none⟩ = some u1 := (blk_cell hp 1).trans rfl
  have hf1 := blk_frozen hp 1
  have hc2 : w.cell? ⟨p, 2, none⟩ = some u2 := (blk_cell hp 2).trans rfl
  have hf2 := blk_frozen hp 2
  have hc3 : w.cell? ⟨p, 3, none⟩ = some u3 := (blk_cell hp 3).trans rfl
  have hf3 := blk_frozen hp 3
  have hc4 : w.cell? ⟨p, 4, none⟩ = some u4 := (blk_cell hp 4).trans rfl
  have hf4 := blk_frozen hp 4
  have hc5 : w.cell? ⟨p, 5, none⟩ = some u5 := (blk_cell hp 5).trans rfl
  have hf5 := blk_frozen hp 5
  have hc6 : w.cell? ⟨p, 6, none⟩ = some u6 := (blk_cell hp 6).trans rfl
  have hf6 := blk_frozen hp 6
  have hc7 : w.cell? ⟨p, 7, none⟩ = some u7 := (blk_cell hp 7).trans rfl
  have hf7 := blk_frozen hp 7
  have hc8 : w.cell? ⟨p, 8, none⟩ = some u8 := (blk_cell hp 8).trans rfl
  have hf8 := blk_frozen hp 8
  have hc9 : w.cell? ⟨p, 9, none⟩ = some u9 := (blk_cell hp 9).trans rfl
  have hf9 := blk_frozen hp 9
  have hc10 : w.cell? ⟨p, 10, none⟩ = some u10 := (blk_cell hp 10).trans rfl
  have hf10 := blk_frozen hp 10
  have hcq : w.cell? ⟨q, 0, none⟩ = some u := (blk_cell hq 0).trans rfl
  have hfq := blk_frozen hq 0
  refine callsD_of_wpS Try.func103 rfl fun c₀ cs hu => ?_
  apply wpS_seq
  apply wpS_region
  simp [wpOpsS, go_sem, recoverD, hu, Try.ntmps103, Exit.thenS]
  refine wpS_of_wp ?_
  change Code.wp Try.prog _ _ ⟨#[.pointer (some ⟨p, 0, none⟩), .pointer (some ⟨q, 0, none⟩), .iface 47 (.int .i64 e), .iface 47 (.int .i64 e), undef, undef, undef, undef, undef], []⟩ w
  clear hu hp hq
  go_wp2_with (first | (go_at_call 104; refine (ip_thrown.ok e _).mono ?_; rintro e' w1 ⟨rfl, rfl⟩))
  simp [bodyPostS, results, Try.results103]
theorem ip_Parse.idle (p q : Nat) (w : World) :
    CallsD Try.prog 103 #[.pointer (some ⟨p, 0, none⟩), .pointer (some ⟨q, 0, none⟩)] .returning w fun e' u' w' => e' = .returned (.tuple #[]) ∧ u' = .returning ∧ w = w' := by
  refine callsD_of_wpS Try.func103 rfl fun c₀ cs hu => ?_
  apply wpS_seq
  apply wpS_region
  simp [wpOpsS, go_sem, recoverD, hu, Try.ntmps103, Exit.thenS]
  refine wpS_of_wp ?_
  change Code.wp Try.prog _ _ ⟨#[.pointer (some ⟨p, 0, none⟩), .pointer (some ⟨q, 0, none⟩), .nilIface, .nilIface, undef, undef, undef, undef, undef], []⟩ w
  go_wp2
  cases c₀
  simp_all [bodyPostS, results, Try.results103]
set_option maxRecDepth 100000 in
theorem ip_Parse.refused {tmps : Array Value} {w w0 : World} {p q : Nat} {e : Int} {R : Ending → World → Prop} (h2 : tmps.getD 2 undef = .pointer (some ⟨p, 0, none⟩)) (h3 : tmps.getD 3 undef = .pointer (some ⟨q, 0, none⟩))
    (hp : w.heap[p]? = some (.cells #[.int .i64 0, .int .i64 0, .bool false, .bool false, .int .i64 0, .int .i64 0, .int .i64 0, .int .u32 0, .int .u32 0, .slice none 0 0, .slice none 0 0] 29 (0, 0))) (hq : w.heap[q]? = some (.cells #[.int .i64 0] 47 (0, 0))) (hne : ¬ p = q) (hB : Below w0.heap.size w0 w) (hgp : w0.heap.size ≤ p) (hgq : w0.heap.size ≤ q)
    (hR : ∀ w', Below w0.heap.size w0 w' → R (.returned (.tuple #[.agg #[.int .i64 0, .int .i64 0, .bool false, .bool false, .int .i64 0, .int .i64 0, .int .i64 0, .int .u32 0, .int .u32 0, .slice none 0 0, .slice none 0 0], .int .i64 e])) w') :
    Leaves Try.prog Try.f61 tmps R [{ target := .fn (.func 103) #[.pointer (some ⟨p, 0, none⟩), .pointer (some ⟨q, 0, none⟩)], args := #[] }] (.panicking [{ v := .iface 47 (.int .i64 e), recovered := false }]) w := by
  refine leaves_cons (f := 103) (args := #[.pointer (some ⟨p, 0, none⟩), .pointer (some ⟨q, 0, none⟩)]) (by simp) (by simp [go_sem]) ?_
  refine (ip_Parse.catch p q e _ [] w hp hq hne).mono ?_
  rintro e' u' w'' ⟨rfl, rfl, rfl⟩
  refine ⟨_, results_cs rfl _ _ p q 29 47 #[.int .i64 0, .int .i64 0, .bool false, .bool false, .int .i64 0, .int .i64 0, .int .i64 0, .int .u32 0, .int .u32 0, .slice none 0 0, .slice none 0 0] (.int .i64 e) (0, 0) (0, 0) _ h2 ?_ Try.underlying29 rfl rfl h3 ?_ (fun w h => errno_load q _ w h), ?_⟩
  · exact blk_far (eleven_set hp) hne _
  · exact blk_put (cs := #[.int .i64 0]) ((eleven_far q (fun h => hne h.symm)).trans hq) 0 _ rfl
  · exact hR _ (below_set (eleven_below hB hgp) hgq)
set_option maxHeartbeats 8000000 in
set_option maxRecDepth 100000 in
theorem ip_Parse.r11 {s1 s7 s8 s9 s10 s11 s12 s13 s14 s15 s16 s17 s18 s19 s20 s21 s22 s23 s24 s25 s26 s27 s28 s29 s30 s31 s32 s33 s34 s35 s36 s37 s38 s39 s40 s41 s42 s43 s44 s45 s46 s47 s48 s49 s50 s51 s52 s53 s54 s55 s56 s57 s58 s59 s60 s61 s62 s63 s64 s65 s66 s67 s68 s69 s70 s71 s72 s73 s74 s75 s76 s77 s78 s79 s80 s81 s82 s83 s84 s85 s86 s87 s88 s89 s90 s91 s92 s93 s94 s95 s96 s97 s98 s99 : Value} {D : List Deferred} {p q : Nat} {hd tot part : Int} {ad : Addr} {c : Nat} {l : List Int} {w0 w : World} {Q : Exit → Act → World → Prop} (x1 x8 x9 id src dst : Int)
    (hp : w.heap[p]? = some (.cells #[.int .i64 0, .int .i64 0, .bool false, .bool false, .int .i64 0, .int .i64 0, .int .i64 0, .int .u32 0, .int .u32 0, .slice none 0 0, .slice none 0 0] 29 (0, 0))) (hq : w.heap[q]? = some (.cells #[.int .i64 0] 47 (0, 0))) (hgp : w0.heap.size ≤ p) (hgq : w0.heap.size ≤ q) (hne : ¬ p = q)
    (hr : Kd.C (Kd.int .u8) w0 (some ad) l.length l) (hc : l.length ≤ c) (hb : Below w0.heap.size w0 w)
    (hl : l.length ≤ 1000000) (h20 : 20 ≤ hd) (hhd : hd ≤ tot) (htl : tot ≤ l.length)
    (h1 : w0.cell? ⟨ad.block, ad.off + 1, none⟩ = some (.int .u8 x1)) (h8 : w0.cell? ⟨ad.block, ad.off + 8, none⟩ = some (.int .u8 x8)) (h9 : w0.cell? ⟨ad.block, ad.off + 9, none⟩ = some (.int .u8 x9))
    (b1 : 0 ≤ x1 ∧ x1 ≤ 255) (b8 : 0 ≤ x8 ∧ x8 ≤ 255) (b9 : 0 ≤ x9 ∧ x9 ≤ 255)
    (e1 : ip_get.f l 4 2 = some id) (e2 : ip_get.f l 12 4 = some src) (e3 : ip_get.f l 16 4 = some dst)
    (hQ : ∀ y62 y63 y64 y65 y66 y67 y68 y69 y70 y71 y72 y73 y74 y75 y76 y77 y78 y79 y80 y81 y82 y83 y84 y85 y86 y87 y88 y89 y90 y91 y92 y93 y94 y95 y96 y97 y98 y99 v9 v10 w', w'.heap[q]? = some (.cells #[.int .i64 0] 47 (0, 0)) → w'.heap[p]? = some (.cells #[.int .i64 x1, .int .i64 id, .bool (Go.bits .and .i64 part 16384 != 0), .bool (Go.bits .and .i64 part 8192 != 0), .int .i64 (Go.bits .and .i64 part 8191), .int .i64 x8, .int .i64 x9, .int .u32 (IntKind.u32.wrap src), .int .u32 (IntKind.u32.wrap dst), v9, v10] 29 (0, 0)) →
      Kd.R (Kd.int .u8) 5 w' w0.heap.size (fun _ => True) v9 ((l.take hd.toNat).drop 20) → Kd.R (Kd.int .u8) 5 w' w0.heap.size (fun _ => True) v10 ((l.take tot.toNat).drop hd.toNat) → (∀ k, v9.ownBlock = some k → v10.ownBlock ≠ some k) → Below w0.heap.size w0 w' → Q .normal ⟨#[.slice (some ad) l.length c, s1, .pointer (some ⟨p, 0, none⟩), .pointer (some ⟨q, 0, none⟩), .int .i64 hd, .int .i64 tot, .int .i64 part, s7, s8, s9, s10, s11, s12, s13, s14, s15, s16, s17, s18, s19, s20, s21, s22, s23, s24, s25, s26, s27, s28, s29, s30, s31, s32, s33, s34, s35, s36, s37, s38, s39, s40, s41, s42, s43, s44, s45, s46, s47, s48, s49, s50, s51, s52, s53, s54, s55, s56, s57, s58, s59, s60, s61, y62, y63, y64, y65, y66, y67, y68, y69, y70, y71, y72, y73, y74, y75, y76, y77, y78, y79, y80, y81, y82, y83, y84, y85, y86, y87, y88, y89, y90, y91, y92, y93, y94, y95, y96, y97, y98, y99], D⟩ w') :
    (regionIn 11 Try.f61).wp Try.prog Q ⟨#[.slice (some ad) l.length c, s1, .pointer (some ⟨p, 0, none⟩), .pointer (some ⟨q, 0, none⟩), .int .i64 hd, .int .i64 tot, .int .i64 part, s7, s8, s9, s10, s11, s12, s13, s14, s15, s16, s17, s18, s19, s20, s21, s22, s23, s24, s25, s26, s27, s28, s29, s30, s31, s32, s33, s34, s35, s36, s37, s38, s39, s40, s41, s42, s43, s44, s45, s46, s47, s48, s49, s50, s51, s52, s53, s54, s55, s56, s57, s58, s59, s60, s61, s62, s63, s64, s65, s66, s67, s68, s69, s70, s71, s72, s73, s74, s75, s76, s77, s78, s79, s80, s81, s82, s83, s84, s85, s86, s87, s88, s89, s90, s91, s92, s93, s94, s95, s96, s97, s98, s99], D⟩ w := by
  conv => arg 2; whnf
  have hu := Try.underlying29
  have HP := Aside0.mk hp
  have HQ3 := Aside0.mk hq
  have HGP := Aside0.mk hgp
  have HGQ := Aside0.mk hgq
  have HNE := Aside0.mk hne
  have HR := Aside0.mk hr
  have HC := Aside0.mk hc
  have HB := Aside0.mk hb
  have HQ := Aside0.mk hQ
  obtain ⟨iz, hin, hz, hsz, hbb⟩ := info_parts info5
  have m1 := cut_mid (P := Try.prog) 23 5 .i64 .i64 Try.underlying23 hin 1 hsz (some ad) l.length c 20 hd (by decide) h20 (by omega) hc
  have m2 := cut_mid (P := Try.prog) 23 5 .i64 .i64 Try.underlying23 hin 1 hsz (some ad) l.length c hd tot (by omega) hhd htl hc
  have c1 := Kd.C_mid (lo := 20) (hi := hd.toNat) hr (by omega) (by omega) hc
  have c2 := Kd.C_mid (lo := hd.toNat) (hi := tot.toNat) hr (by omega) (by omega) hc
  obtain ⟨ys7, hy7⟩ : ∃ y, y = (l.take hd.toNat).drop 20 := ⟨_, rfl⟩
  obtain ⟨ys8, hy8⟩ : ∃ y, y = (l.take tot.toNat).drop hd.toNat := ⟨_, rfl⟩
  have k7 : hd.toNat - 20 = ys7.length := by rw [hy7]; simp; omega
  have k8 : tot.toNat - hd.toNat = ys8.length := by rw [hy8]; simp; omega
  obtain ⟨A7, hA7⟩ : ∃ y, y = (if c = (20 : Int).toNat then (some ad) else (some ad).map (·.add ((20 : Int).toNat * 1))) := ⟨_, rfl⟩
  obtain ⟨A8, hA8⟩ : ∃ y, y = (if c = hd.toNat then (some ad) else (some ad).map (·.add (hd.toNat * 1))) := ⟨_, rfl⟩
  rw [← hA7, show (20 : Int).toNat = 20 from rfl, k7] at m1
  rw [← hA8, k8] at m2
  have HR7 : Aside0 (Kd.C (Kd.int .u8) w0 A7 ys7.length ys7) := ⟨by rw [hA7, hy7]; exact c1⟩
  have HR8 : Aside0 (Kd.C (Kd.int .u8) w0 A8 ys8.length ys8) := ⟨by rw [hA8, hy8]; exact c2⟩
  have HK : Aside0 (ys7.length ≤ 1000000 ∧ ys8.length ≤ 1000000) := ⟨by omega⟩
  have HY7 := Aside0.mk hy7
  have HY8 := Aside0.mk hy8
  have E1 := Aside0.mk e1
  have E2 := Aside0.mk e2
  have E3 := Aside0.mk e3
  have Q1 : Aside0 (IntKind.i64.wrap x1 = x1) := ⟨by rw [IntKind.wrap_i64]; omega⟩
  have Q8 : Aside0 (IntKind.i64.wrap x8 = x8) := ⟨by rw [IntKind.wrap_i64]; omega⟩
  have Q9 : Aside0 (IntKind.i64.wrap x9 = x9) := ⟨by rw [IntKind.wrap_i64]; omega⟩
  have d1 : (1 : Int) < (l.length : Int) := by omega
  have d8 : (8 : Int) < (l.length : Int) := by omega
  have d9 : (9 : Int) < (l.length : Int) := by omega
  have d1' : 1 < l.length := by omega
  have d8' : 8 < l.length := by omega
  have d9' : 9 < l.length := by omega
  have HX1 := Aside0.mk h1
  have HX8 := Aside0.mk h8
  have HX9 := Aside0.mk h9
  have HA := Aside0.mk (World.block_lt_of_cell? w0 _ h1)
  have y1 : w.cell? ⟨ad.block, ad.off + 1, none⟩ = some (.int .u8 x1) := pw_cell_below HB.out h1
  have y8 : w.cell? ⟨ad.block, ad.off + 8, none⟩ = some (.int .u8 x8) := pw_cell_below HB.out h8
  have y9 : w.cell? ⟨ad.block, ad.off + 9, none⟩ = some (.int .u8 x9) := pw_cell_below HB.out h9
  clear hp hq hgp hgq hne hr hc hb hl hQ h20 hhd htl hin hsz hbb hz c1 c2 hy7 hy8 k7 k8 hA7 hA8 e1 e2 e3 h1 h8 h9 b1 b8 b9
  refine wp_region_noPanic ?_
  go_region_held3 (fun w' => w'.cell? ⟨ad.block, ad.off + 1, none⟩ = some (.int .u8 x1) ∧ w'.cell? ⟨ad.block, ad.off + 8, none⟩ = some (.int .u8 x8) ∧ w'.cell? ⟨ad.block, ad.off + 9, none⟩ = some (.int .u8 x9))
    (first
      | with_reducible exact ⟨pw_cell_below HB.out HX1.out, pw_cell_below HB.out HX8.out, pw_cell_below HB.out HX9.out⟩
      | with_reducible exact ⟨pw_cell_below (eleven_below HB.out HGP.out) HX1.out, pw_cell_below (eleven_below HB.out HGP.out) HX8.out, pw_cell_below (eleven_below HB.out HGP.out) HX9.out⟩
      | with_reducible exact ⟨pw_cell_below (below_set (eleven_below HB.out HGP.out) HGQ.out) HX1.out, pw_cell_below (below_set (eleven_below HB.out HGP.out) HGQ.out) HX8.out, pw_cell_below (below_set (eleven_below HB.out HGP.out) HGQ.out) HX9.out⟩
      | go_keep)
    (first
      | (refine goes_ (f := 106) Try.func106 (by kernel_rfl) rfl #[.slice (some ad) l.length c, .int .i64 4, .int .i64 2] (by rfl) rfl rfl ?ha ?_
         (case ha => first | rfl | (go_simp; done) | (simp [Act.eval]; done))
         refine (ip_get.calls (some ad) c l 4 2 id _ (Kd.C_below HR.out (below_drew (HB.out))) HC.out E1.out).mono ?_
         rintro e w1 ⟨rfl, hd1⟩
         refine ⟨_, rfl, ?_⟩
         have hb1 := hd1.below
         clear hd1
         have n1 := Aside0.mk (blk_below (blk_drew (HP.out)) hb1)
         have n2 := Aside0.mk (below_step (below_drew (HB.out)) hb1)
         have n3 := Aside0.mk (blk_below (blk_drew (HQ3.out)) hb1)
         clear HP HB HQ3
         have HP := n1
         have HB := n2
         have HQ3 := n3
         clear n1 n2 n3
         clear hb1)
      | (refine goes_ (f := 106) Try.func106 (by kernel_rfl) rfl #[.slice (some ad) l.length c, .int .i64 12, .int .i64 4] (by rfl) rfl rfl ?ha ?_
         (case ha => first | rfl | (go_simp; done) | (simp [Act.eval]; done))
         refine (ip_get.calls (some ad) c l 12 4 src _ (Kd.C_below HR.out (HB.out)) HC.out E2.out).mono ?_
         rintro e w2 ⟨rfl, hd1⟩
         refine ⟨_, rfl, ?_⟩
         have hb1 := hd1.below
         clear hd1
         have n1 := Aside0.mk (blk_below (HP.out) hb1)
         have n2 := Aside0.mk (below_step (HB.out) hb1)
         have n3 := Aside0.mk (blk_below (HQ3.out) hb1)
         clear HP HB HQ3
         have HP := n1
         have HB := n2
         have HQ3 := n3
         clear n1 n2 n3
         clear hb1)
      | (refine goes_ (f := 106) Try.func106 (by kernel_rfl) rfl #[.slice (some ad) l.length c, .int .i64 16, .int .i64 4] (by rfl) rfl rfl ?ha ?_
         (case ha => first | rfl | (go_simp; done) | (simp [Act.eval]; done))
         refine (ip_get.calls (some ad) c l 16 4 dst _ (Kd.C_below HR.out (HB.out)) HC.out E3.out).mono ?_
         rintro e w3 ⟨rfl, hd1⟩
         refine ⟨_, rfl, ?_⟩
         have hb1 := hd1.below
         clear hd1
         have n1 := Aside0.mk (blk_below (HP.out) hb1)
         have n2 := Aside0.mk (below_step (HB.out) hb1)
         have n3 := Aside0.mk (blk_below (HQ3.out) hb1)
         clear HP HB HQ3
         have HP := n1
         have HB := n2
         have HQ3 := n3
         clear n1 n2 n3
         clear hb1)
      | (refine fresh_step (w0 := w0) rfl (.tmp 92) rfl (ys := ys7) (A := A7) (by rfl) (Kd.C_below HR7.out HB.out) HB.out (by have := HK.out.1; omega) ?_
         intro v7 w4 ho1 hb1 hn1
         obtain ⟨Vv7, Cv7, rfl⟩ := Kd.R_slice ho1
         have n1 := Aside0.mk (blk_below (HP.out) hb1)
         have n2 := Aside0.mk (below_step (HB.out) hb1)
         have n3 := Aside0.mk (blk_below (HQ3.out) hb1)
         clear HP HB HQ3
         have HP := n1
         have HB := n2
         have HQ3 := n3
         clear n1 n2 n3
         have HOv7 := Aside0.mk ho1
         clear hb1 ho1 hn1)
      | (refine fresh_step (w0 := w0) rfl (.tmp 97) rfl (ys := ys8) (A := A8) (by rfl) (Kd.C_below HR8.out HB.out) HB.out (by have := HK.out.2; omega) ?_
         intro v8 w5 ho1 hb1 hn1
         obtain ⟨Vv8, Cv8, rfl⟩ := Kd.R_slice ho1
         have n1 := Aside0.mk (blk_below (HP.out) hb1)
         have n2 := Aside0.mk (below_step (HB.out) hb1)
         have n3 := Aside0.mk (blk_below (HQ3.out) hb1)
         clear HP HB HQ3
         have HP := n1
         have HB := n2
         have HQ3 := n3
         clear n1 n2 n3
         have HNN : Aside0 (∀ k, (Value.slice Vv7 ys7.length Cv7).ownBlock = some k → (Value.slice Vv8 ys8.length Cv8).ownBlock ≠ some k) := ⟨fun k hk hk' => by
           have q1 := own_lt (Kd.own_of_R HOv7.out) k hk
           have q2 := hn1 k hk'
           omega⟩
         have n1 := Aside0.mk (Kd.R_below HOv7.out hb1)
         have HOv8 := Aside0.mk ho1
         clear HOv7
         have HOv7 := n1
         clear n1
         have hcA0 : w5.cell? ⟨p, 0, none⟩ = some (.int .i64 0) := (blk_cell HP.out 0).trans rfl
         have hfA0 : w5.frozen? ⟨p, 0, none⟩ = false := blk_frozen HP.out 0
         have hcA1 : w5.cell? ⟨p, 1, none⟩ = some (.int .i64 0) := (blk_cell HP.out 1).trans rfl
         have hfA1 : w5.frozen? ⟨p, 1, none⟩ = false := blk_frozen HP.out 1
         have hcA2 : w5.cell? ⟨p, 2, none⟩ = some (.bool false) := (blk_cell HP.out 2).trans rfl
         have hfA2 : w5.frozen? ⟨p, 2, none⟩ = false := blk_frozen HP.out 2
         have hcA3 : w5.cell? ⟨p, 3, none⟩ = some (.bool false) := (blk_cell HP.out 3).trans rfl
         have hfA3 : w5.frozen? ⟨p, 3, none⟩ = false := blk_frozen HP.out 3
         have hcA4 : w5.cell? ⟨p, 4, none⟩ = some (.int .i64 0) := (blk_cell HP.out 4).trans rfl
         have hfA4 : w5.frozen? ⟨p, 4, none⟩ = false := blk_frozen HP.out 4
         have hcA5 : w5.cell? ⟨p, 5, none⟩ = some (.int .i64 0) := (blk_cell HP.out 5).trans rfl
         have hfA5 : w5.frozen? ⟨p, 5, none⟩ = false := blk_frozen HP.out 5
         have hcA6 : w5.cell? ⟨p, 6, none⟩ = some (.int .i64 0) := (blk_cell HP.out 6).trans rfl
         have hfA6 : w5.frozen? ⟨p, 6, none⟩ = false := blk_frozen HP.out 6
         have hcA7 : w5.cell? ⟨p, 7, none⟩ = some (.int .u32 0) := (blk_cell HP.out 7).trans rfl
         have hfA7 : w5.frozen? ⟨p, 7, none⟩ = false := blk_frozen HP.out 7
         have hcA8 : w5.cell? ⟨p, 8, none⟩ = some (.int .u32 0) := (blk_cell HP.out 8).trans rfl
         have hfA8 : w5.frozen? ⟨p, 8, none⟩ = false := blk_frozen HP.out 8
         have hcA9 : w5.cell? ⟨p, 9, none⟩ = some (.slice none 0 0) := (blk_cell HP.out 9).trans rfl
         have hfA9 : w5.frozen? ⟨p, 9, none⟩ = false := blk_frozen HP.out 9
         have hcA10 : w5.cell? ⟨p, 10, none⟩ = some (.slice none 0 0) := (blk_cell HP.out 10).trans rfl
         have hfA10 : w5.frozen? ⟨p, 10, none⟩ = false := blk_frozen HP.out 10
         have hcB : w5.cell? ⟨q, 0, none⟩ = some (.int .i64 0) := (blk_cell HQ3.out 0).trans rfl
         have hfB : w5.frozen? ⟨q, 0, none⟩ = false := blk_frozen HQ3.out 0
         have hnAB := HNE.out
         have hnBA : ¬ q = p := fun h => HNE.out h.symm
         clear hb1 ho1 hn1))
  all_goals
    rw [Q1.out, Q8.out, Q9.out]
    refine NoPanic.normal (HQ.out _ _ _ _ _ _ _ _ _ _ _ _ _ _ _ _ _ _ _ _ _ _ _ _ _ _ _ _ _ _ _ _ _ _ _ _ _ _ _ _ _ ?q0 ?q2 ?q3 ?q4 HNN.out ?q5)
    (case q0 => exact blk_put (cs := #[.int .i64 0]) ((eleven_far q (fun h => HNE.out h.symm)).trans HQ3.out) 0 _ rfl)
    (case q2 => exact blk_far (eleven_set HP.out) HNE.out _)
    (case q3 => rw [← HY7.out]; exact Kd.R_set (Kd.R_mono (Kd.R_step (Kd.R_types HOv7.out HP.out (by decide)) (fun k hk _ => eleven_far _ hk.2)) (fun _ hk => hk.1)) ((eleven_far q (fun h => HNE.out h.symm)).trans HQ3.out) (by decide) 0 _)
    (case q4 => rw [← HY8.out]; exact Kd.R_set (Kd.R_mono (Kd.R_step (Kd.R_types HOv8.out HP.out (by decide)) (fun k hk _ => eleven_far _ hk.2)) (fun _ hk => hk.1)) ((eleven_far q (fun h => HNE.out h.symm)).trans HQ3.out) (by decide) 0 _)
    (case q5 => exact below_set (eleven_below HB.out HGP.out) HGQ.out)
def ip_Parse.zero (e : Int) : Option (Int × Int × Bool × Bool × Int × Int × Int × Int × Int × List Int × List Int × Int) := some (0, 0, false, false, 0, 0, 0, 0, 0, ([] : List Int), ([] : List Int), e)
def ip_Parse.f (l : List Int) : Option (Int × Int × Bool × Bool × Int × Int × Int × Int × Int × List Int × List Int × Int) :=
  if (l.length : Int) > 2048 then ip_Parse.zero 3
  else if (l.length : Int) < 20 then ip_Parse.zero 2
  else if ¬ ((0 ≤ rd l 0 ∧ rd l 0 ≤ 255) ∧ (0 ≤ rd l 1 ∧ rd l 1 ≤ 255) ∧ (0 ≤ rd l 8 ∧ rd l 8 ≤ 255) ∧ (0 ≤ rd l 9 ∧ rd l 9 ≤ 255)) then none
  else if rd l 0 / 16 ≠ 4 then ip_Parse.zero 4
  else if rd l 0 % 16 * 4 < 20 then ip_Parse.zero 4
  else if (l.length : Int) < rd l 0 % 16 * 4 then ip_Parse.zero 2
  else (ip_get.f l 2 2).bind fun total => (ip_get.f l 6 2).bind fun part =>
    if total < rd l 0 % 16 * 4 then ip_Parse.zero 4
    else if Go.bits .and .i64 part 32768 ≠ 0 then ip_Parse.zero 4
    else if total > (l.length : Int) then ip_Parse.zero 2
    else (octet_Sum.f [l.take (rd l 0 % 16 * 4).toNat]).bind fun s => if s ≠ 65535 then ip_Parse.zero 5
    else (ip_get.f l 4 2).bind fun id => (ip_get.f l 12 4).bind fun src => (ip_get.f l 16 4).bind fun dst =>
      some (rd l 1, id, (Go.bits .and .i64 part 16384 != 0), (Go.bits .and .i64 part 8192 != 0), Go.bits .and .i64 part 8191, rd l 8, rd l 9, IntKind.u32.wrap src, IntKind.u32.wrap dst, (l.take (rd l 0 % 16 * 4).toNat).drop 20, (l.take total.toNat).drop (rd l 0 % 16 * 4).toNat, 0)
set_option maxHeartbeats 8000000 in
set_option maxRecDepth 100000 in
theorem ip_Parse.calls (A0 : Option Addr) (c0 : Nat) (l0 : List Int) (r0 r1 : Int) (r2 r3 : Bool) (r4 r5 r6 r7 r8 : Int) (r9 r10 : List Int) (r11 : Int) (w : World) (hr0 : Kd.C (Kd.int .u8) w A0 l0.length l0) (hc0 : l0.length ≤ c0) (h : ip_Parse.f l0 = some (r0, r1, r2, r3, r4, r5, r6, r7, r8, r9, r10, r11)) :
    Calls Try.prog 61 #[.slice A0 l0.length c0] w fun e w' => ∃ v9_ v10_ : Value, e = .returned (.tuple #[.agg #[.int .i64 r0, .int .i64 r1, .bool r2, .bool r3, .int .i64 r4, .int .i64 r5, .int .i64 r6, .int .u32 r7, .int .u32 r8, v9_, v10_], .int .i64 r11]) ∧ Kd.R (Kd.int .u8) 5 w' w.heap.size (fun k_ => some k_ ≠ (v10_ : Value).ownBlock) v9_ r9 ∧ Kd.R (Kd.int .u8) 5 w' w.heap.size (fun k_ => some k_ ≠ (v9_ : Value).ownBlock) v10_ r10 ∧ Below w.heap.size w w' := by
  have hmf : ∀ (fn : Fn) (first cap : Array Value) (w : World), (Instr.makeFunc fn first cap).run Try.prog w = .ok (.func fn first cap) w := fun _ _ _ _ => rfl
  have HR := Aside0.mk hr0
  have HC := Aside0.mk hc0
  have HB : Aside0 (Below w.heap.size w ((w.alloc (.cells #[.int .i64 0, .int .i64 0, .bool false, .bool false, .int .i64 0, .int .i64 0, .int .i64 0, .int .u32 0, .int .u32 0, .slice none 0 0, .slice none 0 0] 29)).alloc (.cells #[.int .i64 0] 47))) := ⟨below_alloc (below_alloc (Below.refl _ _) _) _⟩
  have HP : Aside0 (((w.alloc (.cells #[.int .i64 0, .int .i64 0, .bool false, .bool false, .int .i64 0, .int .i64 0, .int .i64 0, .int .u32 0, .int .u32 0, .slice none 0 0, .slice none 0 0] 29)).alloc (.cells #[.int .i64 0] 47)).heap[w.heap.size]? = some (.cells #[.int .i64 0, .int .i64 0, .bool false, .bool false, .int .i64 0, .int .i64 0, .int .i64 0, .int .u32 0, .int .u32 0, .slice none 0 0, .slice none 0 0] 29 (0, 0))) := ⟨blk_alloc (heap_alloc_new w _) _⟩
  have HQ3 : Aside0 (((w.alloc (.cells #[.int .i64 0, .int .i64 0, .bool false, .bool false, .int .i64 0, .int .i64 0, .int .i64 0, .int .u32 0, .int .u32 0, .slice none 0 0, .slice none 0 0] 29)).alloc (.cells #[.int .i64 0] 47)).heap[w.heap.size + 1]? = some (.cells #[.int .i64 0] 47 (0, 0))) := ⟨by simpa using heap_alloc_new (w.alloc (.cells #[.int .i64 0, .int .i64 0, .bool false, .bool false, .int .i64 0, .int .i64 0, .int .i64 0, .int .u32 0, .int .u32 0, .slice none 0 0, .slice none 0 0] 29)) (.cells #[.int .i64 0] 47)⟩
  clear hr0 hc0
  unfold ip_Parse.f at h
  by_cases c1 : (l0.length : Int) > 2048
  · rw [if_pos c1] at h
    simp only [ip_Parse.zero, Option.some.injEq, Prod.mk.injEq] at h
    obtain ⟨rfl, rfl, rfl, rfl, rfl, rfl, rfl, rfl, rfl, rfl, rfl, rfl⟩ := h
    have c1b0 : decide ((l0.length : Int) > 2048) = true := decide_eq_true c1
    have c1b1 : decide (2048 < (l0.length : Int)) = true := decide_eq_true c1
    have c1b2 : decide (2048 < l0.length) = true := decide_eq_true (by omega)
    clear c1
    go_enter_defers Try.func61, Try.ntmps61
    go_wp2_with (first | (go_at_call 105; (with_reducible refine (ip_refuse.gives _ _).mono ?_); rintro e' w1 ⟨rfl, rfl⟩))
    refine ip_Parse.refused rfl rfl HP.out HQ3.out (by omega) HB.out (Nat.le_refl _) (Nat.le_succ _) ?_
    intro w' hb
    exact ⟨_, _, rfl, Kd.R_nil _ _ _ _ _, Kd.R_nil _ _ _ _ _, hb⟩
  rw [if_neg c1] at h
  have c1b0 : decide ((l0.length : Int) > 2048) = false := decide_eq_false c1
  have c1b1 : decide (2048 < (l0.length : Int)) = false := decide_eq_false c1
  have c1b2 : decide (2048 < l0.length) = false := decide_eq_false (by omega)
  by_cases c2 : (l0.length : Int) < 20
  · rw [if_pos c2] at h
    simp only [ip_Parse.zero, Option.some.injEq, Prod.mk.injEq] at h
    obtain ⟨rfl, rfl, rfl, rfl, rfl, rfl, rfl, rfl, rfl, rfl, rfl, rfl⟩ := h
    have c2b0 : decide ((l0.length : Int) < 20) = true := decide_eq_true c2
    have c2b1 : decide (l0.length < 20) = true := decide_eq_true (by omega)
    clear c2 c1
    go_enter_defers Try.func61, Try.ntmps61
    go_wp2_with (first | (go_at_call 105; (with_reducible refine (ip_refuse.pass _ _).mono ?_); rintro e' w1 ⟨rfl, rfl⟩) | (go_at_call 105; (with_reducible refine (ip_refuse.gives _ _).mono ?_); rintro e' w1 ⟨rfl, rfl⟩))
    refine ip_Parse.refused rfl rfl HP.out HQ3.out (by omega) HB.out (Nat.le_refl _) (Nat.le_succ _) ?_
    intro w' hb
    exact ⟨_, _, rfl, Kd.R_nil _ _ _ _ _, Kd.R_nil _ _ _ _ _, hb⟩
  rw [if_neg c2] at h
  have c2b0 : decide ((l0.length : Int) < 20) = false := decide_eq_false c2
  have c2b1 : decide (l0.length < 20) = false := decide_eq_false (by omega)
  by_cases cr : (0 ≤ rd l0 0 ∧ rd l0 0 ≤ 255) ∧ (0 ≤ rd l0 1 ∧ rd l0 1 ≤ 255) ∧ (0 ≤ rd l0 8 ∧ rd l0 8 ≤ 255) ∧ (0 ≤ rd l0 9 ∧ rd l0 9 ≤ 255)
  case neg => rw [if_pos cr] at h; cases h
  rw [if_neg (Classical.not_not.2 cr)] at h
  have HL := Aside0.mk (show 20 ≤ l0.length ∧ l0.length ≤ 2048 by omega)
  obtain ⟨x0, f0⟩ : ∃ x, x = rd l0 0 := ⟨_, rfl⟩
  obtain ⟨x1, f1⟩ : ∃ x, x = rd l0 1 := ⟨_, rfl⟩
  obtain ⟨x8, f8⟩ : ∃ x, x = rd l0 8 := ⟨_, rfl⟩
  obtain ⟨x9, f9⟩ : ∃ x, x = rd l0 9 := ⟨_, rfl⟩
  obtain ⟨ad, rfl, hx0⟩ := Kd.at_int HR.out 0 (by decide) (by omega)
  obtain ⟨ad', ea, hx1⟩ := Kd.at_int HR.out 1 (by decide) (by omega)
  injection ea with ea
  subst ea
  obtain ⟨ad', ea, hx8⟩ := Kd.at_int HR.out 8 (by decide) (by omega)
  injection ea with ea
  subst ea
  obtain ⟨ad', ea, hx9⟩ := Kd.at_int HR.out 9 (by decide) (by omega)
  injection ea with ea
  subst ea
  rw [← f0] at hx0
  rw [← f1] at hx1
  rw [← f8] at hx8
  rw [← f9] at hx9
  rw [← f0, ← f1, ← f8, ← f9] at cr h
  simp only [show (0 : Int).toNat = 0 from rfl, show (1 : Int).toNat = 1 from rfl, show (8 : Int).toNat = 8 from rfl, show (9 : Int).toNat = 9 from rfl, Nat.reduceEqDiff, Go.Addr.add, ↓reduceIte] at hx0 hx1 hx8 hx9
  have HX := Aside0.mk (And.intro hx1 (And.intro hx8 hx9))
  have y0 := pw_cell_below HB.out hx0
  have HCR := Aside0.mk cr
  have HF := Aside0.mk (And.intro f0 (And.intro f1 (And.intro f8 f9)))
  have ea : Go.bits .and .u8 x0 15 = x0 % 16 := by
    obtain ⟨n, rfl⟩ := Int.eq_ofNat_of_zero_le cr.1.1
    have : ∀ n : Fin 256, Go.bits .and .u8 (n.1 : Int) 15 = (n.1 : Int) % 16 := by decide
    exact this ⟨n, by omega⟩
  have e2 : wrap64 (x0 % 16) = x0 % 16 := by unfold wrap64; omega
  have b1 : (0 : Int) < (l0.length : Int) := by omega
  have b2 : 0 < l0.length := by omega
  obtain ⟨hd, ehd⟩ : ∃ x, x = x0 % 16 * 4 := ⟨_, rfl⟩
  have e1 : wrap64 (x0 % 16 * 4) = hd := by rw [ehd]; unfold wrap64; omega
  have e1' : x0 % 16 * 4 = hd := ehd.symm
  rw [← ehd] at h
  have HHD := Aside0.mk ehd
  clear cr f0 f1 f8 f9 c1 c2 ehd hx0 hx1 hx8 hx9
  by_cases c3 : x0 / 16 ≠ 4
  · rw [if_pos c3] at h
    simp only [ip_Parse.zero, Option.some.injEq, Prod.mk.injEq] at h
    obtain ⟨rfl, rfl, rfl, rfl, rfl, rfl, rfl, rfl, rfl, rfl, rfl, rfl⟩ := h
    have c3b0 : (x0 / 16 != 4) = true := bne_iff_ne.2 c3
    have c3b1 : (x0 / 16 == 4) = false := beq_eq_false_iff_ne.2 c3
    clear c3
    go_enter_defers Try.func61, Try.ntmps61
    go_wp2_with (first | (go_at_call 105; (with_reducible refine (ip_refuse.pass _ _).mono ?_); rintro e' w1 ⟨rfl, rfl⟩) | (go_at_call 105; (with_reducible refine (ip_refuse.gives _ _).mono ?_); rintro e' w1 ⟨rfl, rfl⟩))
    refine ip_Parse.refused rfl rfl HP.out HQ3.out (by omega) HB.out (Nat.le_refl _) (Nat.le_succ _) ?_
    intro w' hb
    exact ⟨_, _, rfl, Kd.R_nil _ _ _ _ _, Kd.R_nil _ _ _ _ _, hb⟩
  rw [if_neg c3] at h
  have c3b0 : (x0 / 16 != 4) = false := bne_eq_false_iff_eq.2 (Classical.not_not.1 c3)
  have c3b1 : (x0 / 16 == 4) = true := beq_iff_eq.2 (Classical.not_not.1 c3)
  clear c3
  by_cases c4 : hd < 20
  · rw [if_pos c4] at h
    simp only [ip_Parse.zero, Option.some.injEq, Prod.mk.injEq] at h
    obtain ⟨rfl, rfl, rfl, rfl, rfl, rfl, rfl, rfl, rfl, rfl, rfl, rfl⟩ := h
    have c4b0 : decide (hd < 20) = true := decide_eq_true c4
    clear c4
    go_enter_defers Try.func61, Try.ntmps61
    go_wp2_with (first | (go_at_call 105; (with_reducible refine (ip_refuse.pass _ _).mono ?_); rintro e' w1 ⟨rfl, rfl⟩) | (go_at_call 105; (with_reducible refine (ip_refuse.gives _ _).mono ?_); rintro e' w1 ⟨rfl, rfl⟩))
    refine ip_Parse.refused rfl rfl HP.out HQ3.out (by omega) HB.out (Nat.le_refl _) (Nat.le_succ _) ?_
    intro w' hb
    exact ⟨_, _, rfl, Kd.R_nil _ _ _ _ _, Kd.R_nil _ _ _ _ _, hb⟩
  rw [if_neg c4] at h
  have c4b0 : decide (hd < 20) = false := decide_eq_false c4
  have HC4 := Aside0.mk c4
  clear c4
  by_cases c5 : (l0.length : Int) < hd
  · rw [if_pos c5] at h
    simp only [ip_Parse.zero, Option.some.injEq, Prod.mk.injEq] at h
    obtain ⟨rfl, rfl, rfl, rfl, rfl, rfl, rfl, rfl, rfl, rfl, rfl, rfl⟩ := h
    have c5b0 : decide ((l0.length : Int) < hd) = true := decide_eq_true c5
    clear c5
    go_enter_defers Try.func61, Try.ntmps61
    go_wp2_with (first | (go_at_call 105; (with_reducible refine (ip_refuse.pass _ _).mono ?_); rintro e' w1 ⟨rfl, rfl⟩) | (go_at_call 105; (with_reducible refine (ip_refuse.gives _ _).mono ?_); rintro e' w1 ⟨rfl, rfl⟩))
    refine ip_Parse.refused rfl rfl HP.out HQ3.out (by omega) HB.out (Nat.le_refl _) (Nat.le_succ _) ?_
    intro w' hb
    exact ⟨_, _, rfl, Kd.R_nil _ _ _ _ _, Kd.R_nil _ _ _ _ _, hb⟩
  rw [if_neg c5] at h
  have c5b0 : decide ((l0.length : Int) < hd) = false := decide_eq_false c5
  have HC5 := Aside0.mk c5
  clear c5
  obtain ⟨tot, htot, h⟩ := Option.bind_eq_some_iff.mp h
  obtain ⟨part, hpart, h⟩ := Option.bind_eq_some_iff.mp h
  have HTOT := Aside0.mk htot
  have HPART := Aside0.mk hpart
  have tok1 : True := trivial
  have tok2 : True := trivial
  clear htot hpart
  by_cases c6 : tot < hd
  · rw [if_pos c6] at h
    simp only [ip_Parse.zero, Option.some.injEq, Prod.mk.injEq] at h
    obtain ⟨rfl, rfl, rfl, rfl, rfl, rfl, rfl, rfl, rfl, rfl, rfl, rfl⟩ := h
    have c6b0 : decide (tot < hd) = true := decide_eq_true c6
    clear c6
    go_enter_defers Try.func61, Try.ntmps61
    go_wp2_with (first | (go_at_call 105; (with_reducible refine (ip_refuse.pass _ _).mono ?_); rintro e' w1 ⟨rfl, rfl⟩) | (go_at_call 106; have tk_ := tok1; refine (ip_get.calls (some ad) c0 l0 2 2 tot _ (Kd.C_below HR.out HB.out) HC.out HTOT.out).mono ?_; rintro e' w1 ⟨rfl, hd1⟩; have hb1 := hd1.below; clear hd1 tok1 tk_; have n1 := Aside0.mk (blk_below HP.out hb1); have n2 := Aside0.mk (below_step HB.out hb1); have n3 := Aside0.mk (blk_below HQ3.out hb1); clear HP HB HQ3 hb1; have HP := n1; have HB := n2; have HQ3 := n3; clear n1 n2 n3) | (go_at_call 106; have tk_ := tok2; refine (ip_get.calls (some ad) c0 l0 6 2 part _ (Kd.C_below HR.out HB.out) HC.out HPART.out).mono ?_; rintro e' w2 ⟨rfl, hd1⟩; have hb1 := hd1.below; clear hd1 tok2 tk_; have n1 := Aside0.mk (blk_below HP.out hb1); have n2 := Aside0.mk (below_step HB.out hb1); have n3 := Aside0.mk (blk_below HQ3.out hb1); clear HP HB HQ3 hb1; have HP := n1; have HB := n2; have HQ3 := n3; clear n1 n2 n3) | (go_at_call 105; (with_reducible refine (ip_refuse.gives _ _).mono ?_); rintro e' w1 ⟨rfl, rfl⟩))
    refine ip_Parse.refused rfl rfl HP.out HQ3.out (by omega) HB.out (Nat.le_refl _) (Nat.le_succ _) ?_
    intro w' hb
    exact ⟨_, _, rfl, Kd.R_nil _ _ _ _ _, Kd.R_nil _ _ _ _ _, hb⟩
  rw [if_neg c6] at h
  have c6b0 : decide (tot < hd) = false := decide_eq_false c6
  have HC6 := Aside0.mk c6
  clear c6
  by_cases c7 : Go.bits .and .i64 part 32768 ≠ 0
  · rw [if_pos c7] at h
    simp only [ip_Parse.zero, Option.some.injEq, Prod.mk.injEq] at h
    obtain ⟨rfl, rfl, rfl, rfl, rfl, rfl, rfl, rfl, rfl, rfl, rfl, rfl⟩ := h
    have c7b0 : (Go.bits .and .i64 part 32768 != 0) = true := bne_iff_ne.2 c7
    have c7b1 : (Go.bits .and .i64 part 32768 == 0) = false := beq_eq_false_iff_ne.2 c7
    clear c7
    go_enter_defers Try.func61, Try.ntmps61
    go_wp2_with (first | (go_at_call 105; (with_reducible refine (ip_refuse.pass _ _).mono ?_); rintro e' w1 ⟨rfl, rfl⟩) | (go_at_call 106; have tk_ := tok1; refine (ip_get.calls (some ad) c0 l0 2 2 tot _ (Kd.C_below HR.out HB.out) HC.out HTOT.out).mono ?_; rintro e' w1 ⟨rfl, hd1⟩; have hb1 := hd1.below; clear hd1 tok1 tk_; have n1 := Aside0.mk (blk_below HP.out hb1); have n2 := Aside0.mk (below_step HB.out hb1); have n3 := Aside0.mk (blk_below HQ3.out hb1); clear HP HB HQ3 hb1; have HP := n1; have HB := n2; have HQ3 := n3; clear n1 n2 n3) | (go_at_call 106; have tk_ := tok2; refine (ip_get.calls (some ad) c0 l0 6 2 part _ (Kd.C_below HR.out HB.out) HC.out HPART.out).mono ?_; rintro e' w2 ⟨rfl, hd1⟩; have hb1 := hd1.below; clear hd1 tok2 tk_; have n1 := Aside0.mk (blk_below HP.out hb1); have n2 := Aside0.mk (below_step HB.out hb1); have n3 := Aside0.mk (blk_below HQ3.out hb1); clear HP HB HQ3 hb1; have HP := n1; have HB := n2; have HQ3 := n3; clear n1 n2 n3) | (go_at_call 105; (with_reducible refine (ip_refuse.gives _ _).mono ?_); rintro e' w1 ⟨rfl, rfl⟩))
    refine ip_Parse.refused rfl rfl HP.out HQ3.out (by omega) HB.out (Nat.le_refl _) (Nat.le_succ _) ?_
    intro w' hb
    exact ⟨_, _, rfl, Kd.R_nil _ _ _ _ _, Kd.R_nil _ _ _ _ _, hb⟩
  rw [if_neg c7] at h
  have c7b0 : (Go.bits .and .i64 part 32768 != 0) = false := bne_eq_false_iff_eq.2 (Classical.not_not.1 c7)
  have c7b1 : (Go.bits .and .i64 part 32768 == 0) = true := beq_iff_eq.2 (Classical.not_not.1 c7)
  clear c7
  by_cases c8 : tot > (l0.length : Int)
  · rw [if_pos c8] at h
    simp only [ip_Parse.zero, Option.some.injEq, Prod.mk.injEq] at h
    obtain ⟨rfl, rfl, rfl, rfl, rfl, rfl, rfl, rfl, rfl, rfl, rfl, rfl⟩ := h
    have c8b0 : decide ((l0.length : Int) < tot) = true := decide_eq_true c8
    clear c8
    go_enter_defers Try.func61, Try.ntmps61
    go_wp2_with (first | (go_at_call 105; (with_reducible refine (ip_refuse.pass _ _).mono ?_); rintro e' w1 ⟨rfl, rfl⟩) | (go_at_call 106; have tk_ := tok1; refine (ip_get.calls (some ad) c0 l0 2 2 tot _ (Kd.C_below HR.out HB.out) HC.out HTOT.out).mono ?_; rintro e' w1 ⟨rfl, hd1⟩; have hb1 := hd1.below; clear hd1 tok1 tk_; have n1 := Aside0.mk (blk_below HP.out hb1); have n2 := Aside0.mk (below_step HB.out hb1); have n3 := Aside0.mk (blk_below HQ3.out hb1); clear HP HB HQ3 hb1; have HP := n1; have HB := n2; have HQ3 := n3; clear n1 n2 n3) | (go_at_call 106; have tk_ := tok2; refine (ip_get.calls (some ad) c0 l0 6 2 part _ (Kd.C_below HR.out HB.out) HC.out HPART.out).mono ?_; rintro e' w2 ⟨rfl, hd1⟩; have hb1 := hd1.below; clear hd1 tok2 tk_; have n1 := Aside0.mk (blk_below HP.out hb1); have n2 := Aside0.mk (below_step HB.out hb1); have n3 := Aside0.mk (blk_below HQ3.out hb1); clear HP HB HQ3 hb1; have HP := n1; have HB := n2; have HQ3 := n3; clear n1 n2 n3) | (go_at_call 105; (with_reducible refine (ip_refuse.gives _ _).mono ?_); rintro e' w1 ⟨rfl, rfl⟩))
    refine ip_Parse.refused rfl rfl HP.out HQ3.out (by omega) HB.out (Nat.le_refl _) (Nat.le_succ _) ?_
    intro w' hb
    exact ⟨_, _, rfl, Kd.R_nil _ _ _ _ _, Kd.R_nil _ _ _ _ _, hb⟩
  rw [if_neg c8] at h
  have c8b0 : decide ((l0.length : Int) < tot) = false := decide_eq_false c8
  have HC8 := Aside0.mk c8
  clear c8
  obtain ⟨s, hs, h⟩ := Option.bind_eq_some_iff.mp h
  have hh1 := HC4.out
  have hh2 := HC5.out
  obtain ⟨iz, hin, hz, hsz, hbb⟩ := info_parts info5
  have m3 := cut_to (P := Try.prog) 23 5 .i64 Try.underlying23 hin (some ad) l0.length c0 hd (by omega) (by omega) HC.out
  have hrh := Kd.C_take (m := hd.toNat) HR.out (by omega)
  obtain ⟨ysh, hysh⟩ : ∃ y, y = l0.take hd.toNat := ⟨_, rfl⟩
  rw [← hysh] at hs hrh
  have kh : hd.toNat = ysh.length := by rw [hysh]; simp; omega
  rw [kh] at m3
  have HRH := Aside0.mk hrh
  have HCH : Aside0 (ysh.length ≤ c0) := ⟨by rw [← kh]; have := HC.out; omega⟩
  have HS := Aside0.mk hs
  clear hh1 hh2 hrh hs hysh kh hin hz hsz hbb
  by_cases c9 : s ≠ 65535
  · rw [if_pos c9] at h
    simp only [ip_Parse.zero, Option.some.injEq, Prod.mk.injEq] at h
    obtain ⟨rfl, rfl, rfl, rfl, rfl, rfl, rfl, rfl, rfl, rfl, rfl, rfl⟩ := h
    have c9b0 : (s != 65535) = true := bne_iff_ne.2 c9
    have c9b1 : (s == 65535) = false := beq_eq_false_iff_ne.2 c9
    clear c9
    go_enter_defers Try.func61, Try.ntmps61
    go_wp2_with (first | (go_at_call 105; (with_reducible refine (ip_refuse.pass _ _).mono ?_); rintro e' w1 ⟨rfl, rfl⟩) | (go_at_call 106; have tk_ := tok1; refine (ip_get.calls (some ad) c0 l0 2 2 tot _ (Kd.C_below HR.out HB.out) HC.out HTOT.out).mono ?_; rintro e' w1 ⟨rfl, hd1⟩; have hb1 := hd1.below; clear hd1 tok1 tk_; have n1 := Aside0.mk (blk_below HP.out hb1); have n2 := Aside0.mk (below_step HB.out hb1); have n3 := Aside0.mk (blk_below HQ3.out hb1); clear HP HB HQ3 hb1; have HP := n1; have HB := n2; have HQ3 := n3; clear n1 n2 n3) | (go_at_call 106; have tk_ := tok2; refine (ip_get.calls (some ad) c0 l0 6 2 part _ (Kd.C_below HR.out HB.out) HC.out HPART.out).mono ?_; rintro e' w2 ⟨rfl, hd1⟩; have hb1 := hd1.below; clear hd1 tok2 tk_; have n1 := Aside0.mk (blk_below HP.out hb1); have n2 := Aside0.mk (below_step HB.out hb1); have n3 := Aside0.mk (blk_below HQ3.out hb1); clear HP HB HQ3 hb1; have HP := n1; have HB := n2; have HQ3 := n3; clear n1 n2 n3) | (go_at_call 107; refine (octet_Sum.calls (some ⟨w2.heap.size, 0, none⟩) 1 [ysh] s _ (C_one (heap_alloc_new w2 _) HCH.out (Kd.C_alloc (Kd.C_below HRH.out HB.out) _)) (Nat.le_refl 1) HS.out).mono ?_; rintro e' w3 ⟨rfl, hb1⟩; have n1 := Aside0.mk (blk_below (blk_alloc HP.out _) hb1); have n2 := Aside0.mk (below_step (below_alloc HB.out _) hb1); have n3 := Aside0.mk (blk_below (blk_alloc HQ3.out _) hb1); clear HP HB HQ3 hb1; have HP := n1; have HB := n2; have HQ3 := n3; clear n1 n2 n3) | (go_at_call 105; (with_reducible refine (ip_refuse.gives _ _).mono ?_); rintro e' w1 ⟨rfl, rfl⟩))
    refine ip_Parse.refused rfl rfl HP.out HQ3.out (by omega) HB.out (Nat.le_refl _) (Nat.le_succ _) ?_
    intro w' hb
    exact ⟨_, _, rfl, Kd.R_nil _ _ _ _ _, Kd.R_nil _ _ _ _ _, hb⟩
  rw [if_neg c9] at h
  have c9b0 : (s != 65535) = false := bne_eq_false_iff_eq.2 (Classical.not_not.1 c9)
  have c9b1 : (s == 65535) = true := beq_iff_eq.2 (Classical.not_not.1 c9)
  clear c9
  obtain ⟨id, hid, h⟩ := Option.bind_eq_some_iff.mp h
  obtain ⟨src, hsrc, h⟩ := Option.bind_eq_some_iff.mp h
  obtain ⟨dst, hdst, h⟩ := Option.bind_eq_some_iff.mp h
  simp only [Option.some.injEq, Prod.mk.injEq] at h
  have HG := Aside0.mk (And.intro hid (And.intro hsrc hdst))
  have HRS := Aside0.mk h
  clear hid hsrc hdst h
  go_enter_defers Try.func61, Try.ntmps61
  go_wp2_with (first | (go_at_call 105; (with_reducible refine (ip_refuse.pass _ _).mono ?_); rintro e' w1 ⟨rfl, rfl⟩) | (go_at_call 106; have tk_ := tok1; refine (ip_get.calls (some ad) c0 l0 2 2 tot _ (Kd.C_below HR.out HB.out) HC.out HTOT.out).mono ?_; rintro e' w1 ⟨rfl, hd1⟩; have hb1 := hd1.below; clear hd1 tok1 tk_; have n1 := Aside0.mk (blk_below HP.out hb1); have n2 := Aside0.mk (below_step HB.out hb1); have n3 := Aside0.mk (blk_below HQ3.out hb1); clear HP HB HQ3 hb1; have HP := n1; have HB := n2; have HQ3 := n3; clear n1 n2 n3) | (go_at_call 106; have tk_ := tok2; refine (ip_get.calls (some ad) c0 l0 6 2 part _ (Kd.C_below HR.out HB.out) HC.out HPART.out).mono ?_; rintro e' w2 ⟨rfl, hd1⟩; have hb1 := hd1.below; clear hd1 tok2 tk_; have n1 := Aside0.mk (blk_below HP.out hb1); have n2 := Aside0.mk (below_step HB.out hb1); have n3 := Aside0.mk (blk_below HQ3.out hb1); clear HP HB HQ3 hb1; have HP := n1; have HB := n2; have HQ3 := n3; clear n1 n2 n3) | (go_at_call 107; refine (octet_Sum.calls (some ⟨w2.heap.size, 0, none⟩) 1 [ysh] s _ (C_one (heap_alloc_new w2 _) HCH.out (Kd.C_alloc (Kd.C_below HRH.out HB.out) _)) (Nat.le_refl 1) HS.out).mono ?_; rintro e' w3 ⟨rfl, hb1⟩; have n1 := Aside0.mk (blk_below (blk_alloc HP.out _) hb1); have n2 := Aside0.mk (below_step (below_alloc HB.out _) hb1); have n3 := Aside0.mk (blk_below (blk_alloc HQ3.out _) hb1); clear HP HB HQ3 hb1; have HP := n1; have HB := n2; have HQ3 := n3; clear n1 n2 n3))
  refine ip_Parse.r11 (w0 := w) x1 x8 x9 id src dst HP.out HQ3.out (Nat.le_refl _) (Nat.le_succ _) (by omega) HR.out HC.out HB.out (by have := HL.out; omega) (by have := HC4.out; omega) (by have := HC6.out; omega) (by have := HC8.out; omega) HX.out.1 HX.out.2.1 HX.out.2.2 HCR.out.2.1 HCR.out.2.2.1 HCR.out.2.2.2 HG.out.1 HG.out.2.1 HG.out.2.2 ?_
  intro y62 y63 y64 y65 y66 y67 y68 y69 y70 y71 y72 y73 y74 y75 y76 y77 y78 y79 y80 y81 y82 y83 y84 y85 y86 y87 y88 y89 y90 y91 y92 y93 y94 y95 y96 y97 y98 y99 v9 v10 w4 hq4 hp4 h9 h10 hnn hb
  obtain ⟨ys9, hys9⟩ : ∃ y, y = (l0.take hd.toNat).drop 20 := ⟨_, rfl⟩
  obtain ⟨ys10, hys10⟩ : ∃ y, y = (l0.take tot.toNat).drop hd.toNat := ⟨_, rfl⟩
  have HY := Aside0.mk (And.intro hys9 hys10)
  rw [← hys9] at h9
  rw [← hys10] at h10
  clear hys9 hys10
  have HP4 := Aside0.mk hp4
  have HQ4 := Aside0.mk hq4
  have HO9 := Aside0.mk h9
  have HO10 := Aside0.mk h10
  have HNN := Aside0.mk hnn
  have HB4 := Aside0.mk hb
  clear hp4 hq4 h9 h10 hnn hb HP HQ3 HB
  go_wp2
  refine leaves_cons (f := 103) (args := #[.pointer (some ⟨w.heap.size, 0, none⟩), .pointer (some ⟨w.heap.size + 1, 0, none⟩)]) (by simp) (by simp [go_sem]) ?_
  refine (ip_Parse.idle w.heap.size (w.heap.size + 1) _).mono ?_
  rintro e' u' w5 ⟨rfl, rfl, rfl⟩
  obtain ⟨rfl, rfl, rfl, rfl, rfl, rfl, rfl, q7, q8, q9, q10, rfl⟩ := HRS.out
  subst q7 q8
  have q9' : ys9 = r9 := by rw [HY.out.1]; exact q9
  have q10' : ys10 = r10 := by rw [HY.out.2]; exact q10
  subst q9' q10'
  refine ⟨_, results_cs rfl _ _ w.heap.size (w.heap.size + 1) 29 47 _ (.int .i64 0) (0, 0) (0, 0) _ rfl HP4.out Try.underlying29 rfl rfl rfl HQ4.out (fun w h => errno_load _ _ w h), ?_⟩
  refine ⟨_, _, rfl, ?_, ?_, HB4.out⟩
  · exact Kd.R_of_own (Kd.own_of_R HO9.out) (fun k hk hk' => HNN.out k hk hk'.symm)
  · exact Kd.R_of_own (Kd.own_of_R HO10.out) (fun k hk hk' => HNN.out k hk'.symm hk)

end Go.Proofs.Ytljnnhloinbjhaa.P
