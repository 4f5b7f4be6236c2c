/- FrameShort: of a frame that is read, and is no fault, the first bytes from eight behind the header on quote its ends, and one byte less does not. For at most 5000 bytes. -/
--@ hand
import Derived.Test.YtljnnhloinbjhaaPframeRead
import Derived.Test.YtljnnhloinbjhaaPframeQuote
import Derived.Test.YtljnnhloinbjhaaPbailiwicklaw6
import Derived.Test.YtljnnhloinbjhaaPureLibF
import Derived.Test.YtljnnhloinbjhaaPureLibFS
import Derived.Test.YtljnnhloinbjhaaPureWHand
import Derived.Test.YtljnnhloinbjhaaPframe
import Derived.Great.Ranges
namespace Go.Proofs.Ytljnnhloinbjhaa.Pure
open Go.RowKit Go.Proofs.Ytljnnhloinbjhaa.P Go.Proofs.YtljnnhloinbjhaaW.PrintWords Go.Proofs.YtljnnhloinbjhaaW.PrintLast Go.Proofs.YtljnnhloinbjhaaW.PrintMore
set_option linter.unusedVariables false
set_option linter.unusedSimpArgs false
set_option maxHeartbeats 8000000 in
set_option maxRecDepth 100000 in
theorem short_r13 {s0 s1 s2 s3 s4 s6 s7 s10 s12 s13 s14 s15 s16 s17 s18 s19 s20 s21 s22 s23 s24 s25 s26 s27 s28 s29 s30 s31 s32 s33 s34 s35 s36 s37 s38 s39 s40 s41 s42 s43 s44 s45 s46 s47 s48 s49 s50 s51 s52 s53 s54 s55 s56 s57 s58 s59 s60 s61 s62 s63 s64 s65 s66 s67 s68 s69 s70 s71 s72 s73 s74 s75 s76 s77 s78 s79 s80 s81 s82 s83 s84 s85 s86 s87 s88 s89 s90 s91 s92 s93 s94 : Value} {D : List Deferred} {p q : Nat} {pr sa sp da dp kd : Int} {w : World} {Q : Exit → Act → World → Prop}
    (hq0 : w.cell? ⟨q, 0, none⟩ = some (.int .i64 pr)) (hq1 : w.cell? ⟨q, 1, none⟩ = some (.int .u32 sa)) (hq2 : w.cell? ⟨q, 2, none⟩ = some (.int .i64 sp)) (hq3 : w.cell? ⟨q, 3, none⟩ = some (.int .u32 da)) (hq4 : w.cell? ⟨q, 4, none⟩ = some (.int .i64 dp)) (hp6 : w.cell? ⟨p, 6, none⟩ = some (.int .i64 pr)) (hp11 : w.cell? ⟨p, 11, none⟩ = some (.int .i64 kd)) (hp12 : w.cell? ⟨p, 12, none⟩ = some (.int .u32 sa)) (hp13 : w.cell? ⟨p, 13, none⟩ = some (.int .i64 sp)) (hp14 : w.cell? ⟨p, 14, none⟩ = some (.int .u32 da)) (hp15 : w.cell? ⟨p, 15, none⟩ = some (.int .i64 dp)) (hf : frame_Proto.f kd = some pr)
    (hQ : ∀ y59 y60 y61 y62 y63 y64 y65 y66 y67 y68 y69 y70 y71 y72 y73 y74 y75 y76 y77 y78 y79 y80 y81 y82 y83 y84 y85 y86 y87 y88 y89 y90 y91 y92 y93 y94 n, Q .normal ⟨#[s0, s1, s2, s3, .bool true, .pointer (some ⟨p, 0, none⟩), s6, s7, .pointer (some ⟨q, 0, none⟩), .bool true, s10, .bool false, s12, s13, s14, s15, s16, s17, s18, s19, s20, s21, s22, s23, s24, s25, s26, s27, s28, s29, s30, s31, s32, s33, s34, s35, s36, s37, s38, s39, s40, s41, s42, s43, s44, s45, s46, s47, s48, s49, s50, s51, s52, s53, s54, s55, s56, s57, s58, y59, y60, y61, y62, y63, y64, y65, y66, y67, y68, y69, y70, y71, y72, y73, y74, y75, y76, y77, y78, y79, y80, y81, y82, y83, y84, y85, y86, y87, y88, y89, y90, y91, y92, y93, y94], D⟩ (w.drew.drewN n)) :
    (regionIn 13 Try.f6).wp Try.prog Q ⟨#[s0, s1, s2, s3, s4, .pointer (some ⟨p, 0, none⟩), s6, s7, .pointer (some ⟨q, 0, none⟩), .bool true, s10, .bool false, s12, s13, s14, s15, s16, s17, s18, s19, s20, s21, s22, s23, s24, s25, s26, s27, s28, s29, s30, s31, s32, s33, s34, s35, s36, s37, s38, s39, s40, s41, s42, s43, s44, s45, s46, s47, s48, s49, s50, s51, s52, s53, s54, s55, s56, s57, s58, s59, s60, s61, s62, s63, s64, s65, s66, s67, s68, s69, s70, s71, s72, s73, s74, s75, s76, s77, s78, s79, s80, s81, s82, s83, s84, s85, s86, s87, s88, s89, s90, s91, s92, s93, s94], D⟩ w := by
  conv => arg 2; whnf
  have hu37 := Try.underlying37
  have hu35 := Try.underlying35
  have hu27 := Try.underlying27
  have hu29 := Try.underlying29
  have HF := Aside0.mk hf
  have HQ := Aside0.mk hQ
  clear hf hQ
  refine wp_region_noPanic ?_
  go_region_held3 (fun w' => w'.cell? ⟨q, 0, none⟩ = some (.int .i64 pr) ∧ w'.cell? ⟨q, 1, none⟩ = some (.int .u32 sa) ∧ w'.cell? ⟨q, 2, none⟩ = some (.int .i64 sp) ∧ w'.cell? ⟨q, 3, none⟩ = some (.int .u32 da) ∧ w'.cell? ⟨q, 4, none⟩ = some (.int .i64 dp) ∧ w'.cell? ⟨p, 6, none⟩ = some (.int .i64 pr) ∧ w'.cell? ⟨p, 11, none⟩ = some (.int .i64 kd) ∧ w'.cell? ⟨p, 12, none⟩ = some (.int .u32 sa) ∧ w'.cell? ⟨p, 13, none⟩ = some (.int .i64 sp) ∧ w'.cell? ⟨p, 14, none⟩ = some (.int .u32 da) ∧ w'.cell? ⟨p, 15, none⟩ = some (.int .i64 dp))
    (first | exact ⟨hq0, hq1, hq2, hq3, hq4, hp6, hp11, hp12, hp13, hp14, hp15⟩ | go_keep)
    (first
      | (refine goes_ (f := 30) Try.func30 (by kernel_rfl) rfl #[.int .i64 kd] (by rfl) rfl rfl ?ha ?_
         (case ha => first | rfl | (go_simp; done) | (simp [Act.eval]; done))
         refine (frame_Proto.calls kd pr _ HF.out).mono ?_
         rintro e w1 ⟨rfl, ⟨nd, rfl⟩⟩
         refine ⟨_, rfl, ?_⟩))
  exact NoPanic.normal (HQ.out _ _ _ _ _ _ _ _ _ _ _ _ _ _ _ _ _ _ _ _ _ _ _ _ _ _ _ _ _ _ _ _ _ _ _ _ _)
set_option maxHeartbeats 8000000 in
set_option maxRecDepth 100000 in
theorem FrameShort (A0 : Option Addr) (c0 : Nat) (l0 : List Int) (a1 : Int) (W : World) (hr : Kd.C (Kd.int .u8) W A0 l0.length l0) (hc : l0.length ≤ c0) (hb0 : l0.length ≤ maxLen ∧ l0.length * 1 ≤ 140737488351232 ∧ ∀ a_ ∈ l0, (Lit.int .u8 a_).wf = true) (hw : (Lit.int .i64 a1).wf = true) :
    Calls Try.prog 6 #[.slice A0 l0.length c0, .int .i64 a1] W fun e w' => e = .returned (.bool true) ∧ Below W.heap.size W w' := by
  have hu37 := Try.underlying37
  have hu35 := Try.underlying35
  have hu29 := Try.underlying29
  have hb : Bytes l0 := bytes_of hb0.2.2
  obtain ⟨i0, hi, hz, hsz, hbb⟩ := info_parts info5
  clear hz hbb
  obtain ⟨⟨r0, r1, r2, r3, r4, r5, r6, r7, r8, r9, r10, r11, r12, r13, r14, r15, r16, r17, r18, r19, r20, r21, r22⟩, hr'⟩ : ∃ r, r = fRead l0 := ⟨_, rfl⟩
  have hq := fRead_to l0 hb 60 (by decide)
  have key := short_good l0 hb
  rw [← hr'] at hq key
  have HR := Aside0.mk hr
  have HC := Aside0.mk hc
  have HQ := Aside0.mk hq
  have HK := Aside0.mk key
  have HL := Aside0.mk hb0
  clear hr hc hq key hr' hw hb0
  go_enter Try.func6, Try.ntmps6
  go_wp2_with (fail)
  ((refine (bailiwicklaw6_awake.calls true _ rfl).mono ?_); rintro e w1 ⟨rfl, hb1⟩; have HB1 := Aside0.mk hb1; clear hb1)
  by_cases c : (l0.length : Int) > 5000
  · have c0b : decide ((5000 : Int) < (l0.length : Int)) = true := decide_eq_true c
    have c1b : decide (5000 < l0.length) = true := decide_eq_true (by omega)
    clear c
    go_wp2
    go_ret
    exact ⟨by first | rfl | (simp; done), by repeat (first | (with_reducible first | exact HB1.out | apply below_alloc | apply pw_below_drewN | apply below_drew1) | exact HB1.out)⟩
  have c0b : decide ((5000 : Int) < (l0.length : Int)) = false := decide_eq_false (by omega)
  have c1b : decide (5000 < l0.length) = false := decide_eq_false (by omega)
  go_upto_region 6 with (first
    | (go_at_call 25; (refine (frame_Read.calls 60 A0 c0 l0 r0 r1 r2 r3 r4 r5 r6 r7 r8 r9 r10 r11 r12 r13 r14 r15 r16 r17 r18 r19 r20 r21 r22 _ (Kd.C_below HR.out HB1.out) HC.out HQ.out).mono ?_); rintro e w2 ⟨v9, v10, rfl, ho9, ho10, hb2⟩; obtain ⟨A9, c9, rfl⟩ := Kd.R_slice ho9; obtain ⟨A10, c10, rfl⟩ := Kd.R_slice ho10; have HB2 := Aside0.mk (below_step HB1.out hb2); clear hb2 ho9 ho10)
    | (refine wpList_store_row rfl 37 (.tmp 5) (.tmp 20) rfl w2.heap.size #[.int .i64 r0, .int .i64 r1, .bool r2, .bool r3, .int .i64 r4, .int .i64 r5, .int .i64 r6, .int .u32 r7, .int .u32 r8, .slice A9 r9.length c9, .slice A10 r10.length c10, .int .i64 r11, .int .u32 r12, .int .i64 r13, .int .u32 r14, .int .i64 r15, .int .i64 r16, .int .i64 r17, .int .u32 r18, .int .i64 r19, .int .u32 r20, .int .i64 r21] (by rfl) (by rfl) 37 #[.int .i64 0, .int .i64 0, .bool false, .bool false, .int .i64 0, .int .i64 0, .int .i64 0, .int .u32 0, .int .u32 0, .slice none 0 0, .slice none 0 0, .int .i64 0, .int .u32 0, .int .i64 0, .int .u32 0, .int .i64 0, .int .i64 0, .int .i64 0, .int .u32 0, .int .i64 0, .int .u32 0, .int .i64 0] (by exact heap_alloc_new _ _) (by kernel_rfl) rfl (by kernel_rfl) ?_))
  obtain ⟨p, hp⟩ : ∃ p, p = w2.heap.size := ⟨_, rfl⟩
  have HP := Aside0.mk (setRow_heap _ _ _ #[.int .i64 r0, .int .i64 r1, .bool r2, .bool r3, .int .i64 r4, .int .i64 r5, .int .i64 r6, .int .u32 r7, .int .u32 r8, .slice A9 r9.length c9, .slice A10 r10.length c10, .int .i64 r11, .int .u32 r12, .int .i64 r13, .int .u32 r14, .int .i64 r15, .int .i64 r16, .int .i64 r17, .int .u32 r18, .int .i64 r19, .int .u32 r20, .int .i64 r21] _ _ (heap_alloc_new w2 (.cells #[.int .i64 0, .int .i64 0, .bool false, .bool false, .int .i64 0, .int .i64 0, .int .i64 0, .int .u32 0, .int .u32 0, .slice none 0 0, .slice none 0 0, .int .i64 0, .int .u32 0, .int .i64 0, .int .u32 0, .int .i64 0, .int .i64 0, .int .i64 0, .int .u32 0, .int .i64 0, .int .u32 0, .int .i64 0] 37)))
  have HB3 := Aside0.mk (below_row (cs := #[.int .i64 r0, .int .i64 r1, .bool r2, .bool r3, .int .i64 r4, .int .i64 r5, .int .i64 r6, .int .u32 r7, .int .u32 r8, .slice A9 r9.length c9, .slice A10 r10.length c10, .int .i64 r11, .int .u32 r12, .int .i64 r13, .int .u32 r14, .int .i64 r15, .int .i64 r16, .int .i64 r17, .int .u32 r18, .int .i64 r19, .int .u32 r20, .int .i64 r21]) (below_alloc HB2.out (.cells #[.int .i64 0, .int .i64 0, .bool false, .bool false, .int .i64 0, .int .i64 0, .int .i64 0, .int .u32 0, .int .u32 0, .slice none 0 0, .slice none 0 0, .int .i64 0, .int .u32 0, .int .i64 0, .int .u32 0, .int .i64 0, .int .i64 0, .int .i64 0, .int .u32 0, .int .i64 0, .int .u32 0, .int .i64 0] 37)) (below_size HB2.out))
  rw [← hp] at HP HB3 ⊢
  clear hp HB2
  generalize ((w2.alloc (.cells #[.int .i64 0, .int .i64 0, .bool false, .bool false, .int .i64 0, .int .i64 0, .int .i64 0, .int .u32 0, .int .u32 0, .slice none 0 0, .slice none 0 0, .int .i64 0, .int .u32 0, .int .i64 0, .int .u32 0, .int .i64 0, .int .i64 0, .int .i64 0, .int .u32 0, .int .i64 0, .int .u32 0, .int .i64 0] 37)).setRow p #[.int .i64 r0, .int .i64 r1, .bool r2, .bool r3, .int .i64 r4, .int .i64 r5, .int .i64 r6, .int .u32 r7, .int .u32 r8, .slice A9 r9.length c9, .slice A10 r10.length c10, .int .i64 r11, .int .u32 r12, .int .i64 r13, .int .u32 r14, .int .i64 r15, .int .i64 r16, .int .i64 r17, .int .u32 r18, .int .i64 r19, .int .u32 r20, .int .i64 r21]) = w3 at HP HB3 ⊢
  have h9 : w3.cell? ⟨p, 9, none⟩ = some (.slice A9 r9.length c9) := (blk_cell HP.out 9).trans rfl
  have h11 : w3.cell? ⟨p, 11, none⟩ = some (.int .i64 r11) := (blk_cell HP.out 11).trans rfl
  by_cases e : r22 = 0
  case neg =>
    have e0 : (r22 != 0) = true := bne_iff_ne.2 e
    have e1 : (r22 == 0) = false := beq_eq_false_iff_ne.2 e
    clear e
    go_wp2
    go_ret
    exact ⟨by first | rfl | (simp; done), by repeat (first | (with_reducible first | exact HB3.out | apply below_alloc | apply pw_below_drewN | apply below_drew1) | exact HB3.out)⟩
  have e0 : (r22 != 0) = false := bne_eq_false_iff_eq.2 e
  have e1 : (r22 == 0) = true := beq_iff_eq.2 e
  by_cases e5 : r11 = 5
  · have e6 : (r11 == 5) = true := beq_iff_eq.2 e5
    clear e e5
    go_wp2
    go_ret
    exact ⟨by first | rfl | (simp; done), by repeat (first | (with_reducible first | exact HB3.out | apply below_alloc | apply pw_below_drewN | apply below_drew1) | exact HB3.out)⟩
  have e6 : (r11 == 5) = false := beq_eq_false_iff_ne.2 e5
  obtain ⟨g1, g2, g3, g4, g5, g6, g7⟩ := HK.out e e5
  obtain ⟨hd, hhd⟩ : ∃ h, h = ihead l0 := ⟨_, rfl⟩
  rw [← hhd] at g1 g2 g3 g4 g6 g7
  clear hhd e e5 HK
  have g4' : (r9.length : Int) = hd - 20 := g4
  have ew : wrap64 (28 + (r9.length : Int)) = hd + 8 := by rw [g4', w64 (by omega) (by omega)]; omega
  have ew1 : wrap64 (hd + 8 - 1) = hd + 7 := by rw [w64 (by omega) (by omega)]; omega
  obtain ⟨hcut0, hA0, hC0⟩ := print_take_of (P := Try.prog) (Value.int .u8) 0 23 5 .i64 Try.underlying23 hi hsz A0 c0 l0 (hd + 7) (by omega) (by omega) HC.out
  have HR0 : Aside0 (Kd.C (Kd.int .u8) W A0 (l0.take (hd + 7).toNat).length (l0.take (hd + 7).toNat)) := Aside0.mk (Kd.C_of_reads (h1 := fun _ => rfl) (hA0 _ (Kd.reads_of_C HR.out)))
  have HC0 := Aside0.mk hC0
  have HQ0 : Aside0 (frame_Quote.f (l0.take (hd + 7).toNat) = some (0, 0, 0, 0, 0, false)) := ⟨by rw [fquote_frame _ (fun c hc => hb c (List.mem_of_mem_take hc)), g7 (hd + 7).toNat (by omega) (by omega)]; rfl⟩
  clear hC0 hA0 g4 g7 g4'
  generalize l0.take (hd + 7).toNat = lq0 at hcut0 HR0 HC0 HQ0
  by_cases n1 : a1 < hd + 8
  · have n2 : decide (a1 < hd + 8) = true := decide_eq_true n1
    obtain ⟨hcut1, hA1, hC1⟩ := print_take_of (P := Try.prog) (Value.int .u8) 0 23 5 .i64 Try.underlying23 hi hsz A0 c0 l0 (hd + 8) (by omega) (by omega) HC.out
    have HR1 : Aside0 (Kd.C (Kd.int .u8) W A0 (l0.take (hd + 8).toNat).length (l0.take (hd + 8).toNat)) := Aside0.mk (Kd.C_of_reads (h1 := fun _ => rfl) (hA1 _ (Kd.reads_of_C HR.out)))
    have HC1 := Aside0.mk hC1
    have HQ1 : Aside0 (frame_Quote.f (l0.take (hd + 8).toNat) = some (r6, r12, r13, r14, r15, true)) := ⟨by rw [fquote_frame _ (fun c hc => hb c (List.mem_of_mem_take hc)), g6 (hd + 8).toNat (by omega) (by omega)]⟩
    clear hC1 hA1 g6 g3 g1 g2 HR HC HQ HL hb
    generalize l0.take (hd + 8).toNat = lq1 at hcut1 HR1 HC1 HQ1
    go_upto_region 12 with (go_at_call 28; (refine (frame_Quote.calls A0 c0 lq1 r6 r12 r13 r14 r15 true _ (Kd.C_below HR1.out HB3.out) HC1.out HQ1.out).mono ?_); rintro e w4 ⟨rfl, hb4⟩; have HB4 := Aside0.mk (below_step HB3.out hb4); have HP4 := Aside0.mk (blk_below HP.out hb4); clear hb4)
    obtain ⟨q, hq_⟩ : ∃ q, q = w4.heap.size := ⟨_, rfl⟩
    have HV5 := Aside0.mk (heap_alloc_new w4 (.cells #[.int .i64 r6, .int .u32 r12, .int .i64 r13, .int .u32 r14, .int .i64 r15] 35))
    have HP5 := Aside0.mk (blk_alloc HP4.out (.cells #[.int .i64 r6, .int .u32 r12, .int .i64 r13, .int .u32 r14, .int .i64 r15] 35))
    have HB5 := Aside0.mk (below_alloc HB4.out (.cells #[.int .i64 r6, .int .u32 r12, .int .i64 r13, .int .u32 r14, .int .i64 r15] 35))
    rw [← hq_] at HV5 ⊢
    clear HP4 HB4 hq_
    generalize (w4.alloc (.cells #[.int .i64 r6, .int .u32 r12, .int .i64 r13, .int .u32 r14, .int .i64 r15] 35)) = w5 at HV5 HP5 HB5 ⊢
    go_upto_region 13 with (go_at_call 28; (refine (frame_Quote.calls A0 c0 lq0 0 0 0 0 0 false _ (Kd.C_below HR0.out HB5.out) HC0.out HQ0.out).mono ?_); rintro e w6 ⟨rfl, hb6⟩; have HB6 := Aside0.mk (below_step HB5.out hb6); have HP6 := Aside0.mk (blk_below HP5.out hb6); have HV6 := Aside0.mk (blk_below HV5.out hb6); clear hb6)
    have HV7 := Aside0.mk (blk_alloc HV6.out (.cells #[.int .i64 0, .int .u32 0, .int .i64 0, .int .u32 0, .int .i64 0] 35))
    have HP7 := Aside0.mk (blk_alloc HP6.out (.cells #[.int .i64 0, .int .u32 0, .int .i64 0, .int .u32 0, .int .i64 0] 35))
    have HB7 := Aside0.mk (below_alloc HB6.out (.cells #[.int .i64 0, .int .u32 0, .int .i64 0, .int .u32 0, .int .i64 0] 35))
    clear HV6 HP6 HB6
    generalize (w6.alloc (.cells #[.int .i64 0, .int .u32 0, .int .i64 0, .int .u32 0, .int .i64 0] 35)) = w7 at HV7 HP7 HB7 ⊢
    refine short_r13 (p := p) (q := q) (pr := r6) (sa := r12) (sp := r13) (da := r14) (dp := r15) (kd := r11) ((blk_cell HV7.out 0).trans rfl) ((blk_cell HV7.out 1).trans rfl) ((blk_cell HV7.out 2).trans rfl) ((blk_cell HV7.out 3).trans rfl) ((blk_cell HV7.out 4).trans rfl) ((blk_cell HP7.out 6).trans rfl) ((blk_cell HP7.out 11).trans rfl) ((blk_cell HP7.out 12).trans rfl) ((blk_cell HP7.out 13).trans rfl) ((blk_cell HP7.out 14).trans rfl) ((blk_cell HP7.out 15).trans rfl) g5 ?_
    intro y59 y60 y61 y62 y63 y64 y65 y66 y67 y68 y69 y70 y71 y72 y73 y74 y75 y76 y77 y78 y79 y80 y81 y82 y83 y84 y85 y86 y87 y88 y89 y90 y91 y92 y93 y94 n_
    go_wp2
    go_ret
    exact ⟨by first | rfl | (simp; done), by repeat (first | (with_reducible first | exact HB7.out | apply below_alloc | apply pw_below_drewN | apply below_drew1) | exact HB7.out)⟩
  have n2 : decide (a1 < hd + 8) = false := decide_eq_false n1
  by_cases n3 : (l0.length : Int) < a1
  · have n4 : decide ((l0.length : Int) < a1) = true := decide_eq_true n3
    obtain ⟨hcut1, hA1, hC1⟩ := print_take_of (P := Try.prog) (Value.int .u8) 0 23 5 .i64 Try.underlying23 hi hsz A0 c0 l0 (hd + 8) (by omega) (by omega) HC.out
    have HR1 : Aside0 (Kd.C (Kd.int .u8) W A0 (l0.take (hd + 8).toNat).length (l0.take (hd + 8).toNat)) := Aside0.mk (Kd.C_of_reads (h1 := fun _ => rfl) (hA1 _ (Kd.reads_of_C HR.out)))
    have HC1 := Aside0.mk hC1
    have HQ1 : Aside0 (frame_Quote.f (l0.take (hd + 8).toNat) = some (r6, r12, r13, r14, r15, true)) := ⟨by rw [fquote_frame _ (fun c hc => hb c (List.mem_of_mem_take hc)), g6 (hd + 8).toNat (by omega) (by omega)]⟩
    clear hC1 hA1 g6 g3 g1 g2 HR HC HQ HL hb
    generalize l0.take (hd + 8).toNat = lq1 at hcut1 HR1 HC1 HQ1
    go_upto_region 12 with (go_at_call 28; (refine (frame_Quote.calls A0 c0 lq1 r6 r12 r13 r14 r15 true _ (Kd.C_below HR1.out HB3.out) HC1.out HQ1.out).mono ?_); rintro e w4 ⟨rfl, hb4⟩; have HB4 := Aside0.mk (below_step HB3.out hb4); have HP4 := Aside0.mk (blk_below HP.out hb4); clear hb4)
    obtain ⟨q, hq_⟩ : ∃ q, q = w4.heap.size := ⟨_, rfl⟩
    have HV5 := Aside0.mk (heap_alloc_new w4 (.cells #[.int .i64 r6, .int .u32 r12, .int .i64 r13, .int .u32 r14, .int .i64 r15] 35))
    have HP5 := Aside0.mk (blk_alloc HP4.out (.cells #[.int .i64 r6, .int .u32 r12, .int .i64 r13, .int .u32 r14, .int .i64 r15] 35))
    have HB5 := Aside0.mk (below_alloc HB4.out (.cells #[.int .i64 r6, .int .u32 r12, .int .i64 r13, .int .u32 r14, .int .i64 r15] 35))
    rw [← hq_] at HV5 ⊢
    clear HP4 HB4 hq_
    generalize (w4.alloc (.cells #[.int .i64 r6, .int .u32 r12, .int .i64 r13, .int .u32 r14, .int .i64 r15] 35)) = w5 at HV5 HP5 HB5 ⊢
    go_upto_region 13 with (go_at_call 28; (refine (frame_Quote.calls A0 c0 lq0 0 0 0 0 0 false _ (Kd.C_below HR0.out HB5.out) HC0.out HQ0.out).mono ?_); rintro e w6 ⟨rfl, hb6⟩; have HB6 := Aside0.mk (below_step HB5.out hb6); have HP6 := Aside0.mk (blk_below HP5.out hb6); have HV6 := Aside0.mk (blk_below HV5.out hb6); clear hb6)
    have HV7 := Aside0.mk (blk_alloc HV6.out (.cells #[.int .i64 0, .int .u32 0, .int .i64 0, .int .u32 0, .int .i64 0] 35))
    have HP7 := Aside0.mk (blk_alloc HP6.out (.cells #[.int .i64 0, .int .u32 0, .int .i64 0, .int .u32 0, .int .i64 0] 35))
    have HB7 := Aside0.mk (below_alloc HB6.out (.cells #[.int .i64 0, .int .u32 0, .int .i64 0, .int .u32 0, .int .i64 0] 35))
    clear HV6 HP6 HB6
    generalize (w6.alloc (.cells #[.int .i64 0, .int .u32 0, .int .i64 0, .int .u32 0, .int .i64 0] 35)) = w7 at HV7 HP7 HB7 ⊢
    refine short_r13 (p := p) (q := q) (pr := r6) (sa := r12) (sp := r13) (da := r14) (dp := r15) (kd := r11) ((blk_cell HV7.out 0).trans rfl) ((blk_cell HV7.out 1).trans rfl) ((blk_cell HV7.out 2).trans rfl) ((blk_cell HV7.out 3).trans rfl) ((blk_cell HV7.out 4).trans rfl) ((blk_cell HP7.out 6).trans rfl) ((blk_cell HP7.out 11).trans rfl) ((blk_cell HP7.out 12).trans rfl) ((blk_cell HP7.out 13).trans rfl) ((blk_cell HP7.out 14).trans rfl) ((blk_cell HP7.out 15).trans rfl) g5 ?_
    intro y59 y60 y61 y62 y63 y64 y65 y66 y67 y68 y69 y70 y71 y72 y73 y74 y75 y76 y77 y78 y79 y80 y81 y82 y83 y84 y85 y86 y87 y88 y89 y90 y91 y92 y93 y94 n_
    go_wp2
    go_ret
    exact ⟨by first | rfl | (simp; done), by repeat (first | (with_reducible first | exact HB7.out | apply below_alloc | apply pw_below_drewN | apply below_drew1) | exact HB7.out)⟩
  have n4 : decide ((l0.length : Int) < a1) = false := decide_eq_false n3
  obtain ⟨hcut1, hA1, hC1⟩ := print_take_of (P := Try.prog) (Value.int .u8) 0 23 5 .i64 Try.underlying23 hi hsz A0 c0 l0 (a1) (by omega) (by omega) HC.out
  have HR1 : Aside0 (Kd.C (Kd.int .u8) W A0 (l0.take (a1).toNat).length (l0.take (a1).toNat)) := Aside0.mk (Kd.C_of_reads (h1 := fun _ => rfl) (hA1 _ (Kd.reads_of_C HR.out)))
  have HC1 := Aside0.mk hC1
  have HQ1 : Aside0 (frame_Quote.f (l0.take (a1).toNat) = some (r6, r12, r13, r14, r15, true)) := ⟨by rw [fquote_frame _ (fun c hc => hb c (List.mem_of_mem_take hc)), g6 (a1).toNat (by omega) (by omega)]⟩
  clear hC1 hA1 g6 g3 g1 g2 HR HC HQ HL hb
  generalize l0.take (a1).toNat = lq1 at hcut1 HR1 HC1 HQ1
  go_upto_region 12 with (go_at_call 28; (refine (frame_Quote.calls A0 c0 lq1 r6 r12 r13 r14 r15 true _ (Kd.C_below HR1.out HB3.out) HC1.out HQ1.out).mono ?_); rintro e w4 ⟨rfl, hb4⟩; have HB4 := Aside0.mk (below_step HB3.out hb4); have HP4 := Aside0.mk (blk_below HP.out hb4); clear hb4)
  obtain ⟨q, hq_⟩ : ∃ q, q = w4.heap.size := ⟨_, rfl⟩
  have HV5 := Aside0.mk (heap_alloc_new w4 (.cells #[.int .i64 r6, .int .u32 r12, .int .i64 r13, .int .u32 r14, .int .i64 r15] 35))
  have HP5 := Aside0.mk (blk_alloc HP4.out (.cells #[.int .i64 r6, .int .u32 r12, .int .i64 r13, .int .u32 r14, .int .i64 r15] 35))
  have HB5 := Aside0.mk (below_alloc HB4.out (.cells #[.int .i64 r6, .int .u32 r12, .int .i64 r13, .int .u32 r14, .int .i64 r15] 35))
  rw [← hq_] at HV5 ⊢
  clear HP4 HB4 hq_
  generalize (w4.alloc (.cells #[.int .i64 r6, .int .u32 r12, .int .i64 r13, .int .u32 r14, .int .i64 r15] 35)) = w5 at HV5 HP5 HB5 ⊢
  go_upto_region 13 with (go_at_call 28; (refine (frame_Quote.calls A0 c0 lq0 0 0 0 0 0 false _ (Kd.C_below HR0.out HB5.out) HC0.out HQ0.out).mono ?_); rintro e w6 ⟨rfl, hb6⟩; have HB6 := Aside0.mk (below_step HB5.out hb6); have HP6 := Aside0.mk (blk_below HP5.out hb6); have HV6 := Aside0.mk (blk_below HV5.out hb6); clear hb6)
  have HV7 := Aside0.mk (blk_alloc HV6.out (.cells #[.int .i64 0, .int .u32 0, .int .i64 0, .int .u32 0, .int .i64 0] 35))
  have HP7 := Aside0.mk (blk_alloc HP6.out (.cells #[.int .i64 0, .int .u32 0, .int .i64 0, .int .u32 0, .int .i64 0] 35))
  have HB7 := Aside0.mk (below_alloc HB6.out (.cells #[.int .i64 0, .int .u32 0, .int .i64 0, .int .u32 0, .int .i64 0] 35))
  clear HV6 HP6 HB6
  generalize (w6.alloc (.cells #[.int .i64 0, .int .u32 0, .int .i64 0, .int .u32 0, .int .i64 0] 35)) = w7 at HV7 HP7 HB7 ⊢
  refine short_r13 (p := p) (q := q) (pr := r6) (sa := r12) (sp := r13) (da := r14) (dp := r15) (kd := r11) ((blk_cell HV7.out 0).trans rfl) ((blk_cell HV7.out 1).trans rfl) ((blk_cell HV7.out 2).trans rfl) ((blk_cell HV7.out 3).trans rfl) ((blk_cell HV7.out 4).trans rfl) ((blk_cell HP7.out 6).trans rfl) ((blk_cell HP7.out 11).trans rfl) ((blk_cell HP7.out 12).trans rfl) ((blk_cell HP7.out 13).trans rfl) ((blk_cell HP7.out 14).trans rfl) ((blk_cell HP7.out 15).trans rfl) g5 ?_
  intro y59 y60 y61 y62 y63 y64 y65 y66 y67 y68 y69 y70 y71 y72 y73 y74 y75 y76 y77 y78 y79 y80 y81 y82 y83 y84 y85 y86 y87 y88 y89 y90 y91 y92 y93 y94 n_
  go_wp2
  go_ret
  exact ⟨by first | rfl | (simp; done), by repeat (first | (with_reducible first | exact HB7.out | apply below_alloc | apply pw_below_drewN | apply below_drew1) | exact HB7.out)⟩
end Go.Proofs.Ytljnnhloinbjhaa.Pure
