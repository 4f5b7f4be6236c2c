/- Region 12 of the law LineBack. No statement of its own. -/
import Derived.Test.YtnbanjbhjjhkdaaDoorPureLibLC
import Derived.Test.YtnbanjbhjjhkdaaDoorPureLib3
import Derived.Test.YtnbanjbhjjhkdaaDoorPbailiwickref1
namespace Go.Proofs.YtnbanjbhjjhkdaaDoor.Pure
open Go.RowKit Go.Proofs.YtnbanjbhjjhkdaaDoor.P Go.Proofs.YtnbanjbhjjhkdaaDoorW.PrintWords Go.Proofs.YtnbanjbhjjhkdaaDoorW.PrintLast Go.Proofs.YtnbanjbhjjhkdaaDoorW.PrintMore
set_option linter.unusedVariables false
set_option linter.unusedSimpArgs false
set_option maxHeartbeats 4000000 in
set_option maxRecDepth 100000 in
theorem back_r12 {s1 s2 s3 s4 s6 s8 s10 s11 s12 s13 s14 s15 s16 s17 s18 s19 s20 s21 s22 s23 s24 s25 s26 s27 s28 s29 s30 s31 s32 s33 s34 s35 s36 s37 s38 s39 s40 s41 s42 s43 s44 s45 s46 s47 s48 s49 s50 s51 s52 s53 s54 s55 s56 s57 s58 s59 s60 s61 s62 s63 s64 s65 s66 s67 s68 s69 s70 s71 s72 s73 s74 s75 s76 s77 s78 s79 s80 s81 s82 s83 s84 s85 s86 s87 s88 s89 s90 s91 s92 s93 s94 s95 s96 s97 s98 s99 s100 s101 s102 s103 s104 s105 s106 s107 s108 s109 s110 s111 s112 s113 s114 s115 s116 s117 s118 s119 s120 s121 s122 s123 s124 s125 s126 s127 s128 s129 s130 s131 s132 s133 s134 s135 s136 s137 s138 : Value} (A : Option Addr) (c : Nat) (l : List Int) (A5 : Option Addr) (c5 : Nat) (X : List Int) (F T M g5 g9 : Nat) (w : World)
    (h51 : w.cell? ⟨g5, 1, none⟩ = some (.int .i64 F)) (h52 : w.cell? ⟨g5, 2, none⟩ = some (.int .i64 T)) (h91 : w.cell? ⟨g9, 1, none⟩ = some (.int .i64 F)) (h92 : w.cell? ⟨g9, 2, none⟩ = some (.int .i64 M))
    (hr : Kd.C (Kd.int .u8) w A l.length l) (hc : l.length ≤ c) (hrX : Kd.C (Kd.int .u8) w A5 X.length X) (hcX : X.length ≤ c5) (hF : F ≤ l.length) (hT : T ≤ l.length) (hFX : F ≤ X.length) (hM : M ≤ X.length) (hl : l.length ≤ 1000000) (e1 : X.take F = l.take F) (e2 : X.drop M = l.drop T)
    (Q : Exit → Act → World → Prop) (hQ : ∀ (y90 y91 y92 y93 y94 y95 y96 y97 y98 y99 y100 y101 y102 y103 y104 y105 y106 y107 y108 y109 y110 : Value) (W' : World), Below w.heap.size w W' → Q .normal ⟨#[.slice A l.length c, s1, s2, s3, s4, .pointer (some ⟨g5, 0, none⟩), s6, .slice A5 X.length c5, s8, .pointer (some ⟨g9, 0, none⟩), s10, s11, s12, s13, s14, s15, s16, s17, s18, s19, s20, s21, s22, s23, s24, s25, s26, s27, s28, s29, s30, s31, s32, s33, s34, s35, s36, s37, s38, s39, s40, s41, s42, s43, s44, s45, s46, s47, s48, s49, s50, s51, s52, s53, s54, s55, s56, s57, s58, s59, s60, s61, s62, s63, s64, s65, s66, s67, s68, s69, s70, s71, s72, s73, s74, s75, s76, s77, s78, s79, s80, s81, s82, s83, s84, s85, s86, s87, s88, s89, y90, y91, y92, y93, y94, y95, y96, y97, y98, y99, y100, y101, y102, y103, y104, y105, y106, y107, y108, y109, y110, .bool false, s112, s113, s114, s115, s116, s117, s118, s119, s120, s121, s122, s123, s124, s125, s126, s127, s128, s129, s130, s131, s132, s133, s134, s135, s136, s137, s138], []⟩ W') :
    (regionIn 12 Tryd.f6).wp Tryd.prog Q ⟨#[.slice A l.length c, s1, s2, s3, s4, .pointer (some ⟨g5, 0, none⟩), s6, .slice A5 X.length c5, s8, .pointer (some ⟨g9, 0, none⟩), s10, s11, s12, s13, s14, s15, s16, s17, s18, s19, s20, s21, s22, s23, s24, s25, s26, s27, s28, s29, s30, s31, s32, s33, s34, s35, s36, s37, s38, s39, s40, s41, s42, s43, s44, s45, s46, s47, s48, s49, s50, s51, s52, s53, s54, s55, s56, s57, s58, s59, s60, s61, s62, s63, s64, s65, s66, s67, s68, s69, s70, s71, s72, s73, s74, s75, s76, s77, s78, s79, s80, s81, s82, s83, s84, s85, s86, s87, s88, s89, s90, s91, s92, s93, s94, s95, s96, s97, s98, s99, s100, s101, s102, s103, s104, s105, s106, s107, s108, s109, s110, s111, s112, s113, s114, s115, s116, s117, s118, s119, s120, s121, s122, s123, s124, s125, s126, s127, s128, s129, s130, s131, s132, s133, s134, s135, s136, s137, s138], []⟩ w := by
  have hu32 := Tryd.underlying32
  obtain ⟨ti, hti, htz⟩ : ∃ i, Tryd.prog.info? 5 = some i ∧ i.size = 1 := by
    have h := info5
    obtain ⟨i, h1, h2⟩ := Option.map_eq_some_iff.mp h
    exact ⟨i, h1, (Prod.mk.inj (Prod.mk.inj h2).2).1⟩
  obtain ⟨k1, j1, q1⟩ := print_take_of (P := Tryd.prog) (Value.int .u8) (0 : Int) 32 5 .i64 hu32 hti htz A5 c5 X F (by omega) (by omega) hcX
  obtain ⟨k2, j2, q2⟩ := print_take_of (P := Tryd.prog) (Value.int .u8) (0 : Int) 32 5 .i64 hu32 hti htz A c l F (by omega) (by omega) hc
  obtain ⟨A3, k3, j3, q3⟩ := print_drop_of (P := Tryd.prog) (Value.int .u8) (0 : Int) 32 5 .i64 hu32 hti htz A5 c5 X M (by omega) (by omega) hcX
  obtain ⟨A4, k4, j4, q4⟩ := print_drop_of (P := Tryd.prog) (Value.int .u8) (0 : Int) 32 5 .i64 hu32 hti htz A c l T (by omega) (by omega) hc
  rw [Int.toNat_natCast] at k1 j1 q1 k2 j2 q2 k3 j3 q3 k4 j4 q4
  rw [e1] at k1 j1 q1
  rw [e2] at k3 j3 q3
  have cX : ∀ W, Below w.heap.size w W → ReadsOf (Value.int .u8) (0 : Int) W A5 X.length X := fun W hb => Kd.reads_of_C (enc := Value.int .u8) (d := (0 : Int)) (h1 := fun _ => rfl) (Kd.C_below hrX hb)
  have cL : ∀ W, Below w.heap.size w W → ReadsOf (Value.int .u8) (0 : Int) W A l.length l := fun W hb => Kd.reads_of_C (enc := Value.int .u8) (d := (0 : Int)) (h1 := fun _ => rfl) (Kd.C_below hr hb)
  have s1 : ∀ W, Below w.heap.size w W → Calls Tryd.prog 14 #[.slice A5 (l.take F).length c5, .slice A (l.take F).length c] W fun e w' => e = .returned (.bool true) ∧ Below W.heap.size W w' := fun W hb =>
    (bailiwickref1_Same.calls 1000001 A5 c5 (l.take F) A c (l.take F) true W (Kd.C_of_reads (h1 := fun _ => rfl) (j1 W (cX W hb))) q1 (Kd.C_of_reads (h1 := fun _ => rfl) (j2 W (cL W hb))) q2 (same_to _ (by rw [List.length_take]; omega) _ (by rw [List.length_take]; omega))).mono fun e w' hh => ⟨hh.1, hh.2.below⟩
  have s2 : ∀ W, Below w.heap.size w W → Calls Tryd.prog 14 #[.slice A3 (l.drop T).length (c5 - M), .slice A4 (l.drop T).length (c - T)] W fun e w' => e = .returned (.bool true) ∧ Below W.heap.size W w' := fun W hb =>
    (bailiwickref1_Same.calls 1000001 A3 (c5 - M) (l.drop T) A4 (c - T) (l.drop T) true W (Kd.C_of_reads (h1 := fun _ => rfl) (j3 W (cX W hb))) q3 (Kd.C_of_reads (h1 := fun _ => rfl) (j4 W (cL W hb))) q4 (same_to _ (by rw [List.length_drop]; omega) _ (by rw [List.length_drop]; omega))).mono fun e w' hh => ⟨hh.1, hh.2.below⟩
  obtain ⟨n1, hn1⟩ : ∃ n, n = (l.take F).length := ⟨_, rfl⟩
  obtain ⟨n2, hn2⟩ : ∃ n, n = (l.drop T).length := ⟨_, rfl⟩
  rw [← hn1] at k1 k2 s1
  rw [← hn2] at k3 k4 s2
  have HS1 := Aside0.mk s1
  have HS2 := Aside0.mk s2
  have HQ := Aside0.mk hQ
  have HB := Aside0.mk (Below.refl w.heap.size w)
  have H51 := Aside0.mk h51
  have H52 := Aside0.mk h52
  have H91 := Aside0.mk h91
  have H92 := Aside0.mk h92
  clear s1 s2 hQ hn1 hn2 cX cL j1 j2 j3 j4 q1 q2 q3 q4 hr hc hrX hcX hF hT hFX hM hl e1 e2 hti htz
  conv => arg 2; whnf
  refine wp_region_noPanic ?_
  go_region_held3 (fun w' => w'.cell? ⟨g5, 1, none⟩ = some (.int .i64 F) ∧ w'.cell? ⟨g5, 2, none⟩ = some (.int .i64 T) ∧ w'.cell? ⟨g9, 1, none⟩ = some (.int .i64 F) ∧ w'.cell? ⟨g9, 2, none⟩ = some (.int .i64 M))
    (first | exact ⟨(HB.out.cell (World.block_lt_of_cell? w _ H51.out)).trans H51.out, (HB.out.cell (World.block_lt_of_cell? w _ H52.out)).trans H52.out, (HB.out.cell (World.block_lt_of_cell? w _ H91.out)).trans H91.out, (HB.out.cell (World.block_lt_of_cell? w _ H92.out)).trans H92.out⟩ | exact ⟨((below_drew HB.out).cell (World.block_lt_of_cell? w _ H51.out)).trans H51.out, ((below_drew HB.out).cell (World.block_lt_of_cell? w _ H52.out)).trans H52.out, ((below_drew HB.out).cell (World.block_lt_of_cell? w _ H91.out)).trans H91.out, ((below_drew HB.out).cell (World.block_lt_of_cell? w _ H92.out)).trans H92.out⟩ | go_keep)
    (first
    | (refine goes_ (f := 14) Tryd.func14 (by kernel_rfl) rfl #[.slice A5 n1 c5, .slice A n1 c] (by rfl) rfl rfl ?ha ?_
       (case ha => first | rfl | (go_simp; done) | (simp [Act.eval]; done))
       refine (HS1.out _ ?hb).mono ?_
       (case hb => first | exact HB.out | exact below_drew HB.out)
       rintro e v1 ⟨rfl, hb⟩
       refine ⟨_, rfl, ?_⟩
       have n2 : Aside0 (Below w.heap.size w v1) := Aside0.mk (by first | exact HB.out.trans (hb.mono HB.out.size) | exact (below_drew HB.out).trans (hb.mono (below_drew HB.out).size))
       clear HB hb
       have HB := n2
       clear n2)
    | (refine goes_ (f := 14) Tryd.func14 (by kernel_rfl) rfl #[.slice A3 n2 (c5 - M), .slice A4 n2 (c - T)] (by rfl) rfl rfl ?ha ?_
       (case ha => first | rfl | (go_simp; done) | (simp [Act.eval]; done))
       refine (HS2.out _ ?hb).mono ?_
       (case hb => first | exact HB.out | exact below_drew HB.out)
       rintro e v2 ⟨rfl, hb⟩
       refine ⟨_, rfl, ?_⟩
       have n2 : Aside0 (Below w.heap.size w v2) := Aside0.mk (by first | exact HB.out.trans (hb.mono HB.out.size) | exact (below_drew HB.out).trans (hb.mono (below_drew HB.out).size))
       clear HB hb
       have HB := n2
       clear n2))
  all_goals exact NoPanic.normal (HQ.out _ _ _ _ _ _ _ _ _ _ _ _ _ _ _ _ _ _ _ _ _ _ HB.out)
end Go.Proofs.YtnbanjbhjjhkdaaDoor.Pure
