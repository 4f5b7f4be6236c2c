/- Region 15 of the law IpKnown. No statement of its own. -/
import Derived.Test.YthnhpbplglmmmaaDoorPbailiwickref2
import Derived.Test.YthnhpbplglmmmaaDoorPureLibRf
import Derived.Test.YthnhpbplglmmmaaDoorPbailiwicklaw2
import Derived.Deep.RegionHeld3
namespace Go.Proofs.YthnhpbplglmmmaaDoor.Pure
open Go.RowKit Go.Proofs.YthnhpbplglmmmaaDoor.P Go.Proofs.YthnhpbplglmmmaaDoorW.PrintWords Go.Proofs.YthnhpbplglmmmaaDoorW.PrintLast Go.Proofs.YthnhpbplglmmmaaDoorW.PrintMore
set_option linter.unusedVariables false
set_option linter.unusedSimpArgs false
theorem known_plain : bailiwicklaw2_plain.f = some (0, 0, false, false, 0, 64, 17, 167772161, 134744072, [], []) := by kernel_rfl
theorem known_same : bailiwickref2_Same.f 100 0 0 false false 0 64 17 167772161 134744072 [] [] 0 0 false false 0 64 17 167772161 134744072 [] [] = some true := by decide +kernel
theorem C_empty {w : World} {A : Option Addr} : Kd.C (Kd.int .u8) w A ([] : List Int).length [] := ⟨rfl, by simp, fun h => absurd h (Nat.lt_irrefl 0)⟩
theorem known_cells {A9 A10 : Option Addr} {c9 c10 g3 : Nat} {w' : World} (h : w'.heap[g3]? = some (.cells #[.int .i64 0, .int .i64 0, .bool false, .bool false, .int .i64 0, .int .i64 64, .int .i64 17, .int .u32 167772161, .int .u32 134744072, .slice A9 0 c9, .slice A10 0 c10] 34 (0, 0))) : w'.cell? ⟨g3, 0, none⟩ = some (.int .i64 0) ∧ w'.cell? ⟨g3, 1, none⟩ = some (.int .i64 0) ∧ w'.cell? ⟨g3, 2, none⟩ = some (.bool false) ∧ w'.cell? ⟨g3, 3, none⟩ = some (.bool false) ∧ w'.cell? ⟨g3, 4, none⟩ = some (.int .i64 0) ∧ w'.cell? ⟨g3, 5, none⟩ = some (.int .i64 64) ∧ w'.cell? ⟨g3, 6, none⟩ = some (.int .i64 17) ∧ w'.cell? ⟨g3, 7, none⟩ = some (.int .u32 167772161) ∧ w'.cell? ⟨g3, 8, none⟩ = some (.int .u32 134744072) ∧ w'.cell? ⟨g3, 9, none⟩ = some (.slice A9 0 c9) ∧ w'.cell? ⟨g3, 10, none⟩ = some (.slice A10 0 c10) :=
  ⟨(blk_cell h 0).trans rfl, (blk_cell h 1).trans rfl, (blk_cell h 2).trans rfl, (blk_cell h 3).trans rfl, (blk_cell h 4).trans rfl, (blk_cell h 5).trans rfl, (blk_cell h 6).trans rfl, (blk_cell h 7).trans rfl, (blk_cell h 8).trans rfl, (blk_cell h 9).trans rfl, (blk_cell h 10).trans rfl⟩
set_option maxHeartbeats 4000000 in
set_option maxRecDepth 100000 in
theorem known_r15 {s1 s2 s5 s7 s8 s10 s14 s16 s18 s19 s20 s21 s22 s23 s24 s25 s26 s27 s28 s29 s30 s31 s32 s33 s34 s35 s36 s37 s38 s39 s40 s41 s42 s43 s44 s45 s46 s47 s48 s49 s50 s51 s52 s53 s54 s55 s56 s57 s58 s59 s60 s61 s62 s63 s64 s65 s66 s67 s68 s69 s70 s71 s72 s73 s74 s75 s76 s77 s78 s79 s80 s81 s82 s83 s84 s85 s86 s87 s88 s89 s90 s91 s92 s93 s94 s95 s96 s97 s98 s99 s100 s101 s102 s103 s104 s105 s106 s107 s108 s109 : Value} (A9 A10 : Option Addr) (c9 c10 g3 : Nat) (w : World) (X3 : w.heap[g3]? = some (.cells #[.int .i64 0, .int .i64 0, .bool false, .bool false, .int .i64 0, .int .i64 64, .int .i64 17, .int .u32 167772161, .int .u32 134744072, .slice A9 0 c9, .slice A10 0 c10] 34 (0, 0)))
    (hsh : ∀ W, Below w.heap.size w W → Calls Tryd.prog 7 #[.int .u32 167772161] W fun e w' => e = .returned (.string ⟨#[49, 48, 46, 48, 46, 48, 46, 49]⟩) ∧ Below W.heap.size W w')
    (Q : Exit → Act → World → Prop) (hQ : ∀ (y72 y73 y74 y75 y76 y77 y78 y79 y80 y81 y82 y83 y84 y85 y86 y87 y88 y89 y90 y91 y92 y93 y94 y95 y96 y97 y98 y99 y100 y101 y102 y103 y104 y105 y106 y107 y108 y109 : Value) (W' : World), Below w.heap.size w W' → Q .normal ⟨#[.bool true, s1, s2, .pointer (some ⟨g3, 0, none⟩), .int .i64 0, s5, .int .i64 2, s7, s8, .int .i64 5, s10, .int .i64 2, .int .u32 167772161, .bool true, s14, .bool false, s16, .bool false, s18, s19, s20, s21, s22, s23, s24, s25, s26, s27, s28, s29, s30, s31, s32, s33, s34, s35, s36, s37, s38, s39, s40, s41, s42, s43, s44, s45, s46, s47, s48, s49, s50, s51, s52, s53, s54, s55, s56, s57, s58, s59, s60, s61, s62, s63, s64, s65, s66, s67, s68, s69, s70, s71, y72, y73, y74, y75, y76, y77, y78, y79, y80, y81, y82, y83, y84, y85, y86, y87, y88, y89, y90, y91, y92, y93, y94, y95, y96, y97, y98, y99, y100, y101, y102, y103, y104, y105, y106, y107, y108, y109], []⟩ W') :
    (regionIn 15 Tryd.f5).wp Tryd.prog Q ⟨#[.bool false, s1, s2, .pointer (some ⟨g3, 0, none⟩), .int .i64 0, s5, .int .i64 2, s7, s8, .int .i64 5, s10, .int .i64 2, .int .u32 167772161, .bool true, s14, .bool false, s16, .bool false, s18, s19, s20, s21, s22, s23, s24, s25, s26, s27, s28, s29, s30, s31, s32, s33, s34, s35, s36, s37, s38, s39, s40, s41, s42, s43, s44, s45, s46, s47, s48, s49, s50, s51, s52, s53, s54, s55, s56, s57, s58, s59, s60, s61, s62, s63, s64, s65, s66, s67, s68, s69, s70, s71, s72, s73, s74, s75, s76, s77, s78, s79, s80, s81, s82, s83, s84, s85, s86, s87, s88, s89, s90, s91, s92, s93, s94, s95, s96, s97, s98, s99, s100, s101, s102, s103, s104, s105, s106, s107, s108, s109], []⟩ w := by
  have HQ := Aside0.mk hQ
  have HX := Aside0.mk X3
  have HSH := Aside0.mk hsh
  have HB := Aside0.mk (Below.refl w.heap.size w)
  have b0 : ((⟨#[49, 48, 46, 48, 46, 48, 46, 49]⟩ : ByteArray).toList == (⟨#[49, 48, 46, 48, 46, 48, 46, 49]⟩ : ByteArray).toList) = true := beq_self_eq_true _
  clear hQ X3 hsh
  conv => arg 2; whnf
  refine wp_region_noPanic ?_
  go_region_held3 (fun w' => w'.cell? ⟨g3, 0, none⟩ = some (.int .i64 0) ∧ w'.cell? ⟨g3, 1, none⟩ = some (.int .i64 0) ∧ w'.cell? ⟨g3, 2, none⟩ = some (.bool false) ∧ w'.cell? ⟨g3, 3, none⟩ = some (.bool false) ∧ w'.cell? ⟨g3, 4, none⟩ = some (.int .i64 0) ∧ w'.cell? ⟨g3, 5, none⟩ = some (.int .i64 64) ∧ w'.cell? ⟨g3, 6, none⟩ = some (.int .i64 17) ∧ w'.cell? ⟨g3, 7, none⟩ = some (.int .u32 167772161) ∧ w'.cell? ⟨g3, 8, none⟩ = some (.int .u32 134744072) ∧ w'.cell? ⟨g3, 9, none⟩ = some (.slice A9 0 c9) ∧ w'.cell? ⟨g3, 10, none⟩ = some (.slice A10 0 c10))
    (first | exact known_cells (blk_below HX.out HB.out) | exact known_cells (blk_below HX.out (below_drew HB.out)) | go_keep)
    (first
    | (refine goes_ (f := 12) Tryd.func12 (by kernel_rfl) rfl #[] (by rfl) rfl rfl ?ha ?_
       (case ha => first | rfl | (go_simp; done) | (simp [Act.eval]; done))
       refine (bailiwicklaw2_plain.calls 0 0 false false 0 64 17 167772161 134744072 [] [] _ known_plain).mono ?_
       rintro e v1 ⟨z9, z10, rfl, ho9, ho10, hb⟩
       obtain ⟨pA9, pc9, rfl⟩ := Kd.R_slice ho9
       obtain ⟨pA10, pc10, rfl⟩ := Kd.R_slice ho10
       clear ho9 ho10
       refine ⟨_, rfl, ?_⟩
       have n2 : Aside0 (Below w.heap.size w v1) := Aside0.mk (by first | exact HB.out.trans (hb.mono HB.out.size) | exact (below_drew HB.out).trans (hb.mono (below_drew HB.out).size))
       clear HB hb
       have HB := n2
       clear n2)
    | (refine goes_ (f := 15) Tryd.func15 (by kernel_rfl) rfl #[.agg #[.int .i64 0, .int .i64 0, .bool false, .bool false, .int .i64 0, .int .i64 64, .int .i64 17, .int .u32 167772161, .int .u32 134744072, .slice A9 0 c9, .slice A10 0 c10], .agg #[.int .i64 0, .int .i64 0, .bool false, .bool false, .int .i64 0, .int .i64 64, .int .i64 17, .int .u32 167772161, .int .u32 134744072, .slice pA9 0 pc9, .slice pA10 0 pc10]] (by rfl) rfl rfl ?ha ?_
       (case ha => first | rfl | (go_simp; done) | (simp [Act.eval]; done))
       refine (bailiwickref2_Same.calls 100 0 0 false false 0 64 17 167772161 134744072 A9 c9 [] A10 c10 [] 0 0 false false 0 64 17 167772161 134744072 pA9 pc9 [] pA10 pc10 [] true _ C_empty (Nat.zero_le _) C_empty (Nat.zero_le _) C_empty (Nat.zero_le _) C_empty (Nat.zero_le _) known_same).mono ?_
       rintro e v1 ⟨rfl, hb⟩
       refine ⟨_, rfl, ?_⟩
       have n2 : Aside0 (Below w.heap.size w v1) := Aside0.mk (by first | exact HB.out.trans (hb.mono HB.out.size) | exact (below_drew HB.out).trans (hb.mono (below_drew HB.out).size))
       clear HB hb
       have HB := n2
       clear n2)
    | (refine goes_ (f := 7) Tryd.func7 (by kernel_rfl) rfl #[.int .u32 167772161] (by rfl) rfl rfl ?ha ?_
       (case ha => first | rfl | (go_simp; done) | (simp [Act.eval]; done))
       refine (HSH.out _ ?hb).mono ?_
       (case hb => first | exact HB.out | exact below_drew HB.out)
       rintro e v1 ⟨rfl, hb⟩
       refine ⟨_, rfl, ?_⟩
       have n2 : Aside0 (Below w.heap.size w v1) := Aside0.mk (by first | exact HB.out.trans (hb.mono HB.out.size) | exact (below_drew HB.out).trans (hb.mono (below_drew HB.out).size))
       clear HB hb
       have HB := n2
       clear n2))
  all_goals exact NoPanic.normal (HQ.out _ _ _ _ _ _ _ _ _ _ _ _ _ _ _ _ _ _ _ _ _ _ _ _ _ _ _ _ _ _ _ _ _ _ _ _ _ _ _ HB.out)
end Go.Proofs.YthnhpbplglmmmaaDoor.Pure
