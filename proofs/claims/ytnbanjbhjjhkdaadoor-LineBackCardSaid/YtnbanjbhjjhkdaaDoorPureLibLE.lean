/- Region 10 of the law LineBack. No statement of its own. -/
import Derived.Test.YtnbanjbhjjhkdaaDoorPureLibLD
namespace Go.Proofs.YtnbanjbhjjhkdaaDoor.Pure
open Go.RowKit Go.Proofs.YtnbanjbhjjhkdaaDoor.P Go.Proofs.YtnbanjbhjjhkdaaDoorW.PrintWords Go.Proofs.YtnbanjbhjjhkdaaDoorW.PrintLast Go.Proofs.YtnbanjbhjjhkdaaDoorW.PrintMore
set_option linter.unusedVariables false
set_option linter.unusedSimpArgs false
set_option maxHeartbeats 4000000 in
set_option maxRecDepth 100000 in
theorem back_r10 {s0 s1 s2 s4 s6 s7 s11 s12 s13 s14 s15 s16 s17 s18 s19 s20 s21 s22 s23 s24 s25 s26 s27 s28 s29 s30 s31 s32 s33 s34 s35 s36 s37 s38 s39 s40 s41 s42 s43 s44 s45 s46 s47 s48 s49 s50 s51 s52 s53 s54 s55 s56 s57 s58 s59 s60 s61 s62 s63 s64 s65 s66 s67 s68 s69 s70 s71 s72 s73 s74 s75 s76 s77 s78 s79 s80 s81 s82 s83 s84 s85 s86 s87 s88 s89 s90 s91 s92 s93 s94 s95 s96 s97 s98 s99 s100 s101 s102 s103 s104 s105 s106 s107 s108 s109 s110 s111 s112 s113 s114 s115 s116 s117 s118 s119 s120 s121 s122 s123 s124 s125 s126 s127 s128 s129 s130 s131 s132 s133 s134 s135 s136 s137 s138 : Value} (k F T M a p ea ep ea' : Int) (g3 g5 g9 : Nat) (w : World)
    (x0 : w.cell? ⟨g5, 0, none⟩ = some (.int .i64 k)) (x1 : w.cell? ⟨g5, 1, none⟩ = some (.int .i64 F))
    (y0 : w.cell? ⟨g9, 0, none⟩ = some (.int .i64 k)) (y1 : w.cell? ⟨g9, 1, none⟩ = some (.int .i64 F)) (y3 : w.cell? ⟨g9, 3, none⟩ = some (.int .u32 ea')) (y4 : w.cell? ⟨g9, 4, none⟩ = some (.int .i64 ep))
    (e0 : w.cell? ⟨g3, 0, none⟩ = some (.int .u32 ea)) (e1 : w.cell? ⟨g3, 1, none⟩ = some (.int .i64 ep)) (he : k ≠ 4 → ea' = ea)
    (Q : Exit → Act → World → Prop) (hQ : ∀ (y49 y50 y51 y52 y53 y54 y55 y56 y57 y58 y59 y60 y61 y62 y63 y64 y65 y66 y67 y68 y69 y70 y71 y72 y73 y74 y75 y76 y77 y78 y79 y80 y81 y82 y83 y84 y85 y86 y87 y88 : Value), Q .normal ⟨#[s0, s1, s2, .pointer (some ⟨g3, 0, none⟩), s4, .pointer (some ⟨g5, 0, none⟩), s6, s7, .int .i64 0, .pointer (some ⟨g9, 0, none⟩), .bool true, s11, s12, s13, s14, s15, s16, s17, s18, s19, s20, s21, s22, s23, s24, s25, s26, s27, s28, s29, s30, s31, s32, s33, s34, s35, s36, s37, s38, s39, s40, s41, s42, s43, s44, s45, s46, s47, s48, y49, y50, y51, y52, y53, y54, y55, y56, y57, y58, y59, y60, y61, y62, y63, y64, y65, y66, y67, y68, y69, y70, y71, y72, y73, y74, y75, y76, y77, y78, y79, y80, y81, y82, y83, y84, y85, y86, y87, y88, .bool false, s90, s91, s92, s93, s94, s95, s96, s97, s98, s99, s100, s101, s102, s103, s104, s105, s106, s107, s108, s109, s110, s111, s112, s113, s114, s115, s116, s117, s118, s119, s120, s121, s122, s123, s124, s125, s126, s127, s128, s129, s130, s131, s132, s133, s134, s135, s136, s137, s138], []⟩ w) :
    (regionIn 10 Tryd.f6).wp Tryd.prog Q ⟨#[s0, s1, s2, .pointer (some ⟨g3, 0, none⟩), s4, .pointer (some ⟨g5, 0, none⟩), s6, s7, .int .i64 0, .pointer (some ⟨g9, 0, none⟩), .bool true, s11, s12, s13, s14, s15, s16, s17, s18, s19, s20, s21, s22, s23, s24, s25, s26, s27, s28, s29, s30, s31, s32, s33, s34, s35, s36, s37, s38, s39, s40, s41, s42, s43, s44, s45, s46, s47, s48, s49, s50, s51, s52, s53, s54, s55, s56, s57, s58, s59, s60, s61, s62, s63, s64, s65, s66, s67, s68, s69, s70, s71, s72, s73, s74, s75, s76, s77, s78, s79, s80, s81, s82, s83, s84, s85, s86, s87, s88, s89, s90, s91, s92, s93, s94, s95, s96, s97, s98, s99, s100, s101, s102, s103, s104, s105, s106, s107, s108, s109, s110, s111, s112, s113, s114, s115, s116, s117, s118, s119, s120, s121, s122, s123, s124, s125, s126, s127, s128, s129, s130, s131, s132, s133, s134, s135, s136, s137, s138], []⟩ w := by
  have zk : (k == k) = true := by simp
  have HQ := Aside0.mk hQ
  clear hQ
  conv => arg 2; whnf
  by_cases hk4 : k = 4
  · have hk := Aside0.mk hk4
    have z4 : (k == 4) = true := beq_iff_eq.mpr hk4
    clear hk4 he
    go_wp2_with (fail)
    all_goals first
      | exact HQ.out _ _ _ _ _ _ _ _ _ _ _ _ _ _ _ _ _ _ _ _ _ _ _ _ _ _ _ _ _ _ _ _ _ _ _ _ _ _ _ _
      | (exfalso; exact absurd hk.out (by assumption))
  · have z4 : (k == 4) = false := beq_eq_false_iff_ne.mpr hk4
    have ze : ea' = ea := he hk4
    have hk := Aside0.mk hk4
    clear hk4 he
    subst ze
    go_wp2_with (fail)
    all_goals first
      | (exfalso; exact absurd (by assumption) hk.out)
      | exact HQ.out _ _ _ _ _ _ _ _ _ _ _ _ _ _ _ _ _ _ _ _ _ _ _ _ _ _ _ _ _ _ _ _ _ _ _ _ _ _ _ _
end Go.Proofs.YtnbanjbhjjhkdaaDoor.Pure
