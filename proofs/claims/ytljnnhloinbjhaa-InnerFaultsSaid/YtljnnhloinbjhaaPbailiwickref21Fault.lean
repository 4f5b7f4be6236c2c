-- Laid by a program (wip/tools/myprint.py) out of the translation. Not trusted: Lean checks it.
import Derived.Test.YtljnnhloinbjhaaP0
import Derived.Test.YtljnnhloinbjhaaPbailiwickref2Build
import Derived.Test.YtljnnhloinbjhaaPbailiwickref1Part
import Derived.Test.YtljnnhloinbjhaaPbailiwickref2Parse
import Derived.Test.YtljnnhloinbjhaaPbailiwickref3BuildWord
namespace Go.Proofs.Ytljnnhloinbjhaa.P
open Go.RowKit Go.Proofs.YtljnnhloinbjhaaW.PrintWords Go.Proofs.YtljnnhloinbjhaaW.PrintLast
set_option linter.unusedVariables false
set_option linter.unusedSimpArgs false

/-! ### bailiwickref21_Fault: function 48 -/
mutual
def bailiwickref21_Fault.j0 : Nat → Int → Int → Int → List Int → Bool → Int → Int → Bool → Bool → Int → Int → Int → Int → Int → List Int → List Int → Option (List Int × Int)
 | 0, _, _, _, _, _, _, _, _, _, _, _, _, _, _, _, _ => none
 | k + 1, x0, x1, x2, x3, x34, x972000, x972001, x972002, x972003, x972004, x972005, x972006, x972007, x972008, x972009, x972010 => if x34 = true then (some (([] : List Int), 1)) else (if x972004 = 0 then (if x972006 = 1 then (if (x972010.length : Int) = 0 then (bailiwickref21_Fault.j1 k x0 x1 x2 x3 true x972000 x972001 x972002 x972003 x972004 x972005 x972006 x972007 x972008 x972009 x972010) else (if 0 < (x972010.length : Int) then (if (rd x972010 0) = 8 then (bailiwickref21_Fault.j1 k x0 x1 x2 x3 false x972000 x972001 x972002 x972003 x972004 x972005 x972006 x972007 x972008 x972009 x972010) else (bailiwickref21_Fault.j1 k x0 x1 x2 x3 ((rd x972010 0) != 0) x972000 x972001 x972002 x972003 x972004 x972005 x972006 x972007 x972008 x972009 x972010)) else (none))) else (bailiwickref21_Fault.j1 k x0 x1 x2 x3 false x972000 x972001 x972002 x972003 x972004 x972005 x972006 x972007 x972008 x972009 x972010)) else (bailiwickref21_Fault.j1 k x0 x1 x2 x3 true x972000 x972001 x972002 x972003 x972004 x972005 x972006 x972007 x972008 x972009 x972010))
def bailiwickref21_Fault.j1 : Nat → Int → Int → Int → List Int → Bool → Int → Int → Bool → Bool → Int → Int → Int → Int → Int → List Int → List Int → Option (List Int × Int)
 | 0, _, _, _, _, _, _, _, _, _, _, _, _, _, _, _, _ => none
 | k + 1, x0, x1, x2, x3, x62, x972000, x972001, x972002, x972003, x972004, x972005, x972006, x972007, x972008, x972009, x972010 => if x62 = true then (some (([] : List Int), 12)) else ((bailiwickref1_Part.f k x3 0 (wrap64 ((wrap64 (20 + (x972009.length : Int))) + (mn 8 (x972010.length : Int))))).bind fun t974 => ((bailiwickref3_BuildWord.f k x0 x1 0 t974).bind fun bt977 => (if bt977.2 = 0 then ((bailiwickref2_Build.f k 0 0 false false 0 64 1 x2 x972007 ([] : List Int) bt977.1).bind fun bt981 => (some (bt981.1, bt981.2))) else (some (([] : List Int), bt977.2)))))
end
def bailiwickref21_Fault.f (k : Nat) (a0 : Int) (a1 : Int) (a2 : Int) (l3 : List Int) : Option (List Int × Int) := (bailiwickref2_Parse.f k l3).bind fun bt955 => (if bt955.2.2.2.2.2.2.2.2.2.2.2 = 0 then (if a0 < 0 then (bailiwickref21_Fault.j0 k a0 a1 a2 l3 true bt955.1 bt955.2.1 bt955.2.2.1 bt955.2.2.2.1 bt955.2.2.2.2.1 bt955.2.2.2.2.2.1 bt955.2.2.2.2.2.2.1 bt955.2.2.2.2.2.2.2.1 bt955.2.2.2.2.2.2.2.2.1 bt955.2.2.2.2.2.2.2.2.2.1 bt955.2.2.2.2.2.2.2.2.2.2.1) else (if a0 > 255 then (bailiwickref21_Fault.j0 k a0 a1 a2 l3 true bt955.1 bt955.2.1 bt955.2.2.1 bt955.2.2.2.1 bt955.2.2.2.2.1 bt955.2.2.2.2.2.1 bt955.2.2.2.2.2.2.1 bt955.2.2.2.2.2.2.2.1 bt955.2.2.2.2.2.2.2.2.1 bt955.2.2.2.2.2.2.2.2.2.1 bt955.2.2.2.2.2.2.2.2.2.2.1) else (if a1 < 0 then (bailiwickref21_Fault.j0 k a0 a1 a2 l3 true bt955.1 bt955.2.1 bt955.2.2.1 bt955.2.2.2.1 bt955.2.2.2.2.1 bt955.2.2.2.2.2.1 bt955.2.2.2.2.2.2.1 bt955.2.2.2.2.2.2.2.1 bt955.2.2.2.2.2.2.2.2.1 bt955.2.2.2.2.2.2.2.2.2.1 bt955.2.2.2.2.2.2.2.2.2.2.1) else (bailiwickref21_Fault.j0 k a0 a1 a2 l3 (decide (a1 > 255)) bt955.1 bt955.2.1 bt955.2.2.1 bt955.2.2.2.1 bt955.2.2.2.2.1 bt955.2.2.2.2.2.1 bt955.2.2.2.2.2.2.1 bt955.2.2.2.2.2.2.2.1 bt955.2.2.2.2.2.2.2.2.1 bt955.2.2.2.2.2.2.2.2.2.1 bt955.2.2.2.2.2.2.2.2.2.2.1)))) else (some (([] : List Int), 4)))
theorem bailiwickref21_Fault.mono_l : ∀ k, (∀ y0 y1 y2 y3 y4 y5 y6 y7 y8 y9 y10 y11 y12 y13 y14 y15, LeO (bailiwickref21_Fault.j0 k y0 y1 y2 y3 y4 y5 y6 y7 y8 y9 y10 y11 y12 y13 y14 y15) (bailiwickref21_Fault.j0 (k + 1) y0 y1 y2 y3 y4 y5 y6 y7 y8 y9 y10 y11 y12 y13 y14 y15)) ∧ (∀ y0 y1 y2 y3 y4 y5 y6 y7 y8 y9 y10 y11 y12 y13 y14 y15, LeO (bailiwickref21_Fault.j1 k y0 y1 y2 y3 y4 y5 y6 y7 y8 y9 y10 y11 y12 y13 y14 y15) (bailiwickref21_Fault.j1 (k + 1) y0 y1 y2 y3 y4 y5 y6 y7 y8 y9 y10 y11 y12 y13 y14 y15))
 | 0 => ⟨fun _ _ _ _ _ _ _ _ _ _ _ _ _ _ _ _ r h => by simp [bailiwickref21_Fault.j0] at h, fun _ _ _ _ _ _ _ _ _ _ _ _ _ _ _ _ r h => by simp [bailiwickref21_Fault.j1] at h⟩
 | k + 1 => by
  obtain ⟨ih0, ih1⟩ := bailiwickref21_Fault.mono_l k
  refine ⟨?_, ?_⟩
  ·intro y0 y1 y2 y3 y4 y5 y6 y7 y8 y9 y10 y11 y12 y13 y14 y15
   unfold bailiwickref21_Fault.j0
   repeat' first
   | (with_reducible exact ih0 _ _ _ _ _ _ _ _ _ _ _ _ _ _ _ _)
   | (with_reducible exact ih1 _ _ _ _ _ _ _ _ _ _ _ _ _ _ _ _)
   | (with_reducible exact bailiwickref1_Part.mono _ _ _ _)
   | (with_reducible exact bailiwickref2_Build.mono _ _ _ _ _ _ _ _ _ _ _ _)
   | (with_reducible exact bailiwickref2_Parse.mono _ _)
   | (with_reducible exact bailiwickref3_BuildWord.mono _ _ _ _ _)
   | (with_reducible exact LeO.refl _)
   | (with_reducible exact LeO.none _)
   | (with_reducible refine LeO.ite ?_ ?_)
   | (with_reducible refine LeO.bind ?_ (fun _ => ?_))
   | exact ih0 _ _ _ _ _ _ _ _ _ _ _ _ _ _ _ _
   | exact ih1 _ _ _ _ _ _ _ _ _ _ _ _ _ _ _ _
   | exact bailiwickref1_Part.mono _ _ _ _
   | exact bailiwickref2_Build.mono _ _ _ _ _ _ _ _ _ _ _ _
   | exact bailiwickref2_Parse.mono _ _
   | exact bailiwickref3_BuildWord.mono _ _ _ _ _
   | exact LeO.none _
   | refine LeO.ite ?_ ?_
   | refine LeO.bind ?_ (fun _ => ?_)
  ·intro y0 y1 y2 y3 y4 y5 y6 y7 y8 y9 y10 y11 y12 y13 y14 y15
   unfold bailiwickref21_Fault.j1
   repeat' first
   | (with_reducible exact ih0 _ _ _ _ _ _ _ _ _ _ _ _ _ _ _ _)
   | (with_reducible exact ih1 _ _ _ _ _ _ _ _ _ _ _ _ _ _ _ _)
   | (with_reducible exact bailiwickref1_Part.mono _ _ _ _)
   | (with_reducible exact bailiwickref2_Build.mono _ _ _ _ _ _ _ _ _ _ _ _)
   | (with_reducible exact bailiwickref2_Parse.mono _ _)
   | (with_reducible exact bailiwickref3_BuildWord.mono _ _ _ _ _)
   | (with_reducible exact LeO.refl _)
   | (with_reducible exact LeO.none _)
   | (with_reducible refine LeO.ite ?_ ?_)
   | (with_reducible refine LeO.bind ?_ (fun _ => ?_))
   | exact ih0 _ _ _ _ _ _ _ _ _ _ _ _ _ _ _ _
   | exact ih1 _ _ _ _ _ _ _ _ _ _ _ _ _ _ _ _
   | exact bailiwickref1_Part.mono _ _ _ _
   | exact bailiwickref2_Build.mono _ _ _ _ _ _ _ _ _ _ _ _
   | exact bailiwickref2_Parse.mono _ _
   | exact bailiwickref3_BuildWord.mono _ _ _ _ _
   | exact LeO.none _
   | refine LeO.ite ?_ ?_
   | refine LeO.bind ?_ (fun _ => ?_)
theorem bailiwickref21_Fault.mono : ∀ a0 a1 a2 a3 k, LeO (bailiwickref21_Fault.f k a0 a1 a2 a3) (bailiwickref21_Fault.f (k + 1) a0 a1 a2 a3) := by
 intro a0 a1 a2 a3 k
 obtain ⟨ih0, ih1⟩ := bailiwickref21_Fault.mono_l k
 unfold bailiwickref21_Fault.f
 repeat' first
   | (with_reducible exact ih0 _ _ _ _ _ _ _ _ _ _ _ _ _ _ _ _)
   | (with_reducible exact ih1 _ _ _ _ _ _ _ _ _ _ _ _ _ _ _ _)
   | (with_reducible exact bailiwickref1_Part.mono _ _ _ _)
   | (with_reducible exact bailiwickref2_Build.mono _ _ _ _ _ _ _ _ _ _ _ _)
   | (with_reducible exact bailiwickref2_Parse.mono _ _)
   | (with_reducible exact bailiwickref3_BuildWord.mono _ _ _ _ _)
   | (with_reducible exact LeO.refl _)
   | (with_reducible exact LeO.none _)
   | (with_reducible refine LeO.ite ?_ ?_)
   | (with_reducible refine LeO.bind ?_ (fun _ => ?_))
   | exact ih0 _ _ _ _ _ _ _ _ _ _ _ _ _ _ _ _
   | exact ih1 _ _ _ _ _ _ _ _ _ _ _ _ _ _ _ _
   | exact bailiwickref1_Part.mono _ _ _ _
   | exact bailiwickref2_Build.mono _ _ _ _ _ _ _ _ _ _ _ _
   | exact bailiwickref2_Parse.mono _ _
   | exact bailiwickref3_BuildWord.mono _ _ _ _ _
   | exact LeO.none _
   | refine LeO.ite ?_ ?_
   | refine LeO.bind ?_ (fun _ => ?_)
set_option maxHeartbeats 8000000 in
set_option maxRecDepth 100000 in
theorem bailiwickref21_Fault.calls (k : Nat) (a0 : Int) (a1 : Int) (a2 : Int) (A3 : Option Addr) (c3 : Nat) (l3 : List Int) (r1 : List Int) (r2 : Int) (w : World) (hr3 : Kd.C (Kd.int .u8) w A3 l3.length l3) (hc3 : l3.length ≤ c3) (h : bailiwickref21_Fault.f k a0 a1 a2 l3 = some (r1, r2)) :
  Calls Try.prog 48 #[.int .i64 a0, .int .i64 a1, .int .u32 a2, .slice A3 l3.length c3] w fun e w' => ∃ v0_ : Value, e = .returned (.tuple #[v0_, .int .i64 r2]) ∧ Kd.R (Kd.int .u8) 5 w' w.heap.size (fun _ => True) v0_ r1 ∧ Below w.heap.size w w' := by
 have hu29 := Try.underlying29
 have hu118 := Try.underlying118
 have HR3 := Aside0.mk hr3
 have HC3 := Aside0.mk hc3
 clear hr3 hc3
 have HB := Aside0.mk (Below.refl w.heap.size w)
 have H : ((bailiwickref2_Parse.f k l3).bind fun bt955 => (if bt955.2.2.2.2.2.2.2.2.2.2.2 = 0 then (if a0 < 0 then (bailiwickref21_Fault.j0 k a0 a1 a2 l3 true bt955.1 bt955.2.1 bt955.2.2.1 bt955.2.2.2.1 bt955.2.2.2.2.1 bt955.2.2.2.2.2.1 bt955.2.2.2.2.2.2.1 bt955.2.2.2.2.2.2.2.1 bt955.2.2.2.2.2.2.2.2.1 bt955.2.2.2.2.2.2.2.2.2.1 bt955.2.2.2.2.2.2.2.2.2.2.1) else (if a0 > 255 then (bailiwickref21_Fault.j0 k a0 a1 a2 l3 true bt955.1 bt955.2.1 bt955.2.2.1 bt955.2.2.2.1 bt955.2.2.2.2.1 bt955.2.2.2.2.2.1 bt955.2.2.2.2.2.2.1 bt955.2.2.2.2.2.2.2.1 bt955.2.2.2.2.2.2.2.2.1 bt955.2.2.2.2.2.2.2.2.2.1 bt955.2.2.2.2.2.2.2.2.2.2.1) else (if a1 < 0 then (bailiwickref21_Fault.j0 k a0 a1 a2 l3 true bt955.1 bt955.2.1 bt955.2.2.1 bt955.2.2.2.1 bt955.2.2.2.2.1 bt955.2.2.2.2.2.1 bt955.2.2.2.2.2.2.1 bt955.2.2.2.2.2.2.2.1 bt955.2.2.2.2.2.2.2.2.1 bt955.2.2.2.2.2.2.2.2.2.1 bt955.2.2.2.2.2.2.2.2.2.2.1) else (bailiwickref21_Fault.j0 k a0 a1 a2 l3 (decide (a1 > 255)) bt955.1 bt955.2.1 bt955.2.2.1 bt955.2.2.2.1 bt955.2.2.2.2.1 bt955.2.2.2.2.2.1 bt955.2.2.2.2.2.2.1 bt955.2.2.2.2.2.2.2.1 bt955.2.2.2.2.2.2.2.2.1 bt955.2.2.2.2.2.2.2.2.2.1 bt955.2.2.2.2.2.2.2.2.2.2.1)))) else (some (([] : List Int), 4)))) = some (r1, r2) := h
 clear h
 replace H := Option.bind_eq_some_iff.mp H
 obtain ⟨⟨t955, t956, t957, t958, t959, t960, t961, t962, t963, t964, t967, t970⟩, A50, H⟩ := H
 replace H : (if t970 = 0 then (if a0 < 0 then (bailiwickref21_Fault.j0 k a0 a1 a2 l3 true t955 t956 t957 t958 t959 t960 t961 t962 t963 t964 t967) else (if a0 > 255 then (bailiwickref21_Fault.j0 k a0 a1 a2 l3 true t955 t956 t957 t958 t959 t960 t961 t962 t963 t964 t967) else (if a1 < 0 then (bailiwickref21_Fault.j0 k a0 a1 a2 l3 true t955 t956 t957 t958 t959 t960 t961 t962 t963 t964 t967) else (bailiwickref21_Fault.j0 k a0 a1 a2 l3 (decide (a1 > 255)) t955 t956 t957 t958 t959 t960 t961 t962 t963 t964 t967)))) else (some (([] : List Int), 4))) = some (r1, r2) := H
 have A5 := Aside0.mk A50
 clear A50
 by_cases c6 : t970 = 0
 ·rw [if_pos c6] at H
  have c6b0 : (t970 == 0) = true := beq_iff_eq.mpr c6
  have c6b1 : (t970 != 0) = false := bne_eq_false_iff_eq.mpr c6
  clear c6
  have HC7 := Aside0.mk H
  clear H
  go_enter Try.func48, Try.ntmps48
  go_upto_region 4 with (first | ((with_reducible refine gate_callee (f := 23) rfl ?_); refine goesL_ (some 16) rfl rfl Try.func23 (by kernel_rfl) rfl #[.slice A3 l3.length c3] rfl (by (try simp only [List.map_toArray, List.map_cons, List.map_nil]); first | done | rfl | (simp only [List.length_drop, List.length_take]; rfl)) ?_; (with_reducible refine (bailiwickref2_Parse.calls k _ _ l3 t955 t956 t957 t958 t959 t960 t961 t962 t963 t964 t967 t970 _ ?side1 ?side2 A5.out).mono ?_); (case side1 => repeat (first | exact HR3.out | (with_reducible refine Kd.C_alloc ?_ _) | (with_reducible refine Kd.C_drewN ?_ _) | (with_reducible refine Kd.C_drew ?_))); (case side2 => exact HC3.out); rintro e w8 ⟨v965, v968, rfl, ho0, ho1, hb⟩; refine ⟨_, rfl, ?_⟩; have n0_ := Aside0.mk (Kd.R_lower ho0 (below_size (by repeat (first | (with_reducible first | exact HB.out | apply below_alloc | apply pw_below_drewN | apply below_drew1) | exact HB.out)))); have n1_ := Aside0.mk (Kd.R_lower ho1 (below_size (by repeat (first | (with_reducible first | exact HB.out | apply below_alloc | apply pw_below_drewN | apply below_drew1) | exact HB.out)))); have n2_ := Aside0.mk (below_step (by repeat (first | (with_reducible first | exact HB.out | apply below_alloc | apply pw_below_drewN | apply below_drew1) | exact HB.out)) hb); clear HB; have HO966 := n0_; have HO969 := n1_; have HB := n2_; clear n0_ n1_ n2_; (try clear hb); (try clear hb2); (try clear hk); (try clear hi); (try clear ho0); (try clear ho1)) | ((with_reducible refine gate_dst (N := 10) rfl ?_); refine box_event ?hg (N := 10) ?hd (cs := #[.int .i64 0, .int .i64 0, .bool false, .bool false, .int .i64 0, .int .i64 0, .int .i64 0, .int .u32 0, .int .u32 0, .slice none 0 0, .slice none 0 0]) (t := 29) ?hr ?_; (case hd => rfl); (case hg => rfl); (case hr => first | (go_simp; done) | (go_simp; rfl)); intro gb971 hg w9 hbox hb; have n0_ := Aside0.mk (Kd.R_below (by (with_reducible repeat (first | apply Kd.R_alloc | apply Kd.R_drewN | apply Kd.R_drew)); exact HO966.out) hb); have n1_ := Aside0.mk (Kd.R_below (by (with_reducible repeat (first | apply Kd.R_alloc | apply Kd.R_drewN | apply Kd.R_drew)); exact HO969.out) hb); have n2_ := Aside0.mk (below_step (by repeat (first | (with_reducible first | exact HB.out | apply below_alloc | apply pw_below_drewN | apply below_drew1) | exact HB.out)) hb); have n3_ := Aside0.mk (hbox); have n4_ := Aside0.mk ((by rw [hg]; exact (below_size (by repeat (first | (with_reducible first | exact HB.out | apply below_alloc | apply pw_below_drewN | apply below_drew1) | exact HB.out))) : w.heap.size ≤ gb971)); have n5_ := Aside0.mk ((by rw [hg]; exact (below_size (by repeat (first | (with_reducible first | exact HB.out | apply below_alloc | apply pw_below_drewN | apply below_drew1) | exact HB.out))) : w.heap.size ≤ gb971)); clear HO966; clear HO969; clear HB; have HO966 := n0_; have HO969 := n1_; have HB := n2_; have BK971 := n3_; have GW971 := n4_; have GE971 := n5_; clear n0_ n1_ n2_ n3_ n4_ n5_; clear hb hbox hg; have hcz10_0 : w9.cell? ⟨gb971, 0, none⟩ = some (.int .i64 0) := (blk_cell BK971.out 0).trans rfl; have hcz10_1 : w9.cell? ⟨gb971, 1, none⟩ = some (.int .i64 0) := (blk_cell BK971.out 1).trans rfl; have hcz10_2 : w9.cell? ⟨gb971, 2, none⟩ = some (.bool false) := (blk_cell BK971.out 2).trans rfl; have hcz10_3 : w9.cell? ⟨gb971, 3, none⟩ = some (.bool false) := (blk_cell BK971.out 3).trans rfl; have hcz10_4 : w9.cell? ⟨gb971, 4, none⟩ = some (.int .i64 0) := (blk_cell BK971.out 4).trans rfl; have hcz10_5 : w9.cell? ⟨gb971, 5, none⟩ = some (.int .i64 0) := (blk_cell BK971.out 5).trans rfl; have hcz10_6 : w9.cell? ⟨gb971, 6, none⟩ = some (.int .i64 0) := (blk_cell BK971.out 6).trans rfl; have hcz10_7 : w9.cell? ⟨gb971, 7, none⟩ = some (.int .u32 0) := (blk_cell BK971.out 7).trans rfl; have hcz10_8 : w9.cell? ⟨gb971, 8, none⟩ = some (.int .u32 0) := (blk_cell BK971.out 8).trans rfl; have hcz10_9 : w9.cell? ⟨gb971, 9, none⟩ = some (.slice none 0 0) := (blk_cell BK971.out 9).trans rfl; have hcz10_10 : w9.cell? ⟨gb971, 10, none⟩ = some (.slice none 0 0) := (blk_cell BK971.out 10).trans rfl; have hfz10_0 := blk_frozen BK971.out 0; have hfz10_1 := blk_frozen BK971.out 1; have hfz10_2 := blk_frozen BK971.out 2; have hfz10_3 := blk_frozen BK971.out 3; have hfz10_4 := blk_frozen BK971.out 4; have hfz10_5 := blk_frozen BK971.out 5; have hfz10_6 := blk_frozen BK971.out 6; have hfz10_7 := blk_frozen BK971.out 7; have hfz10_8 := blk_frozen BK971.out 8; have hfz10_9 := blk_frozen BK971.out 9; have hfz10_10 := blk_frozen BK971.out 10; obtain ⟨Ao11, co11, eo11⟩ := Kd.R_slice HO966.out; subst eo11; obtain ⟨Ao12, co12, eo12⟩ := Kd.R_slice HO969.out; subst eo12))
  (try simp only [Act.put, List.setIfInBounds_toArray, List.set_cons_zero, List.set_cons_succ])
  go_cut [34] (fun v34 wc => ∃ (kq : Nat) (x34_6 : Bool), v34 = .bool x34_6 ∧ Aside0 (bailiwickref21_Fault.j0 kq a0 a1 a2 l3 x34_6 t955 t956 t957 t958 t959 t960 t961 t962 t963 t964 t967 = some (r1, r2)) ∧ Aside0 (kq ≤ k) ∧ Aside0 (Kd.R (Kd.int .u8) 5 wc w.heap.size (fun k_ => some k_ ≠ ((.slice Ao12 t967.length co12) : Value).ownBlock) (.slice Ao11 t964.length co11) t964) ∧ Aside0 (Kd.R (Kd.int .u8) 5 wc w.heap.size (fun k_ => some k_ ≠ ((.slice Ao11 t964.length co11) : Value).ownBlock) (.slice Ao12 t967.length co12) t967) ∧ Aside0 (wc.heap[gb971]? = some (.cells #[.int .i64 t955, .int .i64 t956, .bool t957, .bool t958, .int .i64 t959, .int .i64 t960, .int .i64 t961, .int .u32 t962, .int .u32 t963, (.slice Ao11 t964.length co11), (.slice Ao12 t967.length co12)] 29 (0, 0))) ∧ Aside0 (Below w.heap.size w wc))
  case first =>
   have H := HC7.out
   clear HC7
   by_cases c13 : a0 < 0
   ·rw [if_pos c13] at H
    have c13b0 : decide (a0 < 0) = true := decide_eq_true c13
    clear c13
    (first | rw [c13b0] | (simp only [i64_w, i32_w]; rw [c13b0]) | skip)
    have H' := Aside0.mk H
    clear H
    go_wp2
    go_meet
    case rel => exact ⟨_, (true), (by first | rfl | (simp; done) | (simp [*]; done)), H', ⟨by first | omega | exact Nat.le_refl _⟩, ⟨by (with_reducible repeat (first | apply Kd.R_alloc | apply Kd.R_drewN | apply Kd.R_drew)); exact Kd.R_mono (Kd.R_far (p := ⟨gb971, 10, none⟩) (Kd.R_far (p := ⟨gb971, 9, none⟩) (Kd.R_far (p := ⟨gb971, 8, none⟩) (Kd.R_far (p := ⟨gb971, 7, none⟩) (Kd.R_far (p := ⟨gb971, 6, none⟩) (Kd.R_far (p := ⟨gb971, 5, none⟩) (Kd.R_far (p := ⟨gb971, 4, none⟩) (Kd.R_far (p := ⟨gb971, 3, none⟩) (Kd.R_far (p := ⟨gb971, 2, none⟩) (Kd.R_far (p := ⟨gb971, 1, none⟩) (Kd.R_far (p := ⟨gb971, 0, none⟩) (Kd.R_types HO966.out BK971.out (by decide)) (fun _ hk => hk.2) (.int .i64 t955)) (fun _ hk => hk.2) (.int .i64 t956)) (fun _ hk => hk.2) (.bool t957)) (fun _ hk => hk.2) (.bool t958)) (fun _ hk => hk.2) (.int .i64 t959)) (fun _ hk => hk.2) (.int .i64 t960)) (fun _ hk => hk.2) (.int .i64 t961)) (fun _ hk => hk.2) (.int .u32 t962)) (fun _ hk => hk.2) (.int .u32 t963)) (fun _ hk => hk.2) (.slice Ao11 t964.length co11)) (fun _ hk => hk.2) (.slice Ao12 t967.length co12)) (fun _ hk => hk.1)⟩, ⟨by (with_reducible repeat (first | apply Kd.R_alloc | apply Kd.R_drewN | apply Kd.R_drew)); exact Kd.R_mono (Kd.R_far (p := ⟨gb971, 10, none⟩) (Kd.R_far (p := ⟨gb971, 9, none⟩) (Kd.R_far (p := ⟨gb971, 8, none⟩) (Kd.R_far (p := ⟨gb971, 7, none⟩) (Kd.R_far (p := ⟨gb971, 6, none⟩) (Kd.R_far (p := ⟨gb971, 5, none⟩) (Kd.R_far (p := ⟨gb971, 4, none⟩) (Kd.R_far (p := ⟨gb971, 3, none⟩) (Kd.R_far (p := ⟨gb971, 2, none⟩) (Kd.R_far (p := ⟨gb971, 1, none⟩) (Kd.R_far (p := ⟨gb971, 0, none⟩) (Kd.R_types HO969.out BK971.out (by decide)) (fun _ hk => hk.2) (.int .i64 t955)) (fun _ hk => hk.2) (.int .i64 t956)) (fun _ hk => hk.2) (.bool t957)) (fun _ hk => hk.2) (.bool t958)) (fun _ hk => hk.2) (.int .i64 t959)) (fun _ hk => hk.2) (.int .i64 t960)) (fun _ hk => hk.2) (.int .i64 t961)) (fun _ hk => hk.2) (.int .u32 t962)) (fun _ hk => hk.2) (.int .u32 t963)) (fun _ hk => hk.2) (.slice Ao11 t964.length co11)) (fun _ hk => hk.2) (.slice Ao12 t967.length co12)) (fun _ hk => hk.1)⟩, ⟨by (with_reducible repeat (first | refine blk_drewN ?_ _ | refine blk_drew ?_ | refine blk_alloc ?_ _)); refine blk_put (cs := #[.int .i64 t955, .int .i64 t956, .bool t957, .bool t958, .int .i64 t959, .int .i64 t960, .int .i64 t961, .int .u32 t962, .int .u32 t963, .slice Ao11 t964.length co11, .slice none 0 0]) ?_ 10 _ rfl; (with_reducible repeat (first | refine blk_drewN ?_ _ | refine blk_drew ?_ | refine blk_alloc ?_ _)); refine blk_put (cs := #[.int .i64 t955, .int .i64 t956, .bool t957, .bool t958, .int .i64 t959, .int .i64 t960, .int .i64 t961, .int .u32 t962, .int .u32 t963, .slice none 0 0, .slice none 0 0]) ?_ 9 _ rfl; (with_reducible repeat (first | refine blk_drewN ?_ _ | refine blk_drew ?_ | refine blk_alloc ?_ _)); refine blk_put (cs := #[.int .i64 t955, .int .i64 t956, .bool t957, .bool t958, .int .i64 t959, .int .i64 t960, .int .i64 t961, .int .u32 t962, .int .u32 0, .slice none 0 0, .slice none 0 0]) ?_ 8 _ rfl; (with_reducible repeat (first | refine blk_drewN ?_ _ | refine blk_drew ?_ | refine blk_alloc ?_ _)); refine blk_put (cs := #[.int .i64 t955, .int .i64 t956, .bool t957, .bool t958, .int .i64 t959, .int .i64 t960, .int .i64 t961, .int .u32 0, .int .u32 0, .slice none 0 0, .slice none 0 0]) ?_ 7 _ rfl; (with_reducible repeat (first | refine blk_drewN ?_ _ | refine blk_drew ?_ | refine blk_alloc ?_ _)); refine blk_put (cs := #[.int .i64 t955, .int .i64 t956, .bool t957, .bool t958, .int .i64 t959, .int .i64 t960, .int .i64 0, .int .u32 0, .int .u32 0, .slice none 0 0, .slice none 0 0]) ?_ 6 _ rfl; (with_reducible repeat (first | refine blk_drewN ?_ _ | refine blk_drew ?_ | refine blk_alloc ?_ _)); refine blk_put (cs := #[.int .i64 t955, .int .i64 t956, .bool t957, .bool t958, .int .i64 t959, .int .i64 0, .int .i64 0, .int .u32 0, .int .u32 0, .slice none 0 0, .slice none 0 0]) ?_ 5 _ rfl; (with_reducible repeat (first | refine blk_drewN ?_ _ | refine blk_drew ?_ | refine blk_alloc ?_ _)); refine blk_put (cs := #[.int .i64 t955, .int .i64 t956, .bool t957, .bool t958, .int .i64 0, .int .i64 0, .int .i64 0, .int .u32 0, .int .u32 0, .slice none 0 0, .slice none 0 0]) ?_ 4 _ rfl; (with_reducible repeat (first | refine blk_drewN ?_ _ | refine blk_drew ?_ | refine blk_alloc ?_ _)); refine blk_put (cs := #[.int .i64 t955, .int .i64 t956, .bool t957, .bool false, .int .i64 0, .int .i64 0, .int .i64 0, .int .u32 0, .int .u32 0, .slice none 0 0, .slice none 0 0]) ?_ 3 _ rfl; (with_reducible repeat (first | refine blk_drewN ?_ _ | refine blk_drew ?_ | refine blk_alloc ?_ _)); refine blk_put (cs := #[.int .i64 t955, .int .i64 t956, .bool false, .bool false, .int .i64 0, .int .i64 0, .int .i64 0, .int .u32 0, .int .u32 0, .slice none 0 0, .slice none 0 0]) ?_ 2 _ rfl; (with_reducible repeat (first | refine blk_drewN ?_ _ | refine blk_drew ?_ | refine blk_alloc ?_ _)); refine blk_put (cs := #[.int .i64 t955, .int .i64 0, .bool false, .bool false, .int .i64 0, .int .i64 0, .int .i64 0, .int .u32 0, .int .u32 0, .slice none 0 0, .slice none 0 0]) ?_ 1 _ rfl; (with_reducible repeat (first | refine blk_drewN ?_ _ | refine blk_drew ?_ | refine blk_alloc ?_ _)); refine blk_put (cs := #[.int .i64 0, .int .i64 0, .bool false, .bool false, .int .i64 0, .int .i64 0, .int .i64 0, .int .u32 0, .int .u32 0, .slice none 0 0, .slice none 0 0]) ?_ 0 _ rfl; (with_reducible repeat (first | refine blk_drewN ?_ _ | refine blk_drew ?_ | refine blk_alloc ?_ _)); exact BK971.out⟩, ⟨by repeat (first | (with_reducible first | exact HB.out | apply below_alloc | apply pw_below_drewN | apply below_drew1 | refine below_set ?_ GE971.out) | exact HB.out)⟩⟩
   ·rw [if_neg c13] at H
    have c13b0 : decide (a0 < 0) = false := decide_eq_false c13
    clear c13
    (first | rw [c13b0] | (simp only [i64_w, i32_w]; rw [c13b0]) | skip)
    by_cases c14 : a0 > 255
    ·rw [if_pos c14] at H
     have c14b0 : decide (255 < a0) = true := decide_eq_true c14
     clear c14
     have H' := Aside0.mk H
     clear H
     go_wp2
     go_meet
     case rel => exact ⟨_, (true), (by first | rfl | (simp; done) | (simp [*]; done)), H', ⟨by first | omega | exact Nat.le_refl _⟩, ⟨by (with_reducible repeat (first | apply Kd.R_alloc | apply Kd.R_drewN | apply Kd.R_drew)); exact Kd.R_mono (Kd.R_far (p := ⟨gb971, 10, none⟩) (Kd.R_far (p := ⟨gb971, 9, none⟩) (Kd.R_far (p := ⟨gb971, 8, none⟩) (Kd.R_far (p := ⟨gb971, 7, none⟩) (Kd.R_far (p := ⟨gb971, 6, none⟩) (Kd.R_far (p := ⟨gb971, 5, none⟩) (Kd.R_far (p := ⟨gb971, 4, none⟩) (Kd.R_far (p := ⟨gb971, 3, none⟩) (Kd.R_far (p := ⟨gb971, 2, none⟩) (Kd.R_far (p := ⟨gb971, 1, none⟩) (Kd.R_far (p := ⟨gb971, 0, none⟩) (Kd.R_types HO966.out BK971.out (by decide)) (fun _ hk => hk.2) (.int .i64 t955)) (fun _ hk => hk.2) (.int .i64 t956)) (fun _ hk => hk.2) (.bool t957)) (fun _ hk => hk.2) (.bool t958)) (fun _ hk => hk.2) (.int .i64 t959)) (fun _ hk => hk.2) (.int .i64 t960)) (fun _ hk => hk.2) (.int .i64 t961)) (fun _ hk => hk.2) (.int .u32 t962)) (fun _ hk => hk.2) (.int .u32 t963)) (fun _ hk => hk.2) (.slice Ao11 t964.length co11)) (fun _ hk => hk.2) (.slice Ao12 t967.length co12)) (fun _ hk => hk.1)⟩, ⟨by (with_reducible repeat (first | apply Kd.R_alloc | apply Kd.R_drewN | apply Kd.R_drew)); exact Kd.R_mono (Kd.R_far (p := ⟨gb971, 10, none⟩) (Kd.R_far (p := ⟨gb971, 9, none⟩) (Kd.R_far (p := ⟨gb971, 8, none⟩) (Kd.R_far (p := ⟨gb971, 7, none⟩) (Kd.R_far (p := ⟨gb971, 6, none⟩) (Kd.R_far (p := ⟨gb971, 5, none⟩) (Kd.R_far (p := ⟨gb971, 4, none⟩) (Kd.R_far (p := ⟨gb971, 3, none⟩) (Kd.R_far (p := ⟨gb971, 2, none⟩) (Kd.R_far (p := ⟨gb971, 1, none⟩) (Kd.R_far (p := ⟨gb971, 0, none⟩) (Kd.R_types HO969.out BK971.out (by decide)) (fun _ hk => hk.2) (.int .i64 t955)) (fun _ hk => hk.2) (.int .i64 t956)) (fun _ hk => hk.2) (.bool t957)) (fun _ hk => hk.2) (.bool t958)) (fun _ hk => hk.2) (.int .i64 t959)) (fun _ hk => hk.2) (.int .i64 t960)) (fun _ hk => hk.2) (.int .i64 t961)) (fun _ hk => hk.2) (.int .u32 t962)) (fun _ hk => hk.2) (.int .u32 t963)) (fun _ hk => hk.2) (.slice Ao11 t964.length co11)) (fun _ hk => hk.2) (.slice Ao12 t967.length co12)) (fun _ hk => hk.1)⟩, ⟨by (with_reducible repeat (first | refine blk_drewN ?_ _ | refine blk_drew ?_ | refine blk_alloc ?_ _)); refine blk_put (cs := #[.int .i64 t955, .int .i64 t956, .bool t957, .bool t958, .int .i64 t959, .int .i64 t960, .int .i64 t961, .int .u32 t962, .int .u32 t963, .slice Ao11 t964.length co11, .slice none 0 0]) ?_ 10 _ rfl; (with_reducible repeat (first | refine blk_drewN ?_ _ | refine blk_drew ?_ | refine blk_alloc ?_ _)); refine blk_put (cs := #[.int .i64 t955, .int .i64 t956, .bool t957, .bool t958, .int .i64 t959, .int .i64 t960, .int .i64 t961, .int .u32 t962, .int .u32 t963, .slice none 0 0, .slice none 0 0]) ?_ 9 _ rfl; (with_reducible repeat (first | refine blk_drewN ?_ _ | refine blk_drew ?_ | refine blk_alloc ?_ _)); refine blk_put (cs := #[.int .i64 t955, .int .i64 t956, .bool t957, .bool t958, .int .i64 t959, .int .i64 t960, .int .i64 t961, .int .u32 t962, .int .u32 0, .slice none 0 0, .slice none 0 0]) ?_ 8 _ rfl; (with_reducible repeat (first | refine blk_drewN ?_ _ | refine blk_drew ?_ | refine blk_alloc ?_ _)); refine blk_put (cs := #[.int .i64 t955, .int .i64 t956, .bool t957, .bool t958, .int .i64 t959, .int .i64 t960, .int .i64 t961, .int .u32 0, .int .u32 0, .slice none 0 0, .slice none 0 0]) ?_ 7 _ rfl; (with_reducible repeat (first | refine blk_drewN ?_ _ | refine blk_drew ?_ | refine blk_alloc ?_ _)); refine blk_put (cs := #[.int .i64 t955, .int .i64 t956, .bool t957, .bool t958, .int .i64 t959, .int .i64 t960, .int .i64 0, .int .u32 0, .int .u32 0, .slice none 0 0, .slice none 0 0]) ?_ 6 _ rfl; (with_reducible repeat (first | refine blk_drewN ?_ _ | refine blk_drew ?_ | refine blk_alloc ?_ _)); refine blk_put (cs := #[.int .i64 t955, .int .i64 t956, .bool t957, .bool t958, .int .i64 t959, .int .i64 0, .int .i64 0, .int .u32 0, .int .u32 0, .slice none 0 0, .slice none 0 0]) ?_ 5 _ rfl; (with_reducible repeat (first | refine blk_drewN ?_ _ | refine blk_drew ?_ | refine blk_alloc ?_ _)); refine blk_put (cs := #[.int .i64 t955, .int .i64 t956, .bool t957, .bool t958, .int .i64 0, .int .i64 0, .int .i64 0, .int .u32 0, .int .u32 0, .slice none 0 0, .slice none 0 0]) ?_ 4 _ rfl; (with_reducible repeat (first | refine blk_drewN ?_ _ | refine blk_drew ?_ | refine blk_alloc ?_ _)); refine blk_put (cs := #[.int .i64 t955, .int .i64 t956, .bool t957, .bool false, .int .i64 0, .int .i64 0, .int .i64 0, .int .u32 0, .int .u32 0, .slice none 0 0, .slice none 0 0]) ?_ 3 _ rfl; (with_reducible repeat (first | refine blk_drewN ?_ _ | refine blk_drew ?_ | refine blk_alloc ?_ _)); refine blk_put (cs := #[.int .i64 t955, .int .i64 t956, .bool false, .bool false, .int .i64 0, .int .i64 0, .int .i64 0, .int .u32 0, .int .u32 0, .slice none 0 0, .slice none 0 0]) ?_ 2 _ rfl; (with_reducible repeat (first | refine blk_drewN ?_ _ | refine blk_drew ?_ | refine blk_alloc ?_ _)); refine blk_put (cs := #[.int .i64 t955, .int .i64 0, .bool false, .bool false, .int .i64 0, .int .i64 0, .int .i64 0, .int .u32 0, .int .u32 0, .slice none 0 0, .slice none 0 0]) ?_ 1 _ rfl; (with_reducible repeat (first | refine blk_drewN ?_ _ | refine blk_drew ?_ | refine blk_alloc ?_ _)); refine blk_put (cs := #[.int .i64 0, .int .i64 0, .bool false, .bool false, .int .i64 0, .int .i64 0, .int .i64 0, .int .u32 0, .int .u32 0, .slice none 0 0, .slice none 0 0]) ?_ 0 _ rfl; (with_reducible repeat (first | refine blk_drewN ?_ _ | refine blk_drew ?_ | refine blk_alloc ?_ _)); exact BK971.out⟩, ⟨by repeat (first | (with_reducible first | exact HB.out | apply below_alloc | apply pw_below_drewN | apply below_drew1 | refine below_set ?_ GE971.out) | exact HB.out)⟩⟩
    ·rw [if_neg c14] at H
     have c14b0 : decide (255 < a0) = false := decide_eq_false c14
     clear c14
     by_cases c15 : a1 < 0
     ·rw [if_pos c15] at H
      have c15b0 : decide (a1 < 0) = true := decide_eq_true c15
      clear c15
      have H' := Aside0.mk H
      clear H
      go_wp2
      go_meet
      case rel => exact ⟨_, (true), (by first | rfl | (simp; done) | (simp [*]; done)), H', ⟨by first | omega | exact Nat.le_refl _⟩, ⟨by (with_reducible repeat (first | apply Kd.R_alloc | apply Kd.R_drewN | apply Kd.R_drew)); exact Kd.R_mono (Kd.R_far (p := ⟨gb971, 10, none⟩) (Kd.R_far (p := ⟨gb971, 9, none⟩) (Kd.R_far (p := ⟨gb971, 8, none⟩) (Kd.R_far (p := ⟨gb971, 7, none⟩) (Kd.R_far (p := ⟨gb971, 6, none⟩) (Kd.R_far (p := ⟨gb971, 5, none⟩) (Kd.R_far (p := ⟨gb971, 4, none⟩) (Kd.R_far (p := ⟨gb971, 3, none⟩) (Kd.R_far (p := ⟨gb971, 2, none⟩) (Kd.R_far (p := ⟨gb971, 1, none⟩) (Kd.R_far (p := ⟨gb971, 0, none⟩) (Kd.R_types HO966.out BK971.out (by decide)) (fun _ hk => hk.2) (.int .i64 t955)) (fun _ hk => hk.2) (.int .i64 t956)) (fun _ hk => hk.2) (.bool t957)) (fun _ hk => hk.2) (.bool t958)) (fun _ hk => hk.2) (.int .i64 t959)) (fun _ hk => hk.2) (.int .i64 t960)) (fun _ hk => hk.2) (.int .i64 t961)) (fun _ hk => hk.2) (.int .u32 t962)) (fun _ hk => hk.2) (.int .u32 t963)) (fun _ hk => hk.2) (.slice Ao11 t964.length co11)) (fun _ hk => hk.2) (.slice Ao12 t967.length co12)) (fun _ hk => hk.1)⟩, ⟨by (with_reducible repeat (first | apply Kd.R_alloc | apply Kd.R_drewN | apply Kd.R_drew)); exact Kd.R_mono (Kd.R_far (p := ⟨gb971, 10, none⟩) (Kd.R_far (p := ⟨gb971, 9, none⟩) (Kd.R_far (p := ⟨gb971, 8, none⟩) (Kd.R_far (p := ⟨gb971, 7, none⟩) (Kd.R_far (p := ⟨gb971, 6, none⟩) (Kd.R_far (p := ⟨gb971, 5, none⟩) (Kd.R_far (p := ⟨gb971, 4, none⟩) (Kd.R_far (p := ⟨gb971, 3, none⟩) (Kd.R_far (p := ⟨gb971, 2, none⟩) (Kd.R_far (p := ⟨gb971, 1, none⟩) (Kd.R_far (p := ⟨gb971, 0, none⟩) (Kd.R_types HO969.out BK971.out (by decide)) (fun _ hk => hk.2) (.int .i64 t955)) (fun _ hk => hk.2) (.int .i64 t956)) (fun _ hk => hk.2) (.bool t957)) (fun _ hk => hk.2) (.bool t958)) (fun _ hk => hk.2) (.int .i64 t959)) (fun _ hk => hk.2) (.int .i64 t960)) (fun _ hk => hk.2) (.int .i64 t961)) (fun _ hk => hk.2) (.int .u32 t962)) (fun _ hk => hk.2) (.int .u32 t963)) (fun _ hk => hk.2) (.slice Ao11 t964.length co11)) (fun _ hk => hk.2) (.slice Ao12 t967.length co12)) (fun _ hk => hk.1)⟩, ⟨by (with_reducible repeat (first | refine blk_drewN ?_ _ | refine blk_drew ?_ | refine blk_alloc ?_ _)); refine blk_put (cs := #[.int .i64 t955, .int .i64 t956, .bool t957, .bool t958, .int .i64 t959, .int .i64 t960, .int .i64 t961, .int .u32 t962, .int .u32 t963, .slice Ao11 t964.length co11, .slice none 0 0]) ?_ 10 _ rfl; (with_reducible repeat (first | refine blk_drewN ?_ _ | refine blk_drew ?_ | refine blk_alloc ?_ _)); refine blk_put (cs := #[.int .i64 t955, .int .i64 t956, .bool t957, .bool t958, .int .i64 t959, .int .i64 t960, .int .i64 t961, .int .u32 t962, .int .u32 t963, .slice none 0 0, .slice none 0 0]) ?_ 9 _ rfl; (with_reducible repeat (first | refine blk_drewN ?_ _ | refine blk_drew ?_ | refine blk_alloc ?_ _)); refine blk_put (cs := #[.int .i64 t955, .int .i64 t956, .bool t957, .bool t958, .int .i64 t959, .int .i64 t960, .int .i64 t961, .int .u32 t962, .int .u32 0, .slice none 0 0, .slice none 0 0]) ?_ 8 _ rfl; (with_reducible repeat (first | refine blk_drewN ?_ _ | refine blk_drew ?_ | refine blk_alloc ?_ _)); refine blk_put (cs := #[.int .i64 t955, .int .i64 t956, .bool t957, .bool t958, .int .i64 t959, .int .i64 t960, .int .i64 t961, .int .u32 0, .int .u32 0, .slice none 0 0, .slice none 0 0]) ?_ 7 _ rfl; (with_reducible repeat (first | refine blk_drewN ?_ _ | refine blk_drew ?_ | refine blk_alloc ?_ _)); refine blk_put (cs := #[.int .i64 t955, .int .i64 t956, .bool t957, .bool t958, .int .i64 t959, .int .i64 t960, .int .i64 0, .int .u32 0, .int .u32 0, .slice none 0 0, .slice none 0 0]) ?_ 6 _ rfl; (with_reducible repeat (first | refine blk_drewN ?_ _ | refine blk_drew ?_ | refine blk_alloc ?_ _)); refine blk_put (cs := #[.int .i64 t955, .int .i64 t956, .bool t957, .bool t958, .int .i64 t959, .int .i64 0, .int .i64 0, .int .u32 0, .int .u32 0, .slice none 0 0, .slice none 0 0]) ?_ 5 _ rfl; (with_reducible repeat (first | refine blk_drewN ?_ _ | refine blk_drew ?_ | refine blk_alloc ?_ _)); refine blk_put (cs := #[.int .i64 t955, .int .i64 t956, .bool t957, .bool t958, .int .i64 0, .int .i64 0, .int .i64 0, .int .u32 0, .int .u32 0, .slice none 0 0, .slice none 0 0]) ?_ 4 _ rfl; (with_reducible repeat (first | refine blk_drewN ?_ _ | refine blk_drew ?_ | refine blk_alloc ?_ _)); refine blk_put (cs := #[.int .i64 t955, .int .i64 t956, .bool t957, .bool false, .int .i64 0, .int .i64 0, .int .i64 0, .int .u32 0, .int .u32 0, .slice none 0 0, .slice none 0 0]) ?_ 3 _ rfl; (with_reducible repeat (first | refine blk_drewN ?_ _ | refine blk_drew ?_ | refine blk_alloc ?_ _)); refine blk_put (cs := #[.int .i64 t955, .int .i64 t956, .bool false, .bool false, .int .i64 0, .int .i64 0, .int .i64 0, .int .u32 0, .int .u32 0, .slice none 0 0, .slice none 0 0]) ?_ 2 _ rfl; (with_reducible repeat (first | refine blk_drewN ?_ _ | refine blk_drew ?_ | refine blk_alloc ?_ _)); refine blk_put (cs := #[.int .i64 t955, .int .i64 0, .bool false, .bool false, .int .i64 0, .int .i64 0, .int .i64 0, .int .u32 0, .int .u32 0, .slice none 0 0, .slice none 0 0]) ?_ 1 _ rfl; (with_reducible repeat (first | refine blk_drewN ?_ _ | refine blk_drew ?_ | refine blk_alloc ?_ _)); refine blk_put (cs := #[.int .i64 0, .int .i64 0, .bool false, .bool false, .int .i64 0, .int .i64 0, .int .i64 0, .int .u32 0, .int .u32 0, .slice none 0 0, .slice none 0 0]) ?_ 0 _ rfl; (with_reducible repeat (first | refine blk_drewN ?_ _ | refine blk_drew ?_ | refine blk_alloc ?_ _)); exact BK971.out⟩, ⟨by repeat (first | (with_reducible first | exact HB.out | apply below_alloc | apply pw_below_drewN | apply below_drew1 | refine below_set ?_ GE971.out) | exact HB.out)⟩⟩
     ·rw [if_neg c15] at H
      have c15b0 : decide (a1 < 0) = false := decide_eq_false c15
      clear c15
      have H' := Aside0.mk H
      clear H
      go_wp2
      go_meet
      case rel => exact ⟨_, (decide (a1 > 255)), (by first | rfl | (simp; done) | (simp [*]; done)), H', ⟨by first | omega | exact Nat.le_refl _⟩, ⟨by (with_reducible repeat (first | apply Kd.R_alloc | apply Kd.R_drewN | apply Kd.R_drew)); exact Kd.R_mono (Kd.R_far (p := ⟨gb971, 10, none⟩) (Kd.R_far (p := ⟨gb971, 9, none⟩) (Kd.R_far (p := ⟨gb971, 8, none⟩) (Kd.R_far (p := ⟨gb971, 7, none⟩) (Kd.R_far (p := ⟨gb971, 6, none⟩) (Kd.R_far (p := ⟨gb971, 5, none⟩) (Kd.R_far (p := ⟨gb971, 4, none⟩) (Kd.R_far (p := ⟨gb971, 3, none⟩) (Kd.R_far (p := ⟨gb971, 2, none⟩) (Kd.R_far (p := ⟨gb971, 1, none⟩) (Kd.R_far (p := ⟨gb971, 0, none⟩) (Kd.R_types HO966.out BK971.out (by decide)) (fun _ hk => hk.2) (.int .i64 t955)) (fun _ hk => hk.2) (.int .i64 t956)) (fun _ hk => hk.2) (.bool t957)) (fun _ hk => hk.2) (.bool t958)) (fun _ hk => hk.2) (.int .i64 t959)) (fun _ hk => hk.2) (.int .i64 t960)) (fun _ hk => hk.2) (.int .i64 t961)) (fun _ hk => hk.2) (.int .u32 t962)) (fun _ hk => hk.2) (.int .u32 t963)) (fun _ hk => hk.2) (.slice Ao11 t964.length co11)) (fun _ hk => hk.2) (.slice Ao12 t967.length co12)) (fun _ hk => hk.1)⟩, ⟨by (with_reducible repeat (first | apply Kd.R_alloc | apply Kd.R_drewN | apply Kd.R_drew)); exact Kd.R_mono (Kd.R_far (p := ⟨gb971, 10, none⟩) (Kd.R_far (p := ⟨gb971, 9, none⟩) (Kd.R_far (p := ⟨gb971, 8, none⟩) (Kd.R_far (p := ⟨gb971, 7, none⟩) (Kd.R_far (p := ⟨gb971, 6, none⟩) (Kd.R_far (p := ⟨gb971, 5, none⟩) (Kd.R_far (p := ⟨gb971, 4, none⟩) (Kd.R_far (p := ⟨gb971, 3, none⟩) (Kd.R_far (p := ⟨gb971, 2, none⟩) (Kd.R_far (p := ⟨gb971, 1, none⟩) (Kd.R_far (p := ⟨gb971, 0, none⟩) (Kd.R_types HO969.out BK971.out (by decide)) (fun _ hk => hk.2) (.int .i64 t955)) (fun _ hk => hk.2) (.int .i64 t956)) (fun _ hk => hk.2) (.bool t957)) (fun _ hk => hk.2) (.bool t958)) (fun _ hk => hk.2) (.int .i64 t959)) (fun _ hk => hk.2) (.int .i64 t960)) (fun _ hk => hk.2) (.int .i64 t961)) (fun _ hk => hk.2) (.int .u32 t962)) (fun _ hk => hk.2) (.int .u32 t963)) (fun _ hk => hk.2) (.slice Ao11 t964.length co11)) (fun _ hk => hk.2) (.slice Ao12 t967.length co12)) (fun _ hk => hk.1)⟩, ⟨by (with_reducible repeat (first | refine blk_drewN ?_ _ | refine blk_drew ?_ | refine blk_alloc ?_ _)); refine blk_put (cs := #[.int .i64 t955, .int .i64 t956, .bool t957, .bool t958, .int .i64 t959, .int .i64 t960, .int .i64 t961, .int .u32 t962, .int .u32 t963, .slice Ao11 t964.length co11, .slice none 0 0]) ?_ 10 _ rfl; (with_reducible repeat (first | refine blk_drewN ?_ _ | refine blk_drew ?_ | refine blk_alloc ?_ _)); refine blk_put (cs := #[.int .i64 t955, .int .i64 t956, .bool t957, .bool t958, .int .i64 t959, .int .i64 t960, .int .i64 t961, .int .u32 t962, .int .u32 t963, .slice none 0 0, .slice none 0 0]) ?_ 9 _ rfl; (with_reducible repeat (first | refine blk_drewN ?_ _ | refine blk_drew ?_ | refine blk_alloc ?_ _)); refine blk_put (cs := #[.int .i64 t955, .int .i64 t956, .bool t957, .bool t958, .int .i64 t959, .int .i64 t960, .int .i64 t961, .int .u32 t962, .int .u32 0, .slice none 0 0, .slice none 0 0]) ?_ 8 _ rfl; (with_reducible repeat (first | refine blk_drewN ?_ _ | refine blk_drew ?_ | refine blk_alloc ?_ _)); refine blk_put (cs := #[.int .i64 t955, .int .i64 t956, .bool t957, .bool t958, .int .i64 t959, .int .i64 t960, .int .i64 t961, .int .u32 0, .int .u32 0, .slice none 0 0, .slice none 0 0]) ?_ 7 _ rfl; (with_reducible repeat (first | refine blk_drewN ?_ _ | refine blk_drew ?_ | refine blk_alloc ?_ _)); refine blk_put (cs := #[.int .i64 t955, .int .i64 t956, .bool t957, .bool t958, .int .i64 t959, .int .i64 t960, .int .i64 0, .int .u32 0, .int .u32 0, .slice none 0 0, .slice none 0 0]) ?_ 6 _ rfl; (with_reducible repeat (first | refine blk_drewN ?_ _ | refine blk_drew ?_ | refine blk_alloc ?_ _)); refine blk_put (cs := #[.int .i64 t955, .int .i64 t956, .bool t957, .bool t958, .int .i64 t959, .int .i64 0, .int .i64 0, .int .u32 0, .int .u32 0, .slice none 0 0, .slice none 0 0]) ?_ 5 _ rfl; (with_reducible repeat (first | refine blk_drewN ?_ _ | refine blk_drew ?_ | refine blk_alloc ?_ _)); refine blk_put (cs := #[.int .i64 t955, .int .i64 t956, .bool t957, .bool t958, .int .i64 0, .int .i64 0, .int .i64 0, .int .u32 0, .int .u32 0, .slice none 0 0, .slice none 0 0]) ?_ 4 _ rfl; (with_reducible repeat (first | refine blk_drewN ?_ _ | refine blk_drew ?_ | refine blk_alloc ?_ _)); refine blk_put (cs := #[.int .i64 t955, .int .i64 t956, .bool t957, .bool false, .int .i64 0, .int .i64 0, .int .i64 0, .int .u32 0, .int .u32 0, .slice none 0 0, .slice none 0 0]) ?_ 3 _ rfl; (with_reducible repeat (first | refine blk_drewN ?_ _ | refine blk_drew ?_ | refine blk_alloc ?_ _)); refine blk_put (cs := #[.int .i64 t955, .int .i64 t956, .bool false, .bool false, .int .i64 0, .int .i64 0, .int .i64 0, .int .u32 0, .int .u32 0, .slice none 0 0, .slice none 0 0]) ?_ 2 _ rfl; (with_reducible repeat (first | refine blk_drewN ?_ _ | refine blk_drew ?_ | refine blk_alloc ?_ _)); refine blk_put (cs := #[.int .i64 t955, .int .i64 0, .bool false, .bool false, .int .i64 0, .int .i64 0, .int .i64 0, .int .u32 0, .int .u32 0, .slice none 0 0, .slice none 0 0]) ?_ 1 _ rfl; (with_reducible repeat (first | refine blk_drewN ?_ _ | refine blk_drew ?_ | refine blk_alloc ?_ _)); refine blk_put (cs := #[.int .i64 0, .int .i64 0, .bool false, .bool false, .int .i64 0, .int .i64 0, .int .i64 0, .int .u32 0, .int .u32 0, .slice none 0 0, .slice none 0 0]) ?_ 0 _ rfl; (with_reducible repeat (first | refine blk_drewN ?_ _ | refine blk_drew ?_ | refine blk_alloc ?_ _)); exact BK971.out⟩, ⟨by repeat (first | (with_reducible first | exact HB.out | apply below_alloc | apply pw_below_drewN | apply below_drew1 | refine below_set ?_ GE971.out) | exact HB.out)⟩⟩
  case rest =>
   clear HC7
   try clear c1
   try clear c2
   try clear p2
   try clear c3
   try clear c4
   try clear c6
   try clear c6b0
   try clear c6b1
   try clear c13
   try clear c13b0
   try clear c14
   try clear c14b0
   try clear c15
   try clear c15b0
   try clear hcz10_0
   try clear hcz10_1
   try clear hcz10_10
   try clear hcz10_2
   try clear hcz10_3
   try clear hcz10_4
   try clear hcz10_5
   try clear hcz10_6
   try clear hcz10_7
   try clear hcz10_8
   try clear hcz10_9
   try clear hfz10_0
   try clear hfz10_1
   try clear hfz10_10
   try clear hfz10_2
   try clear hfz10_3
   try clear hfz10_4
   try clear hfz10_5
   try clear hfz10_6
   try clear hfz10_7
   try clear hfz10_8
   try clear hfz10_9
   obtain ⟨kq, x34_6, rfl, HA, HJ6, HO_972009, HO_972010, BK971, HB⟩ := hcut
   cases kq with
   | zero => exact absurd HA.out (by simp [bailiwickref21_Fault.j0])
   | succ kj6 =>
    have H := HA.out
    clear HA
    simp only [bailiwickref21_Fault.j0] at H
    by_cases c16 : x34_6 = true
    ·subst c16
     have H1 : (some (([] : List Int), 1)) = some (r1, r2) := by rw [if_pos rfl] at H; exact H
     clear H
     have H := H1
     clear H1
     simp only [Option.some.injEq, Prod.mk.injEq] at H
     obtain ⟨rfl, rfl⟩ := H
     go_wp2
     go_ret2
     exact ⟨_, by first | rfl | (simp [errW_none, errW_some] <;> rfl) | (simp [*, errW_none, errW_some] <;> rfl), by first | exact Kd.R_nil _ _ _ _ _ | exact Kd.N_nil _ _ _ _ _ | exact Kd.V_nil _ _ _ _ _ | exact Kd.Q_nil _ _ _ _ _ | exact Kd.S_nil _ _ _ _ _, by repeat (first | (with_reducible first | exact HB.out | apply below_alloc | apply pw_below_drewN | apply below_drew1 | refine below_set ?_ GE971.out) | exact HB.out)⟩
    ·replace c16 := Bool.eq_false_iff.mpr c16
     subst c16
     have H1 : (if t959 = 0 then (if t961 = 1 then (if (t967.length : Int) = 0 then (bailiwickref21_Fault.j1 kj6 a0 a1 a2 l3 true t955 t956 t957 t958 t959 t960 t961 t962 t963 t964 t967) else (if 0 < (t967.length : Int) then (if (rd t967 0) = 8 then (bailiwickref21_Fault.j1 kj6 a0 a1 a2 l3 false t955 t956 t957 t958 t959 t960 t961 t962 t963 t964 t967) else (bailiwickref21_Fault.j1 kj6 a0 a1 a2 l3 ((rd t967 0) != 0) t955 t956 t957 t958 t959 t960 t961 t962 t963 t964 t967)) else (none))) else (bailiwickref21_Fault.j1 kj6 a0 a1 a2 l3 false t955 t956 t957 t958 t959 t960 t961 t962 t963 t964 t967)) else (bailiwickref21_Fault.j1 kj6 a0 a1 a2 l3 true t955 t956 t957 t958 t959 t960 t961 t962 t963 t964 t967)) = some (r1, r2) := by rw [if_neg (show ¬ (false = true) by decide)] at H; exact H
     clear H
     have H := H1
     clear H1
     have HC17 := Aside0.mk H
     clear H
     go_upto_region 6 with (fail)
     go_cut [62] (fun v62 wc => ∃ (kq : Nat) (x62_16 : Bool), v62 = .bool x62_16 ∧ Aside0 (bailiwickref21_Fault.j1 kq a0 a1 a2 l3 x62_16 t955 t956 t957 t958 t959 t960 t961 t962 t963 t964 t967 = some (r1, r2)) ∧ Aside0 (kq ≤ kj6) ∧ Aside0 (Kd.R (Kd.int .u8) 5 wc w.heap.size (fun k_ => some k_ ≠ ((.slice Ao12 t967.length co12) : Value).ownBlock) (.slice Ao11 t964.length co11) t964) ∧ Aside0 (Kd.R (Kd.int .u8) 5 wc w.heap.size (fun k_ => some k_ ≠ ((.slice Ao11 t964.length co11) : Value).ownBlock) (.slice Ao12 t967.length co12) t967) ∧ Aside0 (wc.heap[gb971]? = some (.cells #[.int .i64 t955, .int .i64 t956, .bool t957, .bool t958, .int .i64 t959, .int .i64 t960, .int .i64 t961, .int .u32 t962, .int .u32 t963, (.slice Ao11 t964.length co11), (.slice Ao12 t967.length co12)] 29 (0, 0))) ∧ Aside0 (Below w.heap.size w wc))
     case first =>
      have H := HC17.out
      clear HC17
      by_cases c18 : t959 = 0
      ·rw [if_pos c18] at H
       have c18b0 : (t959 == 0) = true := beq_iff_eq.mpr c18
       have c18b1 : (t959 != 0) = false := bne_eq_false_iff_eq.mpr c18
       clear c18
       (first | rw [c18b0] | (simp only [i64_w, i32_w]; rw [c18b0]) | skip)
       by_cases c19 : t961 = 1
       ·rw [if_pos c19] at H
        have c19b0 : (t961 == 1) = true := beq_iff_eq.mpr c19
        have c19b1 : (t961 != 1) = false := bne_eq_false_iff_eq.mpr c19
        clear c19
        by_cases c20 : (t967.length : Int) = 0
        ·rw [if_pos c20] at H
         have c20b0 : ((t967.length : Int) == 0) = true := beq_iff_eq.mpr c20
         have c20b1 : ((t967.length : Int) != 0) = false := bne_eq_false_iff_eq.mpr c20
         clear c20
         have H' := Aside0.mk H
         clear H
         have hcz21_0 : wc.cell? ⟨gb971, 0, none⟩ = some (.int .i64 t955) := (blk_cell BK971.out 0).trans rfl
         have hcz21_1 : wc.cell? ⟨gb971, 1, none⟩ = some (.int .i64 t956) := (blk_cell BK971.out 1).trans rfl
         have hcz21_2 : wc.cell? ⟨gb971, 2, none⟩ = some (.bool t957) := (blk_cell BK971.out 2).trans rfl
         have hcz21_3 : wc.cell? ⟨gb971, 3, none⟩ = some (.bool t958) := (blk_cell BK971.out 3).trans rfl
         have hcz21_4 : wc.cell? ⟨gb971, 4, none⟩ = some (.int .i64 t959) := (blk_cell BK971.out 4).trans rfl
         have hcz21_5 : wc.cell? ⟨gb971, 5, none⟩ = some (.int .i64 t960) := (blk_cell BK971.out 5).trans rfl
         have hcz21_6 : wc.cell? ⟨gb971, 6, none⟩ = some (.int .i64 t961) := (blk_cell BK971.out 6).trans rfl
         have hcz21_7 : wc.cell? ⟨gb971, 7, none⟩ = some (.int .u32 t962) := (blk_cell BK971.out 7).trans rfl
         have hcz21_8 : wc.cell? ⟨gb971, 8, none⟩ = some (.int .u32 t963) := (blk_cell BK971.out 8).trans rfl
         have hcz21_9 : wc.cell? ⟨gb971, 9, none⟩ = some (.slice Ao11 t964.length co11) := (blk_cell BK971.out 9).trans rfl
         have hcz21_10 : wc.cell? ⟨gb971, 10, none⟩ = some (.slice Ao12 t967.length co12) := (blk_cell BK971.out 10).trans rfl
         have hfz21_0 := blk_frozen BK971.out 0
         have hfz21_1 := blk_frozen BK971.out 1
         have hfz21_2 := blk_frozen BK971.out 2
         have hfz21_3 := blk_frozen BK971.out 3
         have hfz21_4 := blk_frozen BK971.out 4
         have hfz21_5 := blk_frozen BK971.out 5
         have hfz21_6 := blk_frozen BK971.out 6
         have hfz21_7 := blk_frozen BK971.out 7
         have hfz21_8 := blk_frozen BK971.out 8
         have hfz21_9 := blk_frozen BK971.out 9
         have hfz21_10 := blk_frozen BK971.out 10
         go_wp2
         go_meet
         case rel => exact ⟨_, (true), (by first | rfl | (simp; done) | (simp [*]; done)), H', ⟨by have := HJ6.out; first | omega | exact Nat.le_refl _⟩, ⟨by (with_reducible repeat (first | apply Kd.R_alloc | apply Kd.R_drewN | apply Kd.R_drew)); exact HO_972009.out⟩, ⟨by (with_reducible repeat (first | apply Kd.R_alloc | apply Kd.R_drewN | apply Kd.R_drew)); exact HO_972010.out⟩, ⟨by (with_reducible repeat (first | refine blk_drewN ?_ _ | refine blk_drew ?_ | refine blk_alloc ?_ _)); exact BK971.out⟩, ⟨by repeat (first | (with_reducible first | exact HB.out | apply below_alloc | apply pw_below_drewN | apply below_drew1 | refine below_set ?_ GE971.out) | exact HB.out)⟩⟩
        ·rw [if_neg c20] at H
         have c20b0 : ((t967.length : Int) == 0) = false := beq_eq_false_iff_ne.mpr c20
         have c20b1 : ((t967.length : Int) != 0) = true := bne_iff_ne.mpr c20
         have c20b2 : ¬ (t967 = []) := fun h_ => c20 (by rw [h_]; rfl)
         by_cases c22 : 0 < (t967.length : Int)
         ·rw [if_pos c22] at H
          have c22b0 : decide (0 < (t967.length : Int)) = true := decide_eq_true c22
          have c22b1 : decide (0 < t967.length) = true := decide_eq_true (by omega)
          clear c22
          by_cases c23 : (rd t967 0) = 8
          ·rw [if_pos c23] at H
           have c23b0 : ((rd t967 0) == 8) = true := beq_iff_eq.mpr c23
           have c23b1 : ((rd t967 0) != 8) = false := bne_eq_false_iff_eq.mpr c23
           clear c23
           have H' := Aside0.mk H
           clear H
           have hcz24_0 : wc.cell? ⟨gb971, 0, none⟩ = some (.int .i64 t955) := (blk_cell BK971.out 0).trans rfl
           have hcz24_1 : wc.cell? ⟨gb971, 1, none⟩ = some (.int .i64 t956) := (blk_cell BK971.out 1).trans rfl
           have hcz24_2 : wc.cell? ⟨gb971, 2, none⟩ = some (.bool t957) := (blk_cell BK971.out 2).trans rfl
           have hcz24_3 : wc.cell? ⟨gb971, 3, none⟩ = some (.bool t958) := (blk_cell BK971.out 3).trans rfl
           have hcz24_4 : wc.cell? ⟨gb971, 4, none⟩ = some (.int .i64 t959) := (blk_cell BK971.out 4).trans rfl
           have hcz24_5 : wc.cell? ⟨gb971, 5, none⟩ = some (.int .i64 t960) := (blk_cell BK971.out 5).trans rfl
           have hcz24_6 : wc.cell? ⟨gb971, 6, none⟩ = some (.int .i64 t961) := (blk_cell BK971.out 6).trans rfl
           have hcz24_7 : wc.cell? ⟨gb971, 7, none⟩ = some (.int .u32 t962) := (blk_cell BK971.out 7).trans rfl
           have hcz24_8 : wc.cell? ⟨gb971, 8, none⟩ = some (.int .u32 t963) := (blk_cell BK971.out 8).trans rfl
           have hcz24_9 : wc.cell? ⟨gb971, 9, none⟩ = some (.slice Ao11 t964.length co11) := (blk_cell BK971.out 9).trans rfl
           have hcz24_10 : wc.cell? ⟨gb971, 10, none⟩ = some (.slice Ao12 t967.length co12) := (blk_cell BK971.out 10).trans rfl
           have hfz24_0 := blk_frozen BK971.out 0
           have hfz24_1 := blk_frozen BK971.out 1
           have hfz24_2 := blk_frozen BK971.out 2
           have hfz24_3 := blk_frozen BK971.out 3
           have hfz24_4 := blk_frozen BK971.out 4
           have hfz24_5 := blk_frozen BK971.out 5
           have hfz24_6 := blk_frozen BK971.out 6
           have hfz24_7 := blk_frozen BK971.out 7
           have hfz24_8 := blk_frozen BK971.out 8
           have hfz24_9 := blk_frozen BK971.out 9
           have hfz24_10 := blk_frozen BK971.out 10
           have p972 : 0 ≤ (0 : Int) := (by omega)
           have q972 : 0 < (t967.length : Int) := of_decide_eq_true (by first | (with_reducible assumption) | assumption)
           obtain ⟨ad972, e972, hx972_0⟩ := Kd.at_int (Kd.R_reads' HO_972010.out).2.2 0 p972 q972
           cases e972
           have qi972 : (0 < t967.length) = True := eq_true (by omega)
           (try rw [show ((0 : Int)).toNat = 0 from rfl] at hx972_0)
           (try rw [Addr.add_zero'] at hx972_0)
           replace p972 := eq_true p972
           replace q972 := eq_true q972
           go_wp2
           go_meet
           case rel => exact ⟨_, (false), (by first | rfl | (simp; done) | (simp [*]; done)), H', ⟨by have := HJ6.out; first | omega | exact Nat.le_refl _⟩, ⟨by (with_reducible repeat (first | apply Kd.R_alloc | apply Kd.R_drewN | apply Kd.R_drew)); exact HO_972009.out⟩, ⟨by (with_reducible repeat (first | apply Kd.R_alloc | apply Kd.R_drewN | apply Kd.R_drew)); exact HO_972010.out⟩, ⟨by (with_reducible repeat (first | refine blk_drewN ?_ _ | refine blk_drew ?_ | refine blk_alloc ?_ _)); exact BK971.out⟩, ⟨by repeat (first | (with_reducible first | exact HB.out | apply below_alloc | apply pw_below_drewN | apply below_drew1 | refine below_set ?_ GE971.out) | exact HB.out)⟩⟩
          ·rw [if_neg c23] at H
           have c23b0 : ((rd t967 0) == 8) = false := beq_eq_false_iff_ne.mpr c23
           have c23b1 : ((rd t967 0) != 8) = true := bne_iff_ne.mpr c23
           have H' := Aside0.mk H
           clear H
           have hcz25_0 : wc.cell? ⟨gb971, 0, none⟩ = some (.int .i64 t955) := (blk_cell BK971.out 0).trans rfl
           have hcz25_1 : wc.cell? ⟨gb971, 1, none⟩ = some (.int .i64 t956) := (blk_cell BK971.out 1).trans rfl
           have hcz25_2 : wc.cell? ⟨gb971, 2, none⟩ = some (.bool t957) := (blk_cell BK971.out 2).trans rfl
           have hcz25_3 : wc.cell? ⟨gb971, 3, none⟩ = some (.bool t958) := (blk_cell BK971.out 3).trans rfl
           have hcz25_4 : wc.cell? ⟨gb971, 4, none⟩ = some (.int .i64 t959) := (blk_cell BK971.out 4).trans rfl
           have hcz25_5 : wc.cell? ⟨gb971, 5, none⟩ = some (.int .i64 t960) := (blk_cell BK971.out 5).trans rfl
           have hcz25_6 : wc.cell? ⟨gb971, 6, none⟩ = some (.int .i64 t961) := (blk_cell BK971.out 6).trans rfl
           have hcz25_7 : wc.cell? ⟨gb971, 7, none⟩ = some (.int .u32 t962) := (blk_cell BK971.out 7).trans rfl
           have hcz25_8 : wc.cell? ⟨gb971, 8, none⟩ = some (.int .u32 t963) := (blk_cell BK971.out 8).trans rfl
           have hcz25_9 : wc.cell? ⟨gb971, 9, none⟩ = some (.slice Ao11 t964.length co11) := (blk_cell BK971.out 9).trans rfl
           have hcz25_10 : wc.cell? ⟨gb971, 10, none⟩ = some (.slice Ao12 t967.length co12) := (blk_cell BK971.out 10).trans rfl
           have hfz25_0 := blk_frozen BK971.out 0
           have hfz25_1 := blk_frozen BK971.out 1
           have hfz25_2 := blk_frozen BK971.out 2
           have hfz25_3 := blk_frozen BK971.out 3
           have hfz25_4 := blk_frozen BK971.out 4
           have hfz25_5 := blk_frozen BK971.out 5
           have hfz25_6 := blk_frozen BK971.out 6
           have hfz25_7 := blk_frozen BK971.out 7
           have hfz25_8 := blk_frozen BK971.out 8
           have hfz25_9 := blk_frozen BK971.out 9
           have hfz25_10 := blk_frozen BK971.out 10
           have p972 : 0 ≤ (0 : Int) := (by omega)
           have q972 : 0 < (t967.length : Int) := of_decide_eq_true (by first | (with_reducible assumption) | assumption)
           obtain ⟨ad972, e972, hx972_0⟩ := Kd.at_int (Kd.R_reads' HO_972010.out).2.2 0 p972 q972
           cases e972
           have qi972 : (0 < t967.length) = True := eq_true (by omega)
           (try rw [show ((0 : Int)).toNat = 0 from rfl] at hx972_0)
           (try rw [Addr.add_zero'] at hx972_0)
           replace p972 := eq_true p972
           replace q972 := eq_true q972
           have p973 : 0 ≤ (0 : Int) := (by omega)
           have q973 : 0 < (t967.length : Int) := of_decide_eq_true (by first | (with_reducible assumption) | assumption)
           obtain ⟨ad973, e973, hx973_0⟩ := Kd.at_int (Kd.R_reads' HO_972010.out).2.2 0 p973 q973
           obtain rfl : ad972 = ad973 := (by injection e973)
           have qi973 : (0 < t967.length) = True := eq_true (by omega)
           (try rw [show ((0 : Int)).toNat = 0 from rfl] at hx973_0)
           (try rw [Addr.add_zero'] at hx973_0)
           replace p973 := eq_true p973
           replace q973 := eq_true q973
           go_wp2
           go_meet
           case rel => exact ⟨_, (((rd t967 0) != 0)), (by first | rfl | (simp; done) | (simp [*]; done)), H', ⟨by have := HJ6.out; first | omega | exact Nat.le_refl _⟩, ⟨by (with_reducible repeat (first | apply Kd.R_alloc | apply Kd.R_drewN | apply Kd.R_drew)); exact HO_972009.out⟩, ⟨by (with_reducible repeat (first | apply Kd.R_alloc | apply Kd.R_drewN | apply Kd.R_drew)); exact HO_972010.out⟩, ⟨by (with_reducible repeat (first | refine blk_drewN ?_ _ | refine blk_drew ?_ | refine blk_alloc ?_ _)); exact BK971.out⟩, ⟨by repeat (first | (with_reducible first | exact HB.out | apply below_alloc | apply pw_below_drewN | apply below_drew1 | refine below_set ?_ GE971.out) | exact HB.out)⟩⟩
         ·rw [if_neg c22] at H
          exact absurd H (by simp)
       ·rw [if_neg c19] at H
        have c19b0 : (t961 == 1) = false := beq_eq_false_iff_ne.mpr c19
        have c19b1 : (t961 != 1) = true := bne_iff_ne.mpr c19
        have H' := Aside0.mk H
        clear H
        have hcz26_0 : wc.cell? ⟨gb971, 0, none⟩ = some (.int .i64 t955) := (blk_cell BK971.out 0).trans rfl
        have hcz26_1 : wc.cell? ⟨gb971, 1, none⟩ = some (.int .i64 t956) := (blk_cell BK971.out 1).trans rfl
        have hcz26_2 : wc.cell? ⟨gb971, 2, none⟩ = some (.bool t957) := (blk_cell BK971.out 2).trans rfl
        have hcz26_3 : wc.cell? ⟨gb971, 3, none⟩ = some (.bool t958) := (blk_cell BK971.out 3).trans rfl
        have hcz26_4 : wc.cell? ⟨gb971, 4, none⟩ = some (.int .i64 t959) := (blk_cell BK971.out 4).trans rfl
        have hcz26_5 : wc.cell? ⟨gb971, 5, none⟩ = some (.int .i64 t960) := (blk_cell BK971.out 5).trans rfl
        have hcz26_6 : wc.cell? ⟨gb971, 6, none⟩ = some (.int .i64 t961) := (blk_cell BK971.out 6).trans rfl
        have hcz26_7 : wc.cell? ⟨gb971, 7, none⟩ = some (.int .u32 t962) := (blk_cell BK971.out 7).trans rfl
        have hcz26_8 : wc.cell? ⟨gb971, 8, none⟩ = some (.int .u32 t963) := (blk_cell BK971.out 8).trans rfl
        have hcz26_9 : wc.cell? ⟨gb971, 9, none⟩ = some (.slice Ao11 t964.length co11) := (blk_cell BK971.out 9).trans rfl
        have hcz26_10 : wc.cell? ⟨gb971, 10, none⟩ = some (.slice Ao12 t967.length co12) := (blk_cell BK971.out 10).trans rfl
        have hfz26_0 := blk_frozen BK971.out 0
        have hfz26_1 := blk_frozen BK971.out 1
        have hfz26_2 := blk_frozen BK971.out 2
        have hfz26_3 := blk_frozen BK971.out 3
        have hfz26_4 := blk_frozen BK971.out 4
        have hfz26_5 := blk_frozen BK971.out 5
        have hfz26_6 := blk_frozen BK971.out 6
        have hfz26_7 := blk_frozen BK971.out 7
        have hfz26_8 := blk_frozen BK971.out 8
        have hfz26_9 := blk_frozen BK971.out 9
        have hfz26_10 := blk_frozen BK971.out 10
        go_wp2
        go_meet
        case rel => exact ⟨_, (false), (by first | rfl | (simp; done) | (simp [*]; done)), H', ⟨by have := HJ6.out; first | omega | exact Nat.le_refl _⟩, ⟨by (with_reducible repeat (first | apply Kd.R_alloc | apply Kd.R_drewN | apply Kd.R_drew)); exact HO_972009.out⟩, ⟨by (with_reducible repeat (first | apply Kd.R_alloc | apply Kd.R_drewN | apply Kd.R_drew)); exact HO_972010.out⟩, ⟨by (with_reducible repeat (first | refine blk_drewN ?_ _ | refine blk_drew ?_ | refine blk_alloc ?_ _)); exact BK971.out⟩, ⟨by repeat (first | (with_reducible first | exact HB.out | apply below_alloc | apply pw_below_drewN | apply below_drew1 | refine below_set ?_ GE971.out) | exact HB.out)⟩⟩
      ·rw [if_neg c18] at H
       have c18b0 : (t959 == 0) = false := beq_eq_false_iff_ne.mpr c18
       have c18b1 : (t959 != 0) = true := bne_iff_ne.mpr c18
       (first | rw [c18b0] | (simp only [i64_w, i32_w]; rw [c18b0]) | skip)
       have H' := Aside0.mk H
       clear H
       have hcz27_0 : wc.cell? ⟨gb971, 0, none⟩ = some (.int .i64 t955) := (blk_cell BK971.out 0).trans rfl
       have hcz27_1 : wc.cell? ⟨gb971, 1, none⟩ = some (.int .i64 t956) := (blk_cell BK971.out 1).trans rfl
       have hcz27_2 : wc.cell? ⟨gb971, 2, none⟩ = some (.bool t957) := (blk_cell BK971.out 2).trans rfl
       have hcz27_3 : wc.cell? ⟨gb971, 3, none⟩ = some (.bool t958) := (blk_cell BK971.out 3).trans rfl
       have hcz27_4 : wc.cell? ⟨gb971, 4, none⟩ = some (.int .i64 t959) := (blk_cell BK971.out 4).trans rfl
       have hcz27_5 : wc.cell? ⟨gb971, 5, none⟩ = some (.int .i64 t960) := (blk_cell BK971.out 5).trans rfl
       have hcz27_6 : wc.cell? ⟨gb971, 6, none⟩ = some (.int .i64 t961) := (blk_cell BK971.out 6).trans rfl
       have hcz27_7 : wc.cell? ⟨gb971, 7, none⟩ = some (.int .u32 t962) := (blk_cell BK971.out 7).trans rfl
       have hcz27_8 : wc.cell? ⟨gb971, 8, none⟩ = some (.int .u32 t963) := (blk_cell BK971.out 8).trans rfl
       have hcz27_9 : wc.cell? ⟨gb971, 9, none⟩ = some (.slice Ao11 t964.length co11) := (blk_cell BK971.out 9).trans rfl
       have hcz27_10 : wc.cell? ⟨gb971, 10, none⟩ = some (.slice Ao12 t967.length co12) := (blk_cell BK971.out 10).trans rfl
       have hfz27_0 := blk_frozen BK971.out 0
       have hfz27_1 := blk_frozen BK971.out 1
       have hfz27_2 := blk_frozen BK971.out 2
       have hfz27_3 := blk_frozen BK971.out 3
       have hfz27_4 := blk_frozen BK971.out 4
       have hfz27_5 := blk_frozen BK971.out 5
       have hfz27_6 := blk_frozen BK971.out 6
       have hfz27_7 := blk_frozen BK971.out 7
       have hfz27_8 := blk_frozen BK971.out 8
       have hfz27_9 := blk_frozen BK971.out 9
       have hfz27_10 := blk_frozen BK971.out 10
       go_wp2
       go_meet
       case rel => exact ⟨_, (true), (by first | rfl | (simp; done) | (simp [*]; done)), H', ⟨by have := HJ6.out; first | omega | exact Nat.le_refl _⟩, ⟨by (with_reducible repeat (first | apply Kd.R_alloc | apply Kd.R_drewN | apply Kd.R_drew)); exact HO_972009.out⟩, ⟨by (with_reducible repeat (first | apply Kd.R_alloc | apply Kd.R_drewN | apply Kd.R_drew)); exact HO_972010.out⟩, ⟨by (with_reducible repeat (first | refine blk_drewN ?_ _ | refine blk_drew ?_ | refine blk_alloc ?_ _)); exact BK971.out⟩, ⟨by repeat (first | (with_reducible first | exact HB.out | apply below_alloc | apply pw_below_drewN | apply below_drew1 | refine below_set ?_ GE971.out) | exact HB.out)⟩⟩
     case rest =>
      clear HC17
      try clear c1
      try clear c2
      try clear p2
      try clear c3
      try clear c4
      try clear c6
      try clear c6b0
      try clear c6b1
      try clear p9
      try clear q9
      try clear hx9
      try clear qi9
      try clear c13
      try clear c13b0
      try clear c14
      try clear c14b0
      try clear c15
      try clear c15b0
      try clear c16
      try clear c18
      try clear c18b0
      try clear c18b1
      try clear c19
      try clear c19b0
      try clear c19b1
      try clear c20
      try clear c20b0
      try clear c20b1
      try clear c20b2
      try clear c22
      try clear c22b0
      try clear c22b1
      try clear c23
      try clear c23b0
      try clear c23b1
      try clear hcz10_0
      try clear hcz10_1
      try clear hcz10_10
      try clear hcz10_2
      try clear hcz10_3
      try clear hcz10_4
      try clear hcz10_5
      try clear hcz10_6
      try clear hcz10_7
      try clear hcz10_8
      try clear hcz10_9
      try clear hcz21_0
      try clear hcz21_1
      try clear hcz21_10
      try clear hcz21_2
      try clear hcz21_3
      try clear hcz21_4
      try clear hcz21_5
      try clear hcz21_6
      try clear hcz21_7
      try clear hcz21_8
      try clear hcz21_9
      try clear hcz24_0
      try clear hcz24_1
      try clear hcz24_10
      try clear hcz24_2
      try clear hcz24_3
      try clear hcz24_4
      try clear hcz24_5
      try clear hcz24_6
      try clear hcz24_7
      try clear hcz24_8
      try clear hcz24_9
      try clear hcz25_0
      try clear hcz25_1
      try clear hcz25_10
      try clear hcz25_2
      try clear hcz25_3
      try clear hcz25_4
      try clear hcz25_5
      try clear hcz25_6
      try clear hcz25_7
      try clear hcz25_8
      try clear hcz25_9
      try clear hcz26_0
      try clear hcz26_1
      try clear hcz26_10
      try clear hcz26_2
      try clear hcz26_3
      try clear hcz26_4
      try clear hcz26_5
      try clear hcz26_6
      try clear hcz26_7
      try clear hcz26_8
      try clear hcz26_9
      try clear hcz27_0
      try clear hcz27_1
      try clear hcz27_10
      try clear hcz27_2
      try clear hcz27_3
      try clear hcz27_4
      try clear hcz27_5
      try clear hcz27_6
      try clear hcz27_7
      try clear hcz27_8
      try clear hcz27_9
      try clear hfz10_0
      try clear hfz10_1
      try clear hfz10_10
      try clear hfz10_2
      try clear hfz10_3
      try clear hfz10_4
      try clear hfz10_5
      try clear hfz10_6
      try clear hfz10_7
      try clear hfz10_8
      try clear hfz10_9
      try clear hfz21_0
      try clear hfz21_1
      try clear hfz21_10
      try clear hfz21_2
      try clear hfz21_3
      try clear hfz21_4
      try clear hfz21_5
      try clear hfz21_6
      try clear hfz21_7
      try clear hfz21_8
      try clear hfz21_9
      try clear hfz24_0
      try clear hfz24_1
      try clear hfz24_10
      try clear hfz24_2
      try clear hfz24_3
      try clear hfz24_4
      try clear hfz24_5
      try clear hfz24_6
      try clear hfz24_7
      try clear hfz24_8
      try clear hfz24_9
      try clear hfz25_0
      try clear hfz25_1
      try clear hfz25_10
      try clear hfz25_2
      try clear hfz25_3
      try clear hfz25_4
      try clear hfz25_5
      try clear hfz25_6
      try clear hfz25_7
      try clear hfz25_8
      try clear hfz25_9
      try clear hfz26_0
      try clear hfz26_1
      try clear hfz26_10
      try clear hfz26_2
      try clear hfz26_3
      try clear hfz26_4
      try clear hfz26_5
      try clear hfz26_6
      try clear hfz26_7
      try clear hfz26_8
      try clear hfz26_9
      try clear hfz27_0
      try clear hfz27_1
      try clear hfz27_10
      try clear hfz27_2
      try clear hfz27_3
      try clear hfz27_4
      try clear hfz27_5
      try clear hfz27_6
      try clear hfz27_7
      try clear hfz27_8
      try clear hfz27_9
      try clear hx972_0
      try clear hx973_0
      try clear p2
      try clear p972
      try clear p973
      try clear q972
      try clear q973
      obtain ⟨kq, x62_16, rfl, HA, HJ16, HO_972009, HO_972010, BK971, HB⟩ := hcut
      cases kq with
      | zero => exact absurd HA.out (by simp [bailiwickref21_Fault.j1])
      | succ kj16 =>
       have H := HA.out
       clear HA
       simp only [bailiwickref21_Fault.j1] at H
       by_cases c28 : x62_16 = true
       ·subst c28
        have H1 : (some (([] : List Int), 12)) = some (r1, r2) := by rw [if_pos rfl] at H; exact H
        clear H
        have H := H1
        clear H1
        simp only [Option.some.injEq, Prod.mk.injEq] at H
        obtain ⟨rfl, rfl⟩ := H
        go_wp2
        go_ret2
        exact ⟨_, by first | rfl | (simp [errW_none, errW_some] <;> rfl) | (simp [*, errW_none, errW_some] <;> rfl), by first | exact Kd.R_nil _ _ _ _ _ | exact Kd.N_nil _ _ _ _ _ | exact Kd.V_nil _ _ _ _ _ | exact Kd.Q_nil _ _ _ _ _ | exact Kd.S_nil _ _ _ _ _, by repeat (first | (with_reducible first | exact HB.out | apply below_alloc | apply pw_below_drewN | apply below_drew1 | refine below_set ?_ GE971.out) | exact HB.out)⟩
       ·replace c28 := Bool.eq_false_iff.mpr c28
        subst c28
        have H1 : ((bailiwickref1_Part.f kj16 l3 0 (wrap64 ((wrap64 (20 + (t964.length : Int))) + (mn 8 (t967.length : Int))))).bind fun t974 => ((bailiwickref3_BuildWord.f kj16 a0 a1 0 t974).bind fun bt977 => (if bt977.2 = 0 then ((bailiwickref2_Build.f kj16 0 0 false false 0 64 1 a2 t962 ([] : List Int) bt977.1).bind fun bt981 => (some (bt981.1, bt981.2))) else (some (([] : List Int), bt977.2))))) = some (r1, r2) := by rw [if_neg (show ¬ (false = true) by decide)] at H; exact H
        clear H
        have H := H1
        clear H1
        obtain ⟨ji29, hji29⟩ : ∃ j_ : Int, (mn 8 (t967.length : Int)) = j_ := ⟨_, rfl⟩
        replace H : ((bailiwickref1_Part.f kj16 l3 0 (wrap64 ((wrap64 (20 + (t964.length : Int))) + (ji29)))).bind fun t974 => ((bailiwickref3_BuildWord.f kj16 a0 a1 0 t974).bind fun bt977 => (if bt977.2 = 0 then ((bailiwickref2_Build.f kj16 0 0 false false 0 64 1 a2 t962 ([] : List Int) bt977.1).bind fun bt981 => (some (bt981.1, bt981.2))) else (some (([] : List Int), bt977.2))))) = some (r1, r2) := by first | (rw [hji29] at H; exact H) | (simp only [hji29] at H ⊢; exact H)
        have hji29_ : (if (t967.length : Int) < 8 then (t967.length : Int) else 8) = ji29 := hji29
        replace H := Option.bind_eq_some_iff.mp H
        obtain ⟨t974, A300, H⟩ := H
        replace H : ((bailiwickref3_BuildWord.f kj16 a0 a1 0 t974).bind fun bt977 => (if bt977.2 = 0 then ((bailiwickref2_Build.f kj16 0 0 false false 0 64 1 a2 t962 ([] : List Int) bt977.1).bind fun bt981 => (some (bt981.1, bt981.2))) else (some (([] : List Int), bt977.2)))) = some (r1, r2) := H
        have A30 := Aside0.mk A300
        clear A300
        replace H := Option.bind_eq_some_iff.mp H
        obtain ⟨⟨t977, t980⟩, A310, H⟩ := H
        replace H : (if t980 = 0 then ((bailiwickref2_Build.f kj16 0 0 false false 0 64 1 a2 t962 ([] : List Int) t977).bind fun bt981 => (some (bt981.1, bt981.2))) else (some (([] : List Int), t980))) = some (r1, r2) := H
        have A31 := Aside0.mk A310
        clear A310
        by_cases c32 : t980 = 0
        ·rw [if_pos c32] at H
         have c32b0 : (t980 == 0) = true := beq_iff_eq.mpr c32
         have c32b1 : (t980 != 0) = false := bne_eq_false_iff_eq.mpr c32
         clear c32
         replace H := Option.bind_eq_some_iff.mp H
         obtain ⟨⟨t981, t984⟩, A330, H⟩ := H
         replace H : (some (t981, t984)) = some (r1, r2) := H
         have A33 := Aside0.mk A330
         clear A330
         simp only [Option.some.injEq, Prod.mk.injEq] at H
         obtain ⟨rfl, rfl⟩ := H
         have hcz34_0 : wc.cell? ⟨gb971, 0, none⟩ = some (.int .i64 t955) := (blk_cell BK971.out 0).trans rfl
         have hcz34_1 : wc.cell? ⟨gb971, 1, none⟩ = some (.int .i64 t956) := (blk_cell BK971.out 1).trans rfl
         have hcz34_2 : wc.cell? ⟨gb971, 2, none⟩ = some (.bool t957) := (blk_cell BK971.out 2).trans rfl
         have hcz34_3 : wc.cell? ⟨gb971, 3, none⟩ = some (.bool t958) := (blk_cell BK971.out 3).trans rfl
         have hcz34_4 : wc.cell? ⟨gb971, 4, none⟩ = some (.int .i64 t959) := (blk_cell BK971.out 4).trans rfl
         have hcz34_5 : wc.cell? ⟨gb971, 5, none⟩ = some (.int .i64 t960) := (blk_cell BK971.out 5).trans rfl
         have hcz34_6 : wc.cell? ⟨gb971, 6, none⟩ = some (.int .i64 t961) := (blk_cell BK971.out 6).trans rfl
         have hcz34_7 : wc.cell? ⟨gb971, 7, none⟩ = some (.int .u32 t962) := (blk_cell BK971.out 7).trans rfl
         have hcz34_8 : wc.cell? ⟨gb971, 8, none⟩ = some (.int .u32 t963) := (blk_cell BK971.out 8).trans rfl
         have hcz34_9 : wc.cell? ⟨gb971, 9, none⟩ = some (.slice Ao11 t964.length co11) := (blk_cell BK971.out 9).trans rfl
         have hcz34_10 : wc.cell? ⟨gb971, 10, none⟩ = some (.slice Ao12 t967.length co12) := (blk_cell BK971.out 10).trans rfl
         have hfz34_0 := blk_frozen BK971.out 0
         have hfz34_1 := blk_frozen BK971.out 1
         have hfz34_2 := blk_frozen BK971.out 2
         have hfz34_3 := blk_frozen BK971.out 3
         have hfz34_4 := blk_frozen BK971.out 4
         have hfz34_5 := blk_frozen BK971.out 5
         have hfz34_6 := blk_frozen BK971.out 6
         have hfz34_7 := blk_frozen BK971.out 7
         have hfz34_8 := blk_frozen BK971.out 8
         have hfz34_9 := blk_frozen BK971.out 9
         have hfz34_10 := blk_frozen BK971.out 10
         go_wp2_with (first | ((with_reducible refine gate_callee (f := 58) rfl ?_); refine goesL_ (some 77) rfl rfl Try.func58 (by kernel_rfl) rfl #[.slice A3 l3.length c3, .int .i64 0, .int .i64 (wrap64 ((wrap64 (20 + (t964.length : Int))) + (ji29)))] rfl (by (try simp only [List.map_toArray, List.map_cons, List.map_nil]); first | done | (simp only [hji29]; rfl) | rfl | (simp only [List.length_drop, List.length_take]; rfl)) ?_; (with_reducible refine (bailiwickref1_Part.calls kj16 _ _ l3 0 (wrap64 ((wrap64 (20 + (t964.length : Int))) + (ji29))) t974 _ ?side1 ?side2 A30.out).mono ?_); (case side1 => repeat (first | exact (Kd.C_below HR3.out HB.out) | (with_reducible refine Kd.C_alloc ?_ _) | (with_reducible refine Kd.C_drewN ?_ _) | (with_reducible refine Kd.C_drew ?_))); (case side2 => exact HC3.out); rintro e w35 ⟨v975, rfl, ho0, hb⟩; refine ⟨_, rfl, ?_⟩; have n0_ := Aside0.mk (Kd.R_elder' (by (with_reducible repeat (first | apply Kd.R_alloc | apply Kd.R_drewN | apply Kd.R_drew)); exact HO_972009.out) (Kd.R_base ho0) hb); have n1_ := Aside0.mk (Kd.R_elder' (by (with_reducible repeat (first | apply Kd.R_alloc | apply Kd.R_drewN | apply Kd.R_drew)); exact HO_972010.out) (Kd.R_base ho0) hb); have n2_ := Aside0.mk (Kd.R_lower (Kd.R_new' (Kd.R_new' ho0 (Kd.R_lt (by (with_reducible repeat (first | apply Kd.R_alloc | apply Kd.R_drewN | apply Kd.R_drew)); exact HO_972009.out))) (Kd.R_lt (by (with_reducible repeat (first | apply Kd.R_alloc | apply Kd.R_drewN | apply Kd.R_drew)); exact HO_972010.out))) (below_size (by repeat (first | (with_reducible first | exact HB.out | apply below_alloc | apply pw_below_drewN | apply below_drew1 | refine below_set ?_ GE971.out) | exact HB.out)))); have n3_ := Aside0.mk (blk_below (g := gb971) (o := .cells #[.int .i64 t955, .int .i64 t956, .bool t957, .bool t958, .int .i64 t959, .int .i64 t960, .int .i64 t961, .int .u32 t962, .int .u32 t963, .slice Ao11 t964.length co11, .slice Ao12 t967.length co12] 29 (0, 0)) (by (with_reducible repeat (first | refine blk_drewN ?_ _ | refine blk_drew ?_ | refine blk_alloc ?_ _)); exact BK971.out) hb); have n4_ := Aside0.mk (below_step (by repeat (first | (with_reducible first | exact HB.out | apply below_alloc | apply pw_below_drewN | apply below_drew1 | refine below_set ?_ GE971.out) | exact HB.out)) hb); clear HO_972009; clear HO_972010; clear BK971; clear HB; have HO_972009 := n0_; have HO_972010 := n1_; have HO976 := n2_; have BK971 := n3_; have HB := n4_; clear n0_ n1_ n2_ n3_ n4_; (try clear hb); (try clear hb2); (try clear hk); (try clear hi); (try clear ho0); obtain ⟨Ao36, co36, eo36⟩ := Kd.R_slice HO976.out; subst eo36) | ((with_reducible refine gate_callee (f := 92) rfl ?_); refine goesL_ (some 79) rfl rfl Try.func92 (by kernel_rfl) rfl #[.agg #[.int .i64 a0, .int .i64 a1, .int .u32 0, .slice Ao36 t974.length co36]] rfl (by (try simp only [List.map_toArray, List.map_cons, List.map_nil]); first | done | rfl | (simp only [List.length_drop, List.length_take]; rfl)) ?_; (with_reducible refine (bailiwickref3_BuildWord.calls kj16 a0 a1 0 _ _ t974 t977 t980 _ ?side1 ?side2 A31.out).mono ?_); (case side1 => repeat (first | exact (Kd.R_reads' HO976.out).2.2 | (with_reducible refine Kd.C_alloc ?_ _) | (with_reducible refine Kd.C_drewN ?_ _) | (with_reducible refine Kd.C_drew ?_))); (case side2 => exact (Kd.R_reads' HO976.out).2.1); rintro e w37 ⟨v978, rfl, ho0, hb⟩; refine ⟨_, rfl, ?_⟩; have n0_ := Aside0.mk (Kd.R_elder' (by (with_reducible repeat (first | apply Kd.R_alloc | apply Kd.R_drewN | apply Kd.R_drew)); exact HO_972009.out) (Kd.R_base ho0) hb); have n1_ := Aside0.mk (Kd.R_elder' (by (with_reducible repeat (first | apply Kd.R_alloc | apply Kd.R_drewN | apply Kd.R_drew)); exact HO_972010.out) (Kd.R_base ho0) hb); have n2_ := Aside0.mk (Kd.R_elder' (by (with_reducible repeat (first | apply Kd.R_alloc | apply Kd.R_drewN | apply Kd.R_drew)); exact HO976.out) (Kd.R_base ho0) hb); have n3_ := Aside0.mk (Kd.R_lower (Kd.R_new' (Kd.R_new' (Kd.R_new' ho0 (Kd.R_lt (by (with_reducible repeat (first | apply Kd.R_alloc | apply Kd.R_drewN | apply Kd.R_drew)); exact HO_972009.out))) (Kd.R_lt (by (with_reducible repeat (first | apply Kd.R_alloc | apply Kd.R_drewN | apply Kd.R_drew)); exact HO_972010.out))) (Kd.R_lt (by (with_reducible repeat (first | apply Kd.R_alloc | apply Kd.R_drewN | apply Kd.R_drew)); exact HO976.out))) (below_size (by repeat (first | (with_reducible first | exact HB.out | apply below_alloc | apply pw_below_drewN | apply below_drew1 | refine below_set ?_ GE971.out) | exact HB.out)))); have n4_ := Aside0.mk (blk_below (g := gb971) (o := .cells #[.int .i64 t955, .int .i64 t956, .bool t957, .bool t958, .int .i64 t959, .int .i64 t960, .int .i64 t961, .int .u32 t962, .int .u32 t963, .slice Ao11 t964.length co11, .slice Ao12 t967.length co12] 29 (0, 0)) (by (with_reducible repeat (first | refine blk_drewN ?_ _ | refine blk_drew ?_ | refine blk_alloc ?_ _)); exact BK971.out) hb); have n5_ := Aside0.mk (below_step (by repeat (first | (with_reducible first | exact HB.out | apply below_alloc | apply pw_below_drewN | apply below_drew1 | refine below_set ?_ GE971.out) | exact HB.out)) hb); clear HO_972009; clear HO_972010; clear HO976; clear BK971; clear HB; have HO_972009 := n0_; have HO_972010 := n1_; have HO976 := n2_; have HO979 := n3_; have BK971 := n4_; have HB := n5_; clear n0_ n1_ n2_ n3_ n4_ n5_; (try clear hb); (try clear hb2); (try clear hk); (try clear hi); (try clear ho0); have hcz38_0 : w37.cell? ⟨gb971, 0, none⟩ = some (.int .i64 t955) := (blk_cell BK971.out 0).trans rfl; have hcz38_1 : w37.cell? ⟨gb971, 1, none⟩ = some (.int .i64 t956) := (blk_cell BK971.out 1).trans rfl; have hcz38_2 : w37.cell? ⟨gb971, 2, none⟩ = some (.bool t957) := (blk_cell BK971.out 2).trans rfl; have hcz38_3 : w37.cell? ⟨gb971, 3, none⟩ = some (.bool t958) := (blk_cell BK971.out 3).trans rfl; have hcz38_4 : w37.cell? ⟨gb971, 4, none⟩ = some (.int .i64 t959) := (blk_cell BK971.out 4).trans rfl; have hcz38_5 : w37.cell? ⟨gb971, 5, none⟩ = some (.int .i64 t960) := (blk_cell BK971.out 5).trans rfl; have hcz38_6 : w37.cell? ⟨gb971, 6, none⟩ = some (.int .i64 t961) := (blk_cell BK971.out 6).trans rfl; have hcz38_7 : w37.cell? ⟨gb971, 7, none⟩ = some (.int .u32 t962) := (blk_cell BK971.out 7).trans rfl; have hcz38_8 : w37.cell? ⟨gb971, 8, none⟩ = some (.int .u32 t963) := (blk_cell BK971.out 8).trans rfl; have hcz38_9 : w37.cell? ⟨gb971, 9, none⟩ = some (.slice Ao11 t964.length co11) := (blk_cell BK971.out 9).trans rfl; have hcz38_10 : w37.cell? ⟨gb971, 10, none⟩ = some (.slice Ao12 t967.length co12) := (blk_cell BK971.out 10).trans rfl; have hfz38_0 := blk_frozen BK971.out 0; have hfz38_1 := blk_frozen BK971.out 1; have hfz38_2 := blk_frozen BK971.out 2; have hfz38_3 := blk_frozen BK971.out 3; have hfz38_4 := blk_frozen BK971.out 4; have hfz38_5 := blk_frozen BK971.out 5; have hfz38_6 := blk_frozen BK971.out 6; have hfz38_7 := blk_frozen BK971.out 7; have hfz38_8 := blk_frozen BK971.out 8; have hfz38_9 := blk_frozen BK971.out 9; have hfz38_10 := blk_frozen BK971.out 10; obtain ⟨Ao39, co39, eo39⟩ := Kd.R_slice HO979.out; subst eo39) | ((with_reducible refine gate_callee (f := 24) rfl ?_); refine goesL_ (some 90) rfl rfl Try.func24 (by kernel_rfl) rfl #[.agg #[.int .i64 0, .int .i64 0, .bool false, .bool false, .int .i64 0, .int .i64 64, .int .i64 1, .int .u32 a2, .int .u32 t962, .slice none 0 0, .slice Ao39 t977.length co39]] rfl (by (try simp only [List.map_toArray, List.map_cons, List.map_nil]); first | done | rfl | (simp only [List.length_drop, List.length_take]; rfl)) ?_; (refine (bailiwickref2_Build.calls kj16 0 0 false false 0 64 1 a2 t962 _ _ ([] : List Int) _ _ t977 t981 t984 _ ?side1 ?side2 ?side3 ?side4 A33.out).mono ?_); (case side1 => exact Kd.C_nil _ _); (case side2 => exact Nat.le_refl _); (case side3 => repeat (first | exact (Kd.R_reads' HO979.out).2.2 | (with_reducible refine Kd.C_alloc ?_ _) | (with_reducible refine Kd.C_drewN ?_ _) | (with_reducible refine Kd.C_drew ?_))); (case side4 => exact (Kd.R_reads' HO979.out).2.1); rintro e w40 ⟨v982, rfl, ho0, hb⟩; refine ⟨_, rfl, ?_⟩; have n0_ := Aside0.mk (Kd.R_elder' (by (with_reducible repeat (first | apply Kd.R_alloc | apply Kd.R_drewN | apply Kd.R_drew)); exact HO_972009.out) (Kd.R_base ho0) hb); have n1_ := Aside0.mk (Kd.R_elder' (by (with_reducible repeat (first | apply Kd.R_alloc | apply Kd.R_drewN | apply Kd.R_drew)); exact HO_972010.out) (Kd.R_base ho0) hb); have n2_ := Aside0.mk (Kd.R_elder' (by (with_reducible repeat (first | apply Kd.R_alloc | apply Kd.R_drewN | apply Kd.R_drew)); exact HO976.out) (Kd.R_base ho0) hb); have n3_ := Aside0.mk (Kd.R_elder' (by (with_reducible repeat (first | apply Kd.R_alloc | apply Kd.R_drewN | apply Kd.R_drew)); exact HO979.out) (Kd.R_base ho0) hb); have n4_ := Aside0.mk (Kd.R_lower (Kd.R_new' (Kd.R_new' (Kd.R_new' (Kd.R_new' ho0 (Kd.R_lt (by (with_reducible repeat (first | apply Kd.R_alloc | apply Kd.R_drewN | apply Kd.R_drew)); exact HO_972009.out))) (Kd.R_lt (by (with_reducible repeat (first | apply Kd.R_alloc | apply Kd.R_drewN | apply Kd.R_drew)); exact HO_972010.out))) (Kd.R_lt (by (with_reducible repeat (first | apply Kd.R_alloc | apply Kd.R_drewN | apply Kd.R_drew)); exact HO976.out))) (Kd.R_lt (by (with_reducible repeat (first | apply Kd.R_alloc | apply Kd.R_drewN | apply Kd.R_drew)); exact HO979.out))) (below_size (by repeat (first | (with_reducible first | exact HB.out | apply below_alloc | apply pw_below_drewN | apply below_drew1 | refine below_set ?_ GE971.out) | exact HB.out)))); have n5_ := Aside0.mk (blk_below (g := gb971) (o := .cells #[.int .i64 t955, .int .i64 t956, .bool t957, .bool t958, .int .i64 t959, .int .i64 t960, .int .i64 t961, .int .u32 t962, .int .u32 t963, .slice Ao11 t964.length co11, .slice Ao12 t967.length co12] 29 (0, 0)) (by (with_reducible repeat (first | refine blk_drewN ?_ _ | refine blk_drew ?_ | refine blk_alloc ?_ _)); exact BK971.out) hb); have n6_ := Aside0.mk (below_step (by repeat (first | (with_reducible first | exact HB.out | apply below_alloc | apply pw_below_drewN | apply below_drew1 | refine below_set ?_ GE971.out) | exact HB.out)) hb); clear HO_972009; clear HO_972010; clear HO976; clear HO979; clear BK971; clear HB; have HO_972009 := n0_; have HO_972010 := n1_; have HO976 := n2_; have HO979 := n3_; have HO983 := n4_; have BK971 := n5_; have HB := n6_; clear n0_ n1_ n2_ n3_ n4_ n5_ n6_; (try clear hb); (try clear hb2); (try clear hk); (try clear hi); (try clear ho0)))
         go_ret2
         exact ⟨_, by first | rfl | (simp [errW_none, errW_some] <;> rfl) | (simp only [← hji29]; first | rfl | (simp [errW_none, errW_some] <;> rfl)) | (simp [*, errW_none, errW_some] <;> rfl), by (with_reducible repeat (first | apply Kd.R_alloc | apply Kd.R_drewN | apply Kd.R_drew)); exact Kd.R_mono HO983.out (fun _ hk => trivial), by repeat (first | (with_reducible first | exact HB.out | apply below_alloc | apply pw_below_drewN | apply below_drew1 | refine below_set ?_ GE971.out) | exact HB.out)⟩
        ·rw [if_neg c32] at H
         have c32b0 : (t980 == 0) = false := beq_eq_false_iff_ne.mpr c32
         have c32b1 : (t980 != 0) = true := bne_iff_ne.mpr c32
         simp only [Option.some.injEq, Prod.mk.injEq] at H
         obtain ⟨rfl, rfl⟩ := H
         have hcz41_0 : wc.cell? ⟨gb971, 0, none⟩ = some (.int .i64 t955) := (blk_cell BK971.out 0).trans rfl
         have hcz41_1 : wc.cell? ⟨gb971, 1, none⟩ = some (.int .i64 t956) := (blk_cell BK971.out 1).trans rfl
         have hcz41_2 : wc.cell? ⟨gb971, 2, none⟩ = some (.bool t957) := (blk_cell BK971.out 2).trans rfl
         have hcz41_3 : wc.cell? ⟨gb971, 3, none⟩ = some (.bool t958) := (blk_cell BK971.out 3).trans rfl
         have hcz41_4 : wc.cell? ⟨gb971, 4, none⟩ = some (.int .i64 t959) := (blk_cell BK971.out 4).trans rfl
         have hcz41_5 : wc.cell? ⟨gb971, 5, none⟩ = some (.int .i64 t960) := (blk_cell BK971.out 5).trans rfl
         have hcz41_6 : wc.cell? ⟨gb971, 6, none⟩ = some (.int .i64 t961) := (blk_cell BK971.out 6).trans rfl
         have hcz41_7 : wc.cell? ⟨gb971, 7, none⟩ = some (.int .u32 t962) := (blk_cell BK971.out 7).trans rfl
         have hcz41_8 : wc.cell? ⟨gb971, 8, none⟩ = some (.int .u32 t963) := (blk_cell BK971.out 8).trans rfl
         have hcz41_9 : wc.cell? ⟨gb971, 9, none⟩ = some (.slice Ao11 t964.length co11) := (blk_cell BK971.out 9).trans rfl
         have hcz41_10 : wc.cell? ⟨gb971, 10, none⟩ = some (.slice Ao12 t967.length co12) := (blk_cell BK971.out 10).trans rfl
         have hfz41_0 := blk_frozen BK971.out 0
         have hfz41_1 := blk_frozen BK971.out 1
         have hfz41_2 := blk_frozen BK971.out 2
         have hfz41_3 := blk_frozen BK971.out 3
         have hfz41_4 := blk_frozen BK971.out 4
         have hfz41_5 := blk_frozen BK971.out 5
         have hfz41_6 := blk_frozen BK971.out 6
         have hfz41_7 := blk_frozen BK971.out 7
         have hfz41_8 := blk_frozen BK971.out 8
         have hfz41_9 := blk_frozen BK971.out 9
         have hfz41_10 := blk_frozen BK971.out 10
         go_wp2_with (first | ((with_reducible refine gate_callee (f := 58) rfl ?_); refine goesL_ (some 77) rfl rfl Try.func58 (by kernel_rfl) rfl #[.slice A3 l3.length c3, .int .i64 0, .int .i64 (wrap64 ((wrap64 (20 + (t964.length : Int))) + (ji29)))] rfl (by (try simp only [List.map_toArray, List.map_cons, List.map_nil]); first | done | (simp only [hji29]; rfl) | rfl | (simp only [List.length_drop, List.length_take]; rfl)) ?_; (with_reducible refine (bailiwickref1_Part.calls kj16 _ _ l3 0 (wrap64 ((wrap64 (20 + (t964.length : Int))) + (ji29))) t974 _ ?side1 ?side2 A30.out).mono ?_); (case side1 => repeat (first | exact (Kd.C_below HR3.out HB.out) | (with_reducible refine Kd.C_alloc ?_ _) | (with_reducible refine Kd.C_drewN ?_ _) | (with_reducible refine Kd.C_drew ?_))); (case side2 => exact HC3.out); rintro e w42 ⟨v975, rfl, ho0, hb⟩; refine ⟨_, rfl, ?_⟩; have n0_ := Aside0.mk (Kd.R_elder' (by (with_reducible repeat (first | apply Kd.R_alloc | apply Kd.R_drewN | apply Kd.R_drew)); exact HO_972009.out) (Kd.R_base ho0) hb); have n1_ := Aside0.mk (Kd.R_elder' (by (with_reducible repeat (first | apply Kd.R_alloc | apply Kd.R_drewN | apply Kd.R_drew)); exact HO_972010.out) (Kd.R_base ho0) hb); have n2_ := Aside0.mk (Kd.R_lower (Kd.R_new' (Kd.R_new' ho0 (Kd.R_lt (by (with_reducible repeat (first | apply Kd.R_alloc | apply Kd.R_drewN | apply Kd.R_drew)); exact HO_972009.out))) (Kd.R_lt (by (with_reducible repeat (first | apply Kd.R_alloc | apply Kd.R_drewN | apply Kd.R_drew)); exact HO_972010.out))) (below_size (by repeat (first | (with_reducible first | exact HB.out | apply below_alloc | apply pw_below_drewN | apply below_drew1 | refine below_set ?_ GE971.out) | exact HB.out)))); have n3_ := Aside0.mk (blk_below (g := gb971) (o := .cells #[.int .i64 t955, .int .i64 t956, .bool t957, .bool t958, .int .i64 t959, .int .i64 t960, .int .i64 t961, .int .u32 t962, .int .u32 t963, .slice Ao11 t964.length co11, .slice Ao12 t967.length co12] 29 (0, 0)) (by (with_reducible repeat (first | refine blk_drewN ?_ _ | refine blk_drew ?_ | refine blk_alloc ?_ _)); exact BK971.out) hb); have n4_ := Aside0.mk (below_step (by repeat (first | (with_reducible first | exact HB.out | apply below_alloc | apply pw_below_drewN | apply below_drew1 | refine below_set ?_ GE971.out) | exact HB.out)) hb); clear HO_972009; clear HO_972010; clear BK971; clear HB; have HO_972009 := n0_; have HO_972010 := n1_; have HO976 := n2_; have BK971 := n3_; have HB := n4_; clear n0_ n1_ n2_ n3_ n4_; (try clear hb); (try clear hb2); (try clear hk); (try clear hi); (try clear ho0); obtain ⟨Ao43, co43, eo43⟩ := Kd.R_slice HO976.out; subst eo43) | ((with_reducible refine gate_callee (f := 92) rfl ?_); refine goesL_ (some 79) rfl rfl Try.func92 (by kernel_rfl) rfl #[.agg #[.int .i64 a0, .int .i64 a1, .int .u32 0, .slice Ao43 t974.length co43]] rfl (by (try simp only [List.map_toArray, List.map_cons, List.map_nil]); first | done | rfl | (simp only [List.length_drop, List.length_take]; rfl)) ?_; (with_reducible refine (bailiwickref3_BuildWord.calls kj16 a0 a1 0 _ _ t974 t977 t980 _ ?side1 ?side2 A31.out).mono ?_); (case side1 => repeat (first | exact (Kd.R_reads' HO976.out).2.2 | (with_reducible refine Kd.C_alloc ?_ _) | (with_reducible refine Kd.C_drewN ?_ _) | (with_reducible refine Kd.C_drew ?_))); (case side2 => exact (Kd.R_reads' HO976.out).2.1); rintro e w44 ⟨v978, rfl, ho0, hb⟩; refine ⟨_, rfl, ?_⟩; have n0_ := Aside0.mk (Kd.R_elder' (by (with_reducible repeat (first | apply Kd.R_alloc | apply Kd.R_drewN | apply Kd.R_drew)); exact HO_972009.out) (Kd.R_base ho0) hb); have n1_ := Aside0.mk (Kd.R_elder' (by (with_reducible repeat (first | apply Kd.R_alloc | apply Kd.R_drewN | apply Kd.R_drew)); exact HO_972010.out) (Kd.R_base ho0) hb); have n2_ := Aside0.mk (Kd.R_elder' (by (with_reducible repeat (first | apply Kd.R_alloc | apply Kd.R_drewN | apply Kd.R_drew)); exact HO976.out) (Kd.R_base ho0) hb); have n3_ := Aside0.mk (Kd.R_lower (Kd.R_new' (Kd.R_new' (Kd.R_new' ho0 (Kd.R_lt (by (with_reducible repeat (first | apply Kd.R_alloc | apply Kd.R_drewN | apply Kd.R_drew)); exact HO_972009.out))) (Kd.R_lt (by (with_reducible repeat (first | apply Kd.R_alloc | apply Kd.R_drewN | apply Kd.R_drew)); exact HO_972010.out))) (Kd.R_lt (by (with_reducible repeat (first | apply Kd.R_alloc | apply Kd.R_drewN | apply Kd.R_drew)); exact HO976.out))) (below_size (by repeat (first | (with_reducible first | exact HB.out | apply below_alloc | apply pw_below_drewN | apply below_drew1 | refine below_set ?_ GE971.out) | exact HB.out)))); have n4_ := Aside0.mk (blk_below (g := gb971) (o := .cells #[.int .i64 t955, .int .i64 t956, .bool t957, .bool t958, .int .i64 t959, .int .i64 t960, .int .i64 t961, .int .u32 t962, .int .u32 t963, .slice Ao11 t964.length co11, .slice Ao12 t967.length co12] 29 (0, 0)) (by (with_reducible repeat (first | refine blk_drewN ?_ _ | refine blk_drew ?_ | refine blk_alloc ?_ _)); exact BK971.out) hb); have n5_ := Aside0.mk (below_step (by repeat (first | (with_reducible first | exact HB.out | apply below_alloc | apply pw_below_drewN | apply below_drew1 | refine below_set ?_ GE971.out) | exact HB.out)) hb); clear HO_972009; clear HO_972010; clear HO976; clear BK971; clear HB; have HO_972009 := n0_; have HO_972010 := n1_; have HO976 := n2_; have HO979 := n3_; have BK971 := n4_; have HB := n5_; clear n0_ n1_ n2_ n3_ n4_ n5_; (try clear hb); (try clear hb2); (try clear hk); (try clear hi); (try clear ho0)))
         go_ret2
         exact ⟨_, by first | rfl | (simp [errW_none, errW_some] <;> rfl) | (simp only [← hji29]; first | rfl | (simp [errW_none, errW_some] <;> rfl)) | (simp [*, errW_none, errW_some] <;> rfl), by first | exact Kd.R_nil _ _ _ _ _ | exact Kd.N_nil _ _ _ _ _ | exact Kd.V_nil _ _ _ _ _ | exact Kd.Q_nil _ _ _ _ _ | exact Kd.S_nil _ _ _ _ _, by repeat (first | (with_reducible first | exact HB.out | apply below_alloc | apply pw_below_drewN | apply below_drew1 | refine below_set ?_ GE971.out) | exact HB.out)⟩
 ·rw [if_neg c6] at H
  have c6b0 : (t970 == 0) = false := beq_eq_false_iff_ne.mpr c6
  have c6b1 : (t970 != 0) = true := bne_iff_ne.mpr c6
  simp only [Option.some.injEq, Prod.mk.injEq] at H
  obtain ⟨rfl, rfl⟩ := H
  go_enter Try.func48, Try.ntmps48
  go_wp2_with (first | ((with_reducible refine gate_callee (f := 23) rfl ?_); refine goesL_ (some 16) rfl rfl Try.func23 (by kernel_rfl) rfl #[.slice A3 l3.length c3] rfl (by (try simp only [List.map_toArray, List.map_cons, List.map_nil]); first | done | rfl | (simp only [List.length_drop, List.length_take]; rfl)) ?_; (with_reducible refine (bailiwickref2_Parse.calls k _ _ l3 t955 t956 t957 t958 t959 t960 t961 t962 t963 t964 t967 t970 _ ?side1 ?side2 A5.out).mono ?_); (case side1 => repeat (first | exact HR3.out | (with_reducible refine Kd.C_alloc ?_ _) | (with_reducible refine Kd.C_drewN ?_ _) | (with_reducible refine Kd.C_drew ?_))); (case side2 => exact HC3.out); rintro e w45 ⟨v965, v968, rfl, ho0, ho1, hb⟩; refine ⟨_, rfl, ?_⟩; have n0_ := Aside0.mk (Kd.R_lower ho0 (below_size (by repeat (first | (with_reducible first | exact HB.out | apply below_alloc | apply pw_below_drewN | apply below_drew1) | exact HB.out)))); have n1_ := Aside0.mk (Kd.R_lower ho1 (below_size (by repeat (first | (with_reducible first | exact HB.out | apply below_alloc | apply pw_below_drewN | apply below_drew1) | exact HB.out)))); have n2_ := Aside0.mk (below_step (by repeat (first | (with_reducible first | exact HB.out | apply below_alloc | apply pw_below_drewN | apply below_drew1) | exact HB.out)) hb); clear HB; have HO966 := n0_; have HO969 := n1_; have HB := n2_; clear n0_ n1_ n2_; (try clear hb); (try clear hb2); (try clear hk); (try clear hi); (try clear ho0); (try clear ho1)) | ((with_reducible refine gate_dst (N := 10) rfl ?_); refine box_event ?hg (N := 10) ?hd (cs := #[.int .i64 0, .int .i64 0, .bool false, .bool false, .int .i64 0, .int .i64 0, .int .i64 0, .int .u32 0, .int .u32 0, .slice none 0 0, .slice none 0 0]) (t := 29) ?hr ?_; (case hd => rfl); (case hg => rfl); (case hr => first | (go_simp; done) | (go_simp; rfl)); intro gb971 hg w46 hbox hb; have n0_ := Aside0.mk (Kd.R_below (by (with_reducible repeat (first | apply Kd.R_alloc | apply Kd.R_drewN | apply Kd.R_drew)); exact HO966.out) hb); have n1_ := Aside0.mk (Kd.R_below (by (with_reducible repeat (first | apply Kd.R_alloc | apply Kd.R_drewN | apply Kd.R_drew)); exact HO969.out) hb); have n2_ := Aside0.mk (below_step (by repeat (first | (with_reducible first | exact HB.out | apply below_alloc | apply pw_below_drewN | apply below_drew1) | exact HB.out)) hb); have n3_ := Aside0.mk (hbox); have n4_ := Aside0.mk ((by rw [hg]; exact (below_size (by repeat (first | (with_reducible first | exact HB.out | apply below_alloc | apply pw_below_drewN | apply below_drew1) | exact HB.out))) : w.heap.size ≤ gb971)); have n5_ := Aside0.mk ((by rw [hg]; exact (below_size (by repeat (first | (with_reducible first | exact HB.out | apply below_alloc | apply pw_below_drewN | apply below_drew1) | exact HB.out))) : w.heap.size ≤ gb971)); clear HO966; clear HO969; clear HB; have HO966 := n0_; have HO969 := n1_; have HB := n2_; have BK971 := n3_; have GW971 := n4_; have GE971 := n5_; clear n0_ n1_ n2_ n3_ n4_ n5_; clear hb hbox hg; have hcz47_0 : w46.cell? ⟨gb971, 0, none⟩ = some (.int .i64 0) := (blk_cell BK971.out 0).trans rfl; have hcz47_1 : w46.cell? ⟨gb971, 1, none⟩ = some (.int .i64 0) := (blk_cell BK971.out 1).trans rfl; have hcz47_2 : w46.cell? ⟨gb971, 2, none⟩ = some (.bool false) := (blk_cell BK971.out 2).trans rfl; have hcz47_3 : w46.cell? ⟨gb971, 3, none⟩ = some (.bool false) := (blk_cell BK971.out 3).trans rfl; have hcz47_4 : w46.cell? ⟨gb971, 4, none⟩ = some (.int .i64 0) := (blk_cell BK971.out 4).trans rfl; have hcz47_5 : w46.cell? ⟨gb971, 5, none⟩ = some (.int .i64 0) := (blk_cell BK971.out 5).trans rfl; have hcz47_6 : w46.cell? ⟨gb971, 6, none⟩ = some (.int .i64 0) := (blk_cell BK971.out 6).trans rfl; have hcz47_7 : w46.cell? ⟨gb971, 7, none⟩ = some (.int .u32 0) := (blk_cell BK971.out 7).trans rfl; have hcz47_8 : w46.cell? ⟨gb971, 8, none⟩ = some (.int .u32 0) := (blk_cell BK971.out 8).trans rfl; have hcz47_9 : w46.cell? ⟨gb971, 9, none⟩ = some (.slice none 0 0) := (blk_cell BK971.out 9).trans rfl; have hcz47_10 : w46.cell? ⟨gb971, 10, none⟩ = some (.slice none 0 0) := (blk_cell BK971.out 10).trans rfl; have hfz47_0 := blk_frozen BK971.out 0; have hfz47_1 := blk_frozen BK971.out 1; have hfz47_2 := blk_frozen BK971.out 2; have hfz47_3 := blk_frozen BK971.out 3; have hfz47_4 := blk_frozen BK971.out 4; have hfz47_5 := blk_frozen BK971.out 5; have hfz47_6 := blk_frozen BK971.out 6; have hfz47_7 := blk_frozen BK971.out 7; have hfz47_8 := blk_frozen BK971.out 8; have hfz47_9 := blk_frozen BK971.out 9; have hfz47_10 := blk_frozen BK971.out 10; obtain ⟨Ao48, co48, eo48⟩ := Kd.R_slice HO966.out; subst eo48; obtain ⟨Ao49, co49, eo49⟩ := Kd.R_slice HO969.out; subst eo49))
  go_ret2
  exact ⟨_, by first | rfl | (simp [errW_none, errW_some] <;> rfl) | (simp [*, errW_none, errW_some] <;> rfl), by first | exact Kd.R_nil _ _ _ _ _ | exact Kd.N_nil _ _ _ _ _ | exact Kd.V_nil _ _ _ _ _ | exact Kd.Q_nil _ _ _ _ _ | exact Kd.S_nil _ _ _ _ _, by repeat (first | (with_reducible first | exact HB.out | apply below_alloc | apply pw_below_drewN | apply below_drew1 | refine below_set ?_ GE971.out) | exact HB.out)⟩

end Go.Proofs.Ytljnnhloinbjhaa.P
