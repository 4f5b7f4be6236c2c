-- Laid by a program (wip/tools/myprint.py) out of the translation. Not trusted: Lean checks it.
import Derived.Test.YtljnnhloinbjhaaP0
import Derived.Test.YtljnnhloinbjhaaPoctet
namespace Go.Proofs.Ytljnnhloinbjhaa.P
open Go.RowKit Go.Proofs.YtljnnhloinbjhaaW.PrintWords Go.Proofs.YtljnnhloinbjhaaW.PrintLast
set_option linter.unusedVariables false
set_option linter.unusedSimpArgs false

/-! ### icmp_Parse: function 93 -/
def icmp_Parse.f (l0 : List Int) : Option (Int × Int × Int × List Int × Int) := if (l0.length : Int) < 8 then (some (0, 0, 0, ([] : List Int), 2)) else ((octet_Sum.f (([l0] : List (List Int)))).bind fun t143 => (if t143 = 65535 then ((octet_Get.f l0 4 4).bind fun bt144 => (if 0 < (l0.length : Int) then (if 1 < (l0.length : Int) then (if 8 ≤ (l0.length : Int) then (if ([] : List Int).length + (l0.drop 8).length < 140737488355328 then (some (wrap64 (rd l0 0), wrap64 (rd l0 1), (bt144.1) % 4294967296, (([] : List Int) ++ (l0.drop 8)), 0)) else (none)) else (none)) else (none)) else (none))) else (some (0, 0, 0, ([] : List Int), 5))))
def icmp_Parse.T6 : Bool × List (List Nat × List Nat) := (true, [([], []), ([0], [0]), ([1], [1]), ([2], [2]), ([], []), ([4], [4]), ([5], [5]), ([6], [6]), ([], []), ([8], [8]), ([], []), ([10], [10]), ([11], [11]), ([3, 7, 9, 12], [3, 7, 9, 12]), ([13, 12, 0, 1, 2, 3, 4, 5, 6, 7, 8, 9, 10, 11, 12, 13], [13]), ([14, 0, 1, 2, 3, 4, 5, 6, 7, 8, 9, 10, 11, 12, 13, 14], [])])
def icmp_Parse.B6 : List Nat := [0, 1, 3, 7, 0, 16, 48, 112, 0, 256, 0, 1024, 3072, 8191, 16383, 32767]
theorem icmp_Parse.tab6 : rtab .any (opsOf Try.f93 6) = icmp_Parse.T6 := by kernel_rfl
theorem icmp_Parse.bits6 : waitsOk icmp_Parse.T6.2 icmp_Parse.B6 = true := by kernel_rfl
set_option maxHeartbeats 8000000 in
set_option maxRecDepth 100000 in
theorem icmp_Parse.calls (A0 : Option Addr) (c0 : Nat) (l0 : List Int) (r1 : Int) (r2 : Int) (r3 : Int) (r4 : List Int) (r5 : Int) (w : World) (hr0 : Kd.C (Kd.int .u8) w A0 l0.length l0) (hc0 : l0.length ≤ c0) (h : icmp_Parse.f l0 = some (r1, r2, r3, r4, r5)) :
  Calls Try.prog 93 #[.slice A0 l0.length c0] w fun e w' => ∃ v3_ : Value, e = .returned (.tuple #[.agg #[.int .i64 r1, .int .i64 r2, .int .u32 r3, v3_], .int .i64 r5]) ∧ Kd.R (Kd.int .u8) 5 w' w.heap.size (fun _ => True) v3_ r4 ∧ Below w.heap.size w w' := by
 have hu118 := Try.underlying118
 have HR0 := Aside0.mk hr0
 have HC0 := Aside0.mk hc0
 clear hr0 hc0
 have HB := Aside0.mk (Below.refl w.heap.size w)
 have H : (if (l0.length : Int) < 8 then (some (0, 0, 0, ([] : List Int), 2)) else ((octet_Sum.f (([l0] : List (List Int)))).bind fun t143 => (if t143 = 65535 then ((octet_Get.f l0 4 4).bind fun bt144 => (if 0 < (l0.length : Int) then (if 1 < (l0.length : Int) then (if 8 ≤ (l0.length : Int) then (if ([] : List Int).length + (l0.drop 8).length < 140737488355328 then (some (wrap64 (rd l0 0), wrap64 (rd l0 1), (bt144.1) % 4294967296, (([] : List Int) ++ (l0.drop 8)), 0)) else (none)) else (none)) else (none)) else (none))) else (some (0, 0, 0, ([] : List Int), 5))))) = some (r1, r2, r3, r4, r5) := h
 clear h
 by_cases c2 : (l0.length : Int) < 8
 ·rw [if_pos c2] at H
  have c2b0 : decide ((l0.length : Int) < 8) = true := decide_eq_true c2
  have c2b1 : decide (l0.length < 8) = true := decide_eq_true (by omega)
  clear c2
  simp only [Option.some.injEq, Prod.mk.injEq] at H
  obtain ⟨rfl, rfl, rfl, rfl, rfl⟩ := H
  go_enter Try.func93, Try.ntmps93
  go_wp2_with (first | ((with_reducible refine gate_dst (N := 2) rfl ?_); refine box_event ?hg (N := 2) ?hd (cs := #[.int .i64 0, .int .i64 0, .int .u32 0, .slice none 0 0]) (t := 118) ?hr ?_; (case hd => rfl); (case hg => rfl); (case hr => first | (go_simp; done) | (go_simp; rfl)); intro gb138 hg w3 hbox hb; have n0_ := Aside0.mk (below_step (by repeat (first | (with_reducible first | exact HB.out | apply below_alloc | apply pw_below_drewN | apply below_drew1) | exact HB.out)) hb); have n1_ := Aside0.mk (hbox); have n2_ := Aside0.mk ((by rw [hg]; exact (below_size (by repeat (first | (with_reducible first | exact HB.out | apply below_alloc | apply pw_below_drewN | apply below_drew1) | exact HB.out))) : w.heap.size ≤ gb138)); have n3_ := Aside0.mk ((by rw [hg]; exact (below_size (by repeat (first | (with_reducible first | exact HB.out | apply below_alloc | apply pw_below_drewN | apply below_drew1) | exact HB.out))) : w.heap.size ≤ gb138)); clear HB; have HB := n0_; have BK138 := n1_; have GW138 := n2_; have GE138 := n3_; clear n0_ n1_ n2_ n3_; clear hb hbox hg; have hcz4_0 : w3.cell? ⟨gb138, 0, none⟩ = some (.int .i64 0) := (blk_cell BK138.out 0).trans rfl; have hcz4_1 : w3.cell? ⟨gb138, 1, none⟩ = some (.int .i64 0) := (blk_cell BK138.out 1).trans rfl; have hcz4_2 : w3.cell? ⟨gb138, 2, none⟩ = some (.int .u32 0) := (blk_cell BK138.out 2).trans rfl; have hcz4_3 : w3.cell? ⟨gb138, 3, none⟩ = some (.slice none 0 0) := (blk_cell BK138.out 3).trans rfl; have hfz4_0 := blk_frozen BK138.out 0; have hfz4_1 := blk_frozen BK138.out 1; have hfz4_2 := blk_frozen BK138.out 2; have hfz4_3 := blk_frozen BK138.out 3))
  refine bodyPost_ret (results_ct rfl _ _ gb138 118 #[.int .i64 0, .int .i64 0, .int .u32 0, .slice none 0 0] (0, 0) _ rfl (by (with_reducible repeat (first | refine blk_drewN ?_ _ | refine blk_drew ?_ | refine blk_alloc ?_ _)); refine blk_put (cs := #[.int .i64 0, .int .i64 0, .int .u32 0, .slice none 0 0]) ?_ 3 _ rfl; (with_reducible repeat (first | refine blk_drewN ?_ _ | refine blk_drew ?_ | refine blk_alloc ?_ _)); refine blk_put (cs := #[.int .i64 0, .int .i64 0, .int .u32 0, .slice none 0 0]) ?_ 2 _ rfl; (with_reducible repeat (first | refine blk_drewN ?_ _ | refine blk_drew ?_ | refine blk_alloc ?_ _)); refine blk_put (cs := #[.int .i64 0, .int .i64 0, .int .u32 0, .slice none 0 0]) ?_ 1 _ rfl; (with_reducible repeat (first | refine blk_drewN ?_ _ | refine blk_drew ?_ | refine blk_alloc ?_ _)); refine blk_put (cs := #[.int .i64 0, .int .i64 0, .int .u32 0, .slice none 0 0]) ?_ 0 _ rfl; (with_reducible repeat (first | refine blk_drewN ?_ _ | refine blk_drew ?_ | refine blk_alloc ?_ _)); exact BK138.out) Try.underlying118 rfl (by kernel_rfl)) rfl ?_
  exact ⟨_, by first | rfl | (simp [errW_none, errW_some] <;> rfl) | (simp [*, errW_none, errW_some] <;> rfl), by first | exact Kd.R_nil _ _ _ _ _ | exact Kd.N_nil _ _ _ _ _ | exact Kd.V_nil _ _ _ _ _ | exact Kd.Q_nil _ _ _ _ _ | exact Kd.S_nil _ _ _ _ _, by repeat (first | (with_reducible first | exact HB.out | apply below_alloc | apply pw_below_drewN | apply below_drew1 | refine below_set ?_ GE138.out) | exact HB.out)⟩
 ·rw [if_neg c2] at H
  have c2b0 : decide ((l0.length : Int) < 8) = false := decide_eq_false c2
  have c2b1 : decide (l0.length < 8) = false := decide_eq_false (by omega)
  clear c2
  obtain ⟨y139, hy139⟩ : ∃ y_ : List (List Int), y_ = (([l0] : List (List Int))) := ⟨_, rfl⟩
  replace H : ((octet_Sum.f y139).bind fun t143 => (if t143 = 65535 then ((octet_Get.f l0 4 4).bind fun bt144 => (if 0 < (l0.length : Int) then (if 1 < (l0.length : Int) then (if 8 ≤ (l0.length : Int) then (if ([] : List Int).length + (l0.drop 8).length < 140737488355328 then (some (wrap64 (rd l0 0), wrap64 (rd l0 1), (bt144.1) % 4294967296, (([] : List Int) ++ (l0.drop 8)), 0)) else (none)) else (none)) else (none)) else (none))) else (some (0, 0, 0, ([] : List Int), 5)))) = some (r1, r2, r3, r4, r5) := by first | (rw [hy139]; with_reducible exact H) | (have H2_ := (Option.bind_some _ _).symm.trans H; rw [hy139]; with_reducible exact H2_) | (have H2_ := (Option.bind_some _ _).symm.trans H; with_reducible exact H2_) | with_reducible exact H | (rw [hy139]; exact H) | exact H
  have Ny139 := Aside0.mk hy139
  clear hy139
  replace H := Option.bind_eq_some_iff.mp H
  obtain ⟨t143, A50, H⟩ := H
  replace H : (if t143 = 65535 then ((octet_Get.f l0 4 4).bind fun bt144 => (if 0 < (l0.length : Int) then (if 1 < (l0.length : Int) then (if 8 ≤ (l0.length : Int) then (if ([] : List Int).length + (l0.drop 8).length < 140737488355328 then (some (wrap64 (rd l0 0), wrap64 (rd l0 1), (bt144.1) % 4294967296, (([] : List Int) ++ (l0.drop 8)), 0)) else (none)) else (none)) else (none)) else (none))) else (some (0, 0, 0, ([] : List Int), 5))) = some (r1, r2, r3, r4, r5) := H
  have A5 := Aside0.mk A50
  clear A50
  by_cases c6 : t143 = 65535
  ·rw [if_pos c6] at H
   have c6b0 : (t143 == 65535) = true := beq_iff_eq.mpr c6
   have c6b1 : (t143 != 65535) = false := bne_eq_false_iff_eq.mpr c6
   clear c6
   replace H := Option.bind_eq_some_iff.mp H
   obtain ⟨⟨t144, t145⟩, A70, H⟩ := H
   replace H : (if 0 < (l0.length : Int) then (if 1 < (l0.length : Int) then (if 8 ≤ (l0.length : Int) then (if ([] : List Int).length + (l0.drop 8).length < 140737488355328 then (some (wrap64 (rd l0 0), wrap64 (rd l0 1), (t144) % 4294967296, (([] : List Int) ++ (l0.drop 8)), 0)) else (none)) else (none)) else (none)) else (none)) = some (r1, r2, r3, r4, r5) := H
   have A7 := Aside0.mk A70
   clear A70
   by_cases c8 : 0 < (l0.length : Int)
   ·rw [if_pos c8] at H
    have c8b0 : decide (0 < (l0.length : Int)) = true := decide_eq_true c8
    have c8b1 : decide (0 < l0.length) = true := decide_eq_true (by omega)
    clear c8
    by_cases c9 : 1 < (l0.length : Int)
    ·rw [if_pos c9] at H
     have c9b0 : decide (1 < (l0.length : Int)) = true := decide_eq_true c9
     have c9b1 : decide (1 < l0.length) = true := decide_eq_true (by omega)
     clear c9
     by_cases c10 : 8 ≤ (l0.length : Int)
     ·rw [if_pos c10] at H
      have c10b0 := eq_true c10
      have c10b1 : decide (8 ≤ (l0.length : Int)) = true := decide_eq_true c10
      clear c10
      by_cases c11 : ([] : List Int).length + (l0.drop 8).length < 140737488355328
      ·rw [if_pos c11] at H
       have LMc11 := Aside0.mk c11
       clear c11
       obtain ⟨y149, hy149⟩ : ∃ y_ : List Int, y_ = (([] : List Int) ++ (l0.drop 8)) := ⟨_, rfl⟩
       replace H : (some (wrap64 (rd l0 0), wrap64 (rd l0 1), (t144) % 4294967296, y149, 0)) = some (r1, r2, r3, r4, r5) := by first | (rw [hy149]; with_reducible exact H) | (have H2_ := (Option.bind_some _ _).symm.trans H; rw [hy149]; with_reducible exact H2_) | (have H2_ := (Option.bind_some _ _).symm.trans H; with_reducible exact H2_) | with_reducible exact H | (rw [hy149]; exact H) | exact H
       have Ny149 := Aside0.mk hy149
       clear hy149
       simp only [Option.some.injEq, Prod.mk.injEq] at H
       obtain ⟨rfl, rfl, rfl, rfl, rfl⟩ := H
       go_enter Try.func93, Try.ntmps93
       try go_wp2_with (first | ((with_reducible refine gate_dst (N := 2) rfl ?_); refine box_event ?hg (N := 2) ?hd (cs := #[.int .i64 0, .int .i64 0, .int .u32 0, .slice none 0 0]) (t := 118) ?hr ?_; (case hd => rfl); (case hg => rfl); (case hr => first | (go_simp; done) | (go_simp; rfl)); intro gb138 hg w12 hbox hb; have n0_ := Aside0.mk (below_step (by repeat (first | (with_reducible first | exact HB.out | apply below_alloc | apply pw_below_drewN | apply below_drew1) | exact HB.out)) hb); have n1_ := Aside0.mk (hbox); have n2_ := Aside0.mk ((by rw [hg]; exact (below_size (by repeat (first | (with_reducible first | exact HB.out | apply below_alloc | apply pw_below_drewN | apply below_drew1) | exact HB.out))) : w.heap.size ≤ gb138)); have n3_ := Aside0.mk ((by rw [hg]; exact (below_size (by repeat (first | (with_reducible first | exact HB.out | apply below_alloc | apply pw_below_drewN | apply below_drew1) | exact HB.out))) : w.heap.size ≤ gb138)); clear HB; have HB := n0_; have BK138 := n1_; have GW138 := n2_; have GE138 := n3_; clear n0_ n1_ n2_ n3_; clear hb hbox hg) | ((with_reducible refine gate_dst (N := 11) rfl ?_); refine Kd.N_lit (Kd.slice 5 (Kd.int .u8)) _ 23 ?hg (N' := 11) ?hd (xs := ([l0] : List (List Int))) (inner := [.slice A0 l0.length c0]) (ok := fun _ => True) (okp := fun _ => True) ?hr ?hp (fun _ _ => trivial) trivial (Below.refl _ _) (Nat.le_refl _) (by simp) ?_; (case hd => rfl); (case hg => rfl); (case hr => first | (go_simp; done) | (go_simp; rfl)); (case hp => exact (Reps.one (show Kd.FK (Kd.slice 5 (Kd.int .u8)) _ _ l0 [.slice A0 l0.length c0] from Kd.FK_slice_mk (by exact HC0.out) (Kd.F_mono (Kd.C_F (Kd.heap_int .u8) (by repeat (first | exact (Kd.C_below HR0.out HB.out) | (with_reducible refine Kd.C_alloc ?_ _) | (with_reducible refine Kd.C_drewN ?_ _) | (with_reducible refine Kd.C_drew ?_)))) (fun _ _ => trivial))) (Reps.none _ _))); intro vl142 w13 ho hb hg_ hnew_; clear hg_ hnew_; (first | rw [← Ny139.out] at ho | (simp only [Int.reduceToNat] at ho; rw [← Ny139.out] at ho)); obtain ⟨Al142, cl142, el142⟩ := Kd.N_slice ho; subst el142; have hr := (Kd.N_reads' ho).2.2; have hl := (Kd.N_reads' ho).2.1; clear ho; have n0_ := Aside0.mk (blk_below (g := gb138) (o := .cells #[.int .i64 0, .int .i64 0, .int .u32 0, .slice none 0 0] 118 (0, 0)) (by (with_reducible repeat (first | refine blk_drewN ?_ _ | refine blk_drew ?_ | refine blk_alloc ?_ _)); exact BK138.out) hb); have n1_ := Aside0.mk (below_step (by repeat (first | (with_reducible first | exact HB.out | apply below_alloc | apply pw_below_drewN | apply below_drew1 | refine below_set ?_ GE138.out) | exact HB.out)) hb); have n2_ := Aside0.mk (hr); have n3_ := Aside0.mk (hl); clear BK138; clear HB; have BK138 := n0_; have HB := n1_; have HRl142 := n2_; have HCl142 := n3_; clear n0_ n1_ n2_ n3_; clear hb hr hl) | ((with_reducible refine gate_callee (f := 107) rfl ?_); refine goesL_ (some 12) rfl rfl Try.func107 (by kernel_rfl) rfl #[.slice Al142 y139.length cl142] rfl (by (try simp only [List.map_toArray, List.map_cons, List.map_nil]); first | done | rfl | (simp only [List.length_drop, List.length_take]; rfl)) ?_; (with_reducible refine (octet_Sum.calls _ _ y139 t143 _ ?side1 ?side2 A5.out).mono ?_); (case side1 => repeat (first | exact (by repeat (first | (with_reducible exact HRl142.out) | (with_reducible refine Kd.C_alloc ?_ _) | (with_reducible refine Kd.C_drewN ?_ _) | (with_reducible refine Kd.C_drew ?_) | exact HRl142.out)) | (with_reducible refine Kd.C_alloc ?_ _) | (with_reducible refine Kd.C_drewN ?_ _) | (with_reducible refine Kd.C_drew ?_))); (case side2 => exact HCl142.out); rintro e w14 ⟨rfl, hb⟩; refine ⟨_, rfl, ?_⟩; have n0_ := Aside0.mk (blk_below (g := gb138) (o := .cells #[.int .i64 0, .int .i64 0, .int .u32 0, .slice none 0 0] 118 (0, 0)) (by (with_reducible repeat (first | refine blk_drewN ?_ _ | refine blk_drew ?_ | refine blk_alloc ?_ _)); exact BK138.out) hb); have n1_ := Aside0.mk (Kd.C_below (by repeat (first | (with_reducible exact HRl142.out) | (with_reducible refine Kd.C_alloc ?_ _) | (with_reducible refine Kd.C_drewN ?_ _) | (with_reducible refine Kd.C_drew ?_) | exact HRl142.out)) hb); have n2_ := Aside0.mk (below_step (by repeat (first | (with_reducible first | exact HB.out | apply below_alloc | apply pw_below_drewN | apply below_drew1 | refine below_set ?_ GE138.out) | exact HB.out)) hb); clear BK138; clear HRl142; clear HB; have BK138 := n0_; have HRl142 := n1_; have HB := n2_; clear n0_ n1_ n2_; (try clear hb); (try clear hb2); (try clear hk); (try clear hi)) | ((with_reducible refine gate_callee (f := 73) rfl ?_); refine goesL_ (some 17) rfl rfl Try.func73 (by kernel_rfl) rfl #[.slice A0 l0.length c0, .int .i64 4, .int .i64 4] rfl (by (try simp only [List.map_toArray, List.map_cons, List.map_nil]); first | done | rfl | (simp only [List.length_drop, List.length_take]; rfl)) ?_; (with_reducible refine (octet_Get.calls _ _ l0 4 4 t144 t145 _ ?side1 ?side2 A7.out).mono ?_); (case side1 => repeat (first | exact (Kd.C_below HR0.out HB.out) | (with_reducible refine Kd.C_alloc ?_ _) | (with_reducible refine Kd.C_drewN ?_ _) | (with_reducible refine Kd.C_drew ?_))); (case side2 => exact HC0.out); rintro e w' ⟨rfl, ⟨nd, rfl⟩⟩; refine ⟨_, rfl, ?_⟩; (try (rw [drewN_self w14]; generalize hq_ : World.drewN w14 _ = w14; have n0_ : Aside0 (w14.heap[gb138]? = some (.cells #[.int .i64 0, .int .i64 0, .int .u32 0, .slice none 0 0] 118 (0, 0))) := ⟨by rw [← hq_]; exact (by (with_reducible repeat (first | refine blk_drewN ?_ _ | refine blk_drew ?_ | refine blk_alloc ?_ _)); exact BK138.out)⟩; have n1_ : Aside0 (Below w.heap.size w w14) := ⟨by rw [← hq_]; exact (by repeat (first | (with_reducible first | exact HB.out | apply below_alloc | apply pw_below_drewN | apply below_drew1 | refine below_set ?_ GE138.out) | exact HB.out))⟩; have n2_ : Aside0 (Kd.C (Kd.slice 5 (Kd.int .u8)) w14 Al142 y139.length y139) := ⟨by rw [← hq_]; exact (by repeat (first | (with_reducible exact HRl142.out) | (with_reducible refine Kd.C_alloc ?_ _) | (with_reducible refine Kd.C_drewN ?_ _) | (with_reducible refine Kd.C_drew ?_) | exact HRl142.out))⟩; clear BK138 HB HRl142 hq_; have BK138 := n0_; have HB := n1_; have HRl142 := n2_; clear n0_ n1_ n2_))))
       have n0_ := Aside0.mk (blk_drew BK138.out)
       have n1_ := Aside0.mk (Kd.C_drew HRl142.out)
       have n2_ := Aside0.mk (below_drew1 HB.out)
       clear BK138
       clear HRl142
       clear HB
       have BK138 := n0_
       have HRl142 := n1_
       have HB := n2_
       clear n0_ n1_ n2_
       have p146 : 0 ≤ (0 : Int) := (by omega)
       have q146 : 0 < (l0.length : Int) := of_decide_eq_true (by first | (with_reducible assumption) | assumption)
       obtain ⟨ad146, e146, hx146_0⟩ := Kd.at_int HR0.out 0 p146 q146
       have hw146_0 := hx146_0
       (try rw [show ((0 : Int)).toNat = 0 from rfl] at hw146_0)
       (try rw [show 0 * 1 = 0 from rfl] at hw146_0)
       (try rw [Addr.add_zero'] at hw146_0)
       cases e146
       have qi146 : (0 < l0.length) = True := eq_true (by omega)
       (try rw [show ((0 : Int)).toNat = 0 from rfl] at hx146_0)
       (try rw [Addr.add_zero'] at hx146_0)
       replace hx146_0 := (HB.out.cell (World.block_lt_of_cell? w _ hx146_0)).trans hx146_0
       replace p146 := eq_true p146
       replace q146 := eq_true q146
       have p147 : 0 ≤ (1 : Int) := (by omega)
       have q147 : 1 < (l0.length : Int) := of_decide_eq_true (by first | (with_reducible assumption) | assumption)
       obtain ⟨ad147, e147, hx147_0⟩ := Kd.at_int HR0.out 1 p147 q147
       have hw147_0 := hx147_0
       (try rw [show ((1 : Int)).toNat = 1 from rfl] at hw147_0)
       (try rw [show 1 * 1 = 1 from rfl] at hw147_0)
       (try simp only [Nat.reduceMul, Nat.reduceEqDiff, Go.Addr.add, ↓reduceIte] at hw147_0)
       obtain rfl : ad146 = ad147 := (by injection e147)
       (try simp only [show (1 : Int).toNat = 1 from rfl, Nat.reduceMul, Nat.reduceEqDiff, Go.Addr.add, ↓reduceIte] at hx147_0)
       have qi147 : (1 < l0.length) = True := eq_true (by omega)
       (try rw [show ((1 : Int)).toNat = 1 from rfl] at hx147_0)
       replace hx147_0 := (HB.out.cell (World.block_lt_of_cell? w _ hx147_0)).trans hx147_0
       replace p147 := eq_true p147
       replace q147 := eq_true q147
       obtain ⟨i016, hi016, _, hsz16, _⟩ := info_parts info5
       obtain ⟨A16, hcut16, hA16, hC16⟩ := print_drop_of (P := Try.prog) (Value.int .u8) 0 23 5 .i64 Try.underlying23 hi016 hsz16 (some ad146) c0 l0 8 (by omega) (of_decide_eq_true (by first | (with_reducible assumption) | assumption)) HC0.out
       have HR148 := Aside0.mk (Kd.C_of_reads (h1 := fun _ => rfl) (hA16 _ (Kd.reads_of_C HR0.out)))
       have HC148 := Aside0.mk hC16
       clear hA16 hC16 hi016 hsz16
       refine start_ (n := 16) (S := fun w' => w'.cell? ad146 = some (.int .u8 (rd l0 0)) ∧ w'.cell? ⟨ad146.block, ad146.off + 1, none⟩ = some (.int .u8 (rd l0 1))) (ds := []) #[false, false, false, false, false, false, false, false, false, false, false, false, false, false, false, false] (by kernel_rfl) rfl rfl ⟨((HB.out.cell (World.block_lt_of_cell? w _ hw146_0)).trans hw146_0), ((HB.out.cell (World.block_lt_of_cell? w _ hw147_0)).trans hw147_0)⟩ (fun hHeld => ?_); refine with_tabW icmp_Parse.tab6 icmp_Parse.bits6 (fun HT_ HW_ => ?_)
       generalize w14.drew = w15 at BK138 HRl142 HB HR148 hx146_0 hx147_0 hHeld ⊢
       refine pure_ (i := 0) (N := some 20) (v := ?_) (a' := ?_) #[true, false, false, false, false, false, false, false, false, false, false, false, false, false, false, false] rfl rfl (any_of HT_.out (by kernel_rfl)) (fun _ _ _ h => h) (Or.inl ⟨by rfl, ?_⟩) ?_ ?_
       rotate_left
       ·intro w'
        go_simp
        with_reducible rfl
       rotate_left
       ·simp only [Act.put, List.setIfInBounds_toArray, List.set_cons_zero, List.set_cons_succ, i64_w, i32_w]
        rfl
       refine pure_ (i := 1) (N := some 21) (v := ?_) (a' := ?_) #[true, true, false, false, false, false, false, false, false, false, false, false, false, false, false, false] rfl rfl (any_of HT_.out (by kernel_rfl)) (fun _ _ _ h => h) (Or.inl ⟨by rfl, ?_⟩) ?_ ?_
       rotate_left
       ·intro w'
        go_simp
        with_reducible rfl
       rotate_left
       ·simp only [Act.put, List.setIfInBounds_toArray, List.set_cons_zero, List.set_cons_succ, i64_w, i32_w]
        rfl
       refine pure_ (i := 4) (N := some 24) (v := ?_) (a' := ?_) #[true, true, false, false, true, false, false, false, false, false, false, false, false, false, false, false] rfl rfl (any_of HT_.out (by kernel_rfl)) (fun _ _ _ h => h) (Or.inl ⟨by rfl, ?_⟩) ?_ ?_
       rotate_left
       ·intro w'
        go_simp
        with_reducible rfl
       rotate_left
       ·simp only [Act.put, List.setIfInBounds_toArray, List.set_cons_zero, List.set_cons_succ, i64_w, i32_w]
        rfl
       refine pure_ (i := 5) (N := some 25) (v := ?_) (a' := ?_) #[true, true, false, false, true, true, false, false, false, false, false, false, false, false, false, false] rfl rfl (any_of HT_.out (by kernel_rfl)) (fun _ _ _ h => h) (Or.inl ⟨by rfl, ?_⟩) ?_ ?_
       rotate_left
       ·intro w'
        go_simp
        with_reducible rfl
       rotate_left
       ·simp only [Act.put, List.setIfInBounds_toArray, List.set_cons_zero, List.set_cons_succ, i64_w, i32_w]
        rfl
       refine pure_ (i := 8) (N := some 28) (v := ?_) (a' := ?_) #[true, true, false, false, true, true, false, false, true, false, false, false, false, false, false, false] rfl rfl (any_of HT_.out (by kernel_rfl)) (fun _ _ _ h => h) (Or.inl ⟨by rfl, ?_⟩) ?_ ?_
       rotate_left
       ·intro w'
        go_simp
        with_reducible rfl
       rotate_left
       ·simp only [Act.put, List.setIfInBounds_toArray, List.set_cons_zero, List.set_cons_succ, i64_w, i32_w]
        rfl
       refine pure_ (i := 9) (N := some 29) (v := ?_) (a' := ?_) #[true, true, false, false, true, true, false, false, true, true, false, false, false, false, false, false] rfl rfl (any_of HT_.out (by kernel_rfl)) (fun _ _ _ h => h) (Or.inl ⟨by rfl, ?_⟩) ?_ ?_
       rotate_left
       ·intro w'
        go_simp
        with_reducible rfl
       rotate_left
       ·simp only [Act.put, List.setIfInBounds_toArray, List.set_cons_zero, List.set_cons_succ, i64_w, i32_w]
        rfl
       refine pure_ (i := 10) (N := some 30) (v := ?_) (a' := ?_) #[true, true, false, false, true, true, false, false, true, true, true, false, false, false, false, false] rfl rfl (any_of HT_.out (by kernel_rfl)) (fun _ _ _ h => h) (Or.inl ⟨by rfl, ?_⟩) ?_ ?_
       rotate_left
       ·intro w'
        go_simp
        with_reducible rfl
       rotate_left
       ·simp only [Act.put, List.setIfInBounds_toArray, List.set_cons_zero, List.set_cons_succ, i64_w, i32_w]
        rfl
       refine pure_ (i := 11) (N := some 31) (v := ?_) (a' := ?_) #[true, true, false, false, true, true, false, false, true, true, true, true, false, false, false, false] rfl rfl (any_of HT_.out (by kernel_rfl)) (fun _ _ _ h => h) (Or.inl ⟨by rfl, ?_⟩) ?_ ?_
       rotate_left
       ·intro w'
        go_simp
        with_reducible rfl
       rotate_left
       ·simp only [Act.put, List.setIfInBounds_toArray, List.set_cons_zero, List.set_cons_succ, i64_w, i32_w]
        rfl
       refine take_ (i := 2) (N := some 22) (v := ?_) (a' := ?_) #[true, true, true, false, true, true, false, false, true, true, true, true, false, false, false, false] rfl rfl (take_ofW HT_.out HW_.out (by kernel_rfl)) (fun _ _ _ h => h) (Or.inl ⟨by rfl, ?_⟩) hHeld ?_ ?_
       rotate_left
       ·rintro w' ⟨s0, s1⟩
        go_simp
        with_reducible rfl
       rotate_left
       ·simp only [Act.put, List.setIfInBounds_toArray, List.set_cons_zero, List.set_cons_succ, i64_w, i32_w]
        rfl
       refine pure_ (i := 3) (N := some 23) (v := ?_) (a' := ?_) #[true, true, true, true, true, true, false, false, true, true, true, true, false, false, false, false] rfl rfl (any_of HT_.out (by kernel_rfl)) (fun _ _ _ h => h) (Or.inl ⟨by rfl, ?_⟩) ?_ ?_
       rotate_left
       ·intro w'
        go_simp
        with_reducible rfl
       rotate_left
       ·simp only [Act.put, List.setIfInBounds_toArray, List.set_cons_zero, List.set_cons_succ, i64_w, i32_w]
        rfl
       refine take_ (i := 6) (N := some 26) (v := ?_) (a' := ?_) #[true, true, true, true, true, true, true, false, true, true, true, true, false, false, false, false] rfl rfl (take_ofW HT_.out HW_.out (by kernel_rfl)) (fun _ _ _ h => h) (Or.inl ⟨by rfl, ?_⟩) hHeld ?_ ?_
       rotate_left
       ·rintro w' ⟨s0, s1⟩
        go_simp
        with_reducible rfl
       rotate_left
       ·simp only [Act.put, List.setIfInBounds_toArray, List.set_cons_zero, List.set_cons_succ, i64_w, i32_w]
        rfl
       refine pure_ (i := 7) (N := some 27) (v := ?_) (a' := ?_) #[true, true, true, true, true, true, true, true, true, true, true, true, false, false, false, false] rfl rfl (any_of HT_.out (by kernel_rfl)) (fun _ _ _ h => h) (Or.inl ⟨by rfl, ?_⟩) ?_ ?_
       rotate_left
       ·intro w'
        go_simp
        with_reducible rfl
       rotate_left
       ·simp only [Act.put, List.setIfInBounds_toArray, List.set_cons_zero, List.set_cons_succ, i64_w, i32_w]
        rfl
       refine one_ (i := 12) (N := some 32) #[true, true, true, true, true, true, true, true, true, true, true, true, true, false, false, false] rfl rfl (one_of HT_.out (by kernel_rfl)) (by decide) (fun K hK => ?_)
       refine Kd.R_append_rows_step (Kd.int .u8) (w0 := w) w.heap.size (by rfl) (.const (.slice none 0 0)) (.tmp 31) 23 5 (.int .u8 0) 1 rfl Try.underlying23 info5 rfl (by decide) (by omega) (.slice none 0 0) ([] : List Int) (l0.drop 8) _ _ _ (fun _ => True) (fun _ => False) rfl rfl ?aO ?aR (fun _ _ h => h) (fun _ h => h.elim) ?aF ?aB ?aS ?aL ?_
       (case aR => first | (rw [← show (l0.drop 8).length = (l0.length - 8) from List.length_drop]; repeat (first | exact (Kd.C_below HR148.out HB.out) | (with_reducible refine Kd.C_alloc ?_ _) | (with_reducible refine Kd.C_drewN ?_ _) | (with_reducible refine Kd.C_drew ?_))) | (repeat (first | exact (Kd.C_below HR148.out HB.out) | (with_reducible refine Kd.C_alloc ?_ _) | (with_reducible refine Kd.C_drewN ?_ _) | (with_reducible refine Kd.C_drew ?_))))
       (case aB => exact (by repeat (first | (with_reducible first | exact HB.out | apply below_alloc | apply pw_below_drewN | apply below_drew1 | refine below_set ?_ GE138.out) | exact HB.out)))
       (case aF => exact (fun _ _ => trivial))
       (case aO => exact ((Kd.R_nil _ _ _ _ (fun _ => True))))
       (case aS => exact (below_size (by repeat (first | (with_reducible first | exact HB.out | apply below_alloc | apply pw_below_drewN | apply below_drew1 | refine below_set ?_ GE138.out) | exact HB.out))))
       (case aL => have := LMc11.out; have hlx_ := (show (l0.drop 8).length = (l0.length - 8) from List.length_drop); omega)
       intro v150 w17 ho hb hg hat
       rw [← Ny149.out] at ho
       have n0_ := Aside0.mk (blk_grown (g := gb138) (o := .cells #[.int .i64 0, .int .i64 0, .int .u32 0, .slice none 0 0] 118 (0, 0)) (by (with_reducible repeat (first | refine blk_drewN ?_ _ | refine blk_drew ?_ | refine blk_alloc ?_ _)); exact BK138.out) hg (by simp [Value.ownBlock]))
       have n1_ := Aside0.mk (hb)
       have n2_ := Aside0.mk (ho)
       clear BK138
       clear HB
       have BK138 := n0_
       have HB := n1_
       have HO151 := n2_
       clear n0_ n1_ n2_
       clear ho hb hg hat
       obtain ⟨Ao18, co18, eo18⟩ := Kd.R_slice HO151.out
       (first | subst eo18 | (injection eo18 with f1_ f2_ f3_; have f4_ := f1_.symm; have f5_ := f3_.symm; clear f1_ f2_ f3_; subst f4_; subst f5_))
       refine hK.out _ _ ⟨((HB.out.cell (World.block_lt_of_cell? w _ hw146_0)).trans hw146_0), ((HB.out.cell (World.block_lt_of_cell? w _ hw147_0)).trans hw147_0)⟩ (fun hHeld => ?_)
       clear hK K
       refine norm_ (a' := ?_) ?_ ?_
       rotate_left
       ·show Act.put _ (some 32) _ = _
        simp only [Act.put, List.setIfInBounds_toArray, List.set_cons_zero, List.set_cons_succ, i64_w, i32_w]
        rfl
       refine pure_ (i := 13) (N := some 33) (v := ?_) (a' := ?_) #[true, true, true, true, true, true, true, true, true, true, true, true, true, true, false, false] rfl rfl (any_of HT_.out (by kernel_rfl)) (fun _ _ _ h => h) (Or.inl ⟨by rfl, ?_⟩) ?_ ?_
       rotate_left
       ·intro w'
        go_simp
        with_reducible rfl
       rotate_left
       ·simp only [Act.put, List.setIfInBounds_toArray, List.set_cons_zero, List.set_cons_succ, i64_w, i32_w]
        rfl
       refine one_ (i := 14) (N := none) #[true, true, true, true, true, true, true, true, true, true, true, true, true, true, true, false] rfl rfl (one_of HT_.out (by kernel_rfl)) (by decide) (fun K hK => ?_)
       have hs19 : w17.cell? ⟨gb138, 0, none⟩ = some (.int .i64 0) := (blk_cell BK138.out 0).trans rfl
       have hfs19 := blk_frozen BK138.out 0
       have hs20 : w17.cell? ⟨gb138, 1, none⟩ = some (.int .i64 0) := (blk_cell BK138.out 1).trans rfl
       have hfs20 := blk_frozen BK138.out 1
       have hs21 : w17.cell? ⟨gb138, 2, none⟩ = some (.int .u32 0) := (blk_cell BK138.out 2).trans rfl
       have hfs21 := blk_frozen BK138.out 2
       have hs22 : w17.cell? ⟨gb138, 3, none⟩ = some (.slice none 0 0) := (blk_cell BK138.out 3).trans rfl
       have hfs22 := blk_frozen BK138.out 3
       refine skip_ (w1 := ?_) (by rfl) rfl ?_ ?_
       rotate_left
       ·go_simp
        rfl
       refine hK.out _ _ ⟨((cell_far (p := ⟨gb138, _, none⟩) (by first | exact Nat.ne_of_lt (Nat.lt_of_lt_of_le (by have := World.block_lt_of_cell? _ _ hw146_0; first | rwa [add_block] at this | exact this) GW138.out) | (rw [add_block]; exact Nat.ne_of_lt (Nat.lt_of_lt_of_le (by have := World.block_lt_of_cell? _ _ hw146_0; first | rwa [add_block] at this | exact this) GW138.out)) | (show (Addr.add _ _).block ≠ _; rw [add_block]; exact Nat.ne_of_lt (Nat.lt_of_lt_of_le (by have := World.block_lt_of_cell? _ _ hw146_0; first | rwa [add_block] at this | exact this) GW138.out)) | (dsimp only; exact Nat.ne_of_lt (Nat.lt_of_lt_of_le (by have := World.block_lt_of_cell? _ _ hw146_0; first | rwa [add_block] at this | exact this) GW138.out))) _).trans (((cell_far (p := ⟨gb138, _, none⟩) (by first | exact Nat.ne_of_lt (Nat.lt_of_lt_of_le (by have := World.block_lt_of_cell? _ _ hw146_0; first | rwa [add_block] at this | exact this) GW138.out) | (rw [add_block]; exact Nat.ne_of_lt (Nat.lt_of_lt_of_le (by have := World.block_lt_of_cell? _ _ hw146_0; first | rwa [add_block] at this | exact this) GW138.out)) | (show (Addr.add _ _).block ≠ _; rw [add_block]; exact Nat.ne_of_lt (Nat.lt_of_lt_of_le (by have := World.block_lt_of_cell? _ _ hw146_0; first | rwa [add_block] at this | exact this) GW138.out)) | (dsimp only; exact Nat.ne_of_lt (Nat.lt_of_lt_of_le (by have := World.block_lt_of_cell? _ _ hw146_0; first | rwa [add_block] at this | exact this) GW138.out))) _).trans (((cell_far (p := ⟨gb138, _, none⟩) (by first | exact Nat.ne_of_lt (Nat.lt_of_lt_of_le (by have := World.block_lt_of_cell? _ _ hw146_0; first | rwa [add_block] at this | exact this) GW138.out) | (rw [add_block]; exact Nat.ne_of_lt (Nat.lt_of_lt_of_le (by have := World.block_lt_of_cell? _ _ hw146_0; first | rwa [add_block] at this | exact this) GW138.out)) | (show (Addr.add _ _).block ≠ _; rw [add_block]; exact Nat.ne_of_lt (Nat.lt_of_lt_of_le (by have := World.block_lt_of_cell? _ _ hw146_0; first | rwa [add_block] at this | exact this) GW138.out)) | (dsimp only; exact Nat.ne_of_lt (Nat.lt_of_lt_of_le (by have := World.block_lt_of_cell? _ _ hw146_0; first | rwa [add_block] at this | exact this) GW138.out))) _).trans (((cell_far (p := ⟨gb138, _, none⟩) (by first | exact Nat.ne_of_lt (Nat.lt_of_lt_of_le (by have := World.block_lt_of_cell? _ _ hw146_0; first | rwa [add_block] at this | exact this) GW138.out) | (rw [add_block]; exact Nat.ne_of_lt (Nat.lt_of_lt_of_le (by have := World.block_lt_of_cell? _ _ hw146_0; first | rwa [add_block] at this | exact this) GW138.out)) | (show (Addr.add _ _).block ≠ _; rw [add_block]; exact Nat.ne_of_lt (Nat.lt_of_lt_of_le (by have := World.block_lt_of_cell? _ _ hw146_0; first | rwa [add_block] at this | exact this) GW138.out)) | (dsimp only; exact Nat.ne_of_lt (Nat.lt_of_lt_of_le (by have := World.block_lt_of_cell? _ _ hw146_0; first | rwa [add_block] at this | exact this) GW138.out))) _).trans (hHeld.1)))))))), ((cell_far (p := ⟨gb138, _, none⟩) (by first | exact Nat.ne_of_lt (Nat.lt_of_lt_of_le (by have := World.block_lt_of_cell? _ _ hw147_0; first | rwa [add_block] at this | exact this) GW138.out) | (rw [add_block]; exact Nat.ne_of_lt (Nat.lt_of_lt_of_le (by have := World.block_lt_of_cell? _ _ hw147_0; first | rwa [add_block] at this | exact this) GW138.out)) | (show (Addr.add _ _).block ≠ _; rw [add_block]; exact Nat.ne_of_lt (Nat.lt_of_lt_of_le (by have := World.block_lt_of_cell? _ _ hw147_0; first | rwa [add_block] at this | exact this) GW138.out)) | (dsimp only; exact Nat.ne_of_lt (Nat.lt_of_lt_of_le (by have := World.block_lt_of_cell? _ _ hw147_0; first | rwa [add_block] at this | exact this) GW138.out))) _).trans (((cell_far (p := ⟨gb138, _, none⟩) (by first | exact Nat.ne_of_lt (Nat.lt_of_lt_of_le (by have := World.block_lt_of_cell? _ _ hw147_0; first | rwa [add_block] at this | exact this) GW138.out) | (rw [add_block]; exact Nat.ne_of_lt (Nat.lt_of_lt_of_le (by have := World.block_lt_of_cell? _ _ hw147_0; first | rwa [add_block] at this | exact this) GW138.out)) | (show (Addr.add _ _).block ≠ _; rw [add_block]; exact Nat.ne_of_lt (Nat.lt_of_lt_of_le (by have := World.block_lt_of_cell? _ _ hw147_0; first | rwa [add_block] at this | exact this) GW138.out)) | (dsimp only; exact Nat.ne_of_lt (Nat.lt_of_lt_of_le (by have := World.block_lt_of_cell? _ _ hw147_0; first | rwa [add_block] at this | exact this) GW138.out))) _).trans (((cell_far (p := ⟨gb138, _, none⟩) (by first | exact Nat.ne_of_lt (Nat.lt_of_lt_of_le (by have := World.block_lt_of_cell? _ _ hw147_0; first | rwa [add_block] at this | exact this) GW138.out) | (rw [add_block]; exact Nat.ne_of_lt (Nat.lt_of_lt_of_le (by have := World.block_lt_of_cell? _ _ hw147_0; first | rwa [add_block] at this | exact this) GW138.out)) | (show (Addr.add _ _).block ≠ _; rw [add_block]; exact Nat.ne_of_lt (Nat.lt_of_lt_of_le (by have := World.block_lt_of_cell? _ _ hw147_0; first | rwa [add_block] at this | exact this) GW138.out)) | (dsimp only; exact Nat.ne_of_lt (Nat.lt_of_lt_of_le (by have := World.block_lt_of_cell? _ _ hw147_0; first | rwa [add_block] at this | exact this) GW138.out))) _).trans (((cell_far (p := ⟨gb138, _, none⟩) (by first | exact Nat.ne_of_lt (Nat.lt_of_lt_of_le (by have := World.block_lt_of_cell? _ _ hw147_0; first | rwa [add_block] at this | exact this) GW138.out) | (rw [add_block]; exact Nat.ne_of_lt (Nat.lt_of_lt_of_le (by have := World.block_lt_of_cell? _ _ hw147_0; first | rwa [add_block] at this | exact this) GW138.out)) | (show (Addr.add _ _).block ≠ _; rw [add_block]; exact Nat.ne_of_lt (Nat.lt_of_lt_of_le (by have := World.block_lt_of_cell? _ _ hw147_0; first | rwa [add_block] at this | exact this) GW138.out)) | (dsimp only; exact Nat.ne_of_lt (Nat.lt_of_lt_of_le (by have := World.block_lt_of_cell? _ _ hw147_0; first | rwa [add_block] at this | exact this) GW138.out))) _).trans (hHeld.2))))))))⟩ (fun hHeld => ?_)
       clear hK K
       refine pure_ (i := 15) (N := some 3) (v := ?_) (a' := ?_) #[true, true, true, true, true, true, true, true, true, true, true, true, true, true, true, true] rfl rfl (any_of HT_.out (by kernel_rfl)) (fun _ _ _ h => h) (Or.inl ⟨by rfl, ?_⟩) ?_ ?_
       rotate_left
       ·intro w'
        go_simp
        with_reducible rfl
       rotate_left
       ·simp only [Act.put, List.setIfInBounds_toArray, List.set_cons_zero, List.set_cons_succ, i64_w, i32_w]
        rfl
       refine done_ (done_of HT_.out (by kernel_rfl)) ?_
       try go_wp2
       refine bodyPost_ret (results_ct rfl _ _ gb138 118 #[.int .i64 (wrap64 (rd l0 0)), .int .i64 (wrap64 (rd l0 1)), .int .u32 ((t144) % 4294967296), .slice Ao18 y149.length co18] (0, 0) _ rfl (by (with_reducible repeat (first | refine blk_drewN ?_ _ | refine blk_drew ?_ | refine blk_alloc ?_ _)); refine blk_put (cs := #[.int .i64 (wrap64 (rd l0 0)), .int .i64 (wrap64 (rd l0 1)), .int .u32 ((t144) % 4294967296), .slice none 0 0]) ?_ 3 _ rfl; (with_reducible repeat (first | refine blk_drewN ?_ _ | refine blk_drew ?_ | refine blk_alloc ?_ _)); refine blk_put (cs := #[.int .i64 (wrap64 (rd l0 0)), .int .i64 (wrap64 (rd l0 1)), .int .u32 0, .slice none 0 0]) ?_ 2 _ rfl; (with_reducible repeat (first | refine blk_drewN ?_ _ | refine blk_drew ?_ | refine blk_alloc ?_ _)); refine blk_put (cs := #[.int .i64 (wrap64 (rd l0 0)), .int .i64 0, .int .u32 0, .slice none 0 0]) ?_ 1 _ rfl; (with_reducible repeat (first | refine blk_drewN ?_ _ | refine blk_drew ?_ | refine blk_alloc ?_ _)); refine blk_put (cs := #[.int .i64 0, .int .i64 0, .int .u32 0, .slice none 0 0]) ?_ 0 _ rfl; (with_reducible repeat (first | refine blk_drewN ?_ _ | refine blk_drew ?_ | refine blk_alloc ?_ _)); exact BK138.out) Try.underlying118 rfl (by kernel_rfl)) rfl ?_
       exact ⟨_, by first | rfl | (simp [errW_none, errW_some] <;> rfl) | (simp [*, errW_none, errW_some] <;> rfl), by (with_reducible repeat (first | apply Kd.R_alloc | apply Kd.R_drewN | apply Kd.R_drew)); exact Kd.R_mono (Kd.R_far (p := ⟨gb138, 3, none⟩) (Kd.R_far (p := ⟨gb138, 2, none⟩) (Kd.R_far (p := ⟨gb138, 1, none⟩) (Kd.R_far (p := ⟨gb138, 0, none⟩) (Kd.R_types HO151.out BK138.out (by decide)) (fun _ hk => hk.2) (.int .i64 (wrap64 (rd l0 0)))) (fun _ hk => hk.2) (.int .i64 (wrap64 (rd l0 1)))) (fun _ hk => hk.2) (.int .u32 ((t144) % 4294967296))) (fun _ hk => hk.2) (.slice Ao18 y149.length co18)) (fun _ hk => trivial), by repeat (first | (with_reducible first | exact HB.out | apply below_alloc | apply pw_below_drewN | apply below_drew1 | refine below_set ?_ GE138.out) | exact HB.out)⟩
      ·rw [if_neg c11] at H
       exact absurd H (by simp)
     ·rw [if_neg c10] at H
      exact absurd H (by simp)
    ·rw [if_neg c9] at H
     exact absurd H (by simp)
   ·rw [if_neg c8] at H
    exact absurd H (by simp)
  ·rw [if_neg c6] at H
   have c6b0 : (t143 == 65535) = false := beq_eq_false_iff_ne.mpr c6
   have c6b1 : (t143 != 65535) = true := bne_iff_ne.mpr c6
   simp only [Option.some.injEq, Prod.mk.injEq] at H
   obtain ⟨rfl, rfl, rfl, rfl, rfl⟩ := H
   go_enter Try.func93, Try.ntmps93
   go_wp2_with (first | ((with_reducible refine gate_dst (N := 2) rfl ?_); refine box_event ?hg (N := 2) ?hd (cs := #[.int .i64 0, .int .i64 0, .int .u32 0, .slice none 0 0]) (t := 118) ?hr ?_; (case hd => rfl); (case hg => rfl); (case hr => first | (go_simp; done) | (go_simp; rfl)); intro gb138 hg w23 hbox hb; have n0_ := Aside0.mk (below_step (by repeat (first | (with_reducible first | exact HB.out | apply below_alloc | apply pw_below_drewN | apply below_drew1) | exact HB.out)) hb); have n1_ := Aside0.mk (hbox); have n2_ := Aside0.mk ((by rw [hg]; exact (below_size (by repeat (first | (with_reducible first | exact HB.out | apply below_alloc | apply pw_below_drewN | apply below_drew1) | exact HB.out))) : w.heap.size ≤ gb138)); have n3_ := Aside0.mk ((by rw [hg]; exact (below_size (by repeat (first | (with_reducible first | exact HB.out | apply below_alloc | apply pw_below_drewN | apply below_drew1) | exact HB.out))) : w.heap.size ≤ gb138)); clear HB; have HB := n0_; have BK138 := n1_; have GW138 := n2_; have GE138 := n3_; clear n0_ n1_ n2_ n3_; clear hb hbox hg) | ((with_reducible refine gate_dst (N := 11) rfl ?_); refine Kd.N_lit (Kd.slice 5 (Kd.int .u8)) _ 23 ?hg (N' := 11) ?hd (xs := ([l0] : List (List Int))) (inner := [.slice A0 l0.length c0]) (ok := fun _ => True) (okp := fun _ => True) ?hr ?hp (fun _ _ => trivial) trivial (Below.refl _ _) (Nat.le_refl _) (by simp) ?_; (case hd => rfl); (case hg => rfl); (case hr => first | (go_simp; done) | (go_simp; rfl)); (case hp => exact (Reps.one (show Kd.FK (Kd.slice 5 (Kd.int .u8)) _ _ l0 [.slice A0 l0.length c0] from Kd.FK_slice_mk (by exact HC0.out) (Kd.F_mono (Kd.C_F (Kd.heap_int .u8) (by repeat (first | exact (Kd.C_below HR0.out HB.out) | (with_reducible refine Kd.C_alloc ?_ _) | (with_reducible refine Kd.C_drewN ?_ _) | (with_reducible refine Kd.C_drew ?_)))) (fun _ _ => trivial))) (Reps.none _ _))); intro vl142 w24 ho hb hg_ hnew_; clear hg_ hnew_; (first | rw [← Ny139.out] at ho | (simp only [Int.reduceToNat] at ho; rw [← Ny139.out] at ho)); obtain ⟨Al142, cl142, el142⟩ := Kd.N_slice ho; subst el142; have hr := (Kd.N_reads' ho).2.2; have hl := (Kd.N_reads' ho).2.1; clear ho; have n0_ := Aside0.mk (blk_below (g := gb138) (o := .cells #[.int .i64 0, .int .i64 0, .int .u32 0, .slice none 0 0] 118 (0, 0)) (by (with_reducible repeat (first | refine blk_drewN ?_ _ | refine blk_drew ?_ | refine blk_alloc ?_ _)); exact BK138.out) hb); have n1_ := Aside0.mk (below_step (by repeat (first | (with_reducible first | exact HB.out | apply below_alloc | apply pw_below_drewN | apply below_drew1 | refine below_set ?_ GE138.out) | exact HB.out)) hb); have n2_ := Aside0.mk (hr); have n3_ := Aside0.mk (hl); clear BK138; clear HB; have BK138 := n0_; have HB := n1_; have HRl142 := n2_; have HCl142 := n3_; clear n0_ n1_ n2_ n3_; clear hb hr hl) | ((with_reducible refine gate_callee (f := 107) rfl ?_); refine goesL_ (some 12) rfl rfl Try.func107 (by kernel_rfl) rfl #[.slice Al142 y139.length cl142] rfl (by (try simp only [List.map_toArray, List.map_cons, List.map_nil]); first | done | rfl | (simp only [List.length_drop, List.length_take]; rfl)) ?_; (with_reducible refine (octet_Sum.calls _ _ y139 t143 _ ?side1 ?side2 A5.out).mono ?_); (case side1 => repeat (first | exact (by repeat (first | (with_reducible exact HRl142.out) | (with_reducible refine Kd.C_alloc ?_ _) | (with_reducible refine Kd.C_drewN ?_ _) | (with_reducible refine Kd.C_drew ?_) | exact HRl142.out)) | (with_reducible refine Kd.C_alloc ?_ _) | (with_reducible refine Kd.C_drewN ?_ _) | (with_reducible refine Kd.C_drew ?_))); (case side2 => exact HCl142.out); rintro e w25 ⟨rfl, hb⟩; refine ⟨_, rfl, ?_⟩; have n0_ := Aside0.mk (blk_below (g := gb138) (o := .cells #[.int .i64 0, .int .i64 0, .int .u32 0, .slice none 0 0] 118 (0, 0)) (by (with_reducible repeat (first | refine blk_drewN ?_ _ | refine blk_drew ?_ | refine blk_alloc ?_ _)); exact BK138.out) hb); have n1_ := Aside0.mk (Kd.C_below (by repeat (first | (with_reducible exact HRl142.out) | (with_reducible refine Kd.C_alloc ?_ _) | (with_reducible refine Kd.C_drewN ?_ _) | (with_reducible refine Kd.C_drew ?_) | exact HRl142.out)) hb); have n2_ := Aside0.mk (below_step (by repeat (first | (with_reducible first | exact HB.out | apply below_alloc | apply pw_below_drewN | apply below_drew1 | refine below_set ?_ GE138.out) | exact HB.out)) hb); clear BK138; clear HRl142; clear HB; have BK138 := n0_; have HRl142 := n1_; have HB := n2_; clear n0_ n1_ n2_; (try clear hb); (try clear hb2); (try clear hk); (try clear hi); have hcz26_0 : w25.cell? ⟨gb138, 0, none⟩ = some (.int .i64 0) := (blk_cell BK138.out 0).trans rfl; have hcz26_1 : w25.cell? ⟨gb138, 1, none⟩ = some (.int .i64 0) := (blk_cell BK138.out 1).trans rfl; have hcz26_2 : w25.cell? ⟨gb138, 2, none⟩ = some (.int .u32 0) := (blk_cell BK138.out 2).trans rfl; have hcz26_3 : w25.cell? ⟨gb138, 3, none⟩ = some (.slice none 0 0) := (blk_cell BK138.out 3).trans rfl; have hfz26_0 := blk_frozen BK138.out 0; have hfz26_1 := blk_frozen BK138.out 1; have hfz26_2 := blk_frozen BK138.out 2; have hfz26_3 := blk_frozen BK138.out 3))
   refine bodyPost_ret (results_ct rfl _ _ gb138 118 #[.int .i64 0, .int .i64 0, .int .u32 0, .slice none 0 0] (0, 0) _ rfl (by (with_reducible repeat (first | refine blk_drewN ?_ _ | refine blk_drew ?_ | refine blk_alloc ?_ _)); refine blk_put (cs := #[.int .i64 0, .int .i64 0, .int .u32 0, .slice none 0 0]) ?_ 3 _ rfl; (with_reducible repeat (first | refine blk_drewN ?_ _ | refine blk_drew ?_ | refine blk_alloc ?_ _)); refine blk_put (cs := #[.int .i64 0, .int .i64 0, .int .u32 0, .slice none 0 0]) ?_ 2 _ rfl; (with_reducible repeat (first | refine blk_drewN ?_ _ | refine blk_drew ?_ | refine blk_alloc ?_ _)); refine blk_put (cs := #[.int .i64 0, .int .i64 0, .int .u32 0, .slice none 0 0]) ?_ 1 _ rfl; (with_reducible repeat (first | refine blk_drewN ?_ _ | refine blk_drew ?_ | refine blk_alloc ?_ _)); refine blk_put (cs := #[.int .i64 0, .int .i64 0, .int .u32 0, .slice none 0 0]) ?_ 0 _ rfl; (with_reducible repeat (first | refine blk_drewN ?_ _ | refine blk_drew ?_ | refine blk_alloc ?_ _)); exact BK138.out) Try.underlying118 rfl (by kernel_rfl)) rfl ?_
   exact ⟨_, by first | rfl | (simp [errW_none, errW_some] <;> rfl) | (simp [*, errW_none, errW_some] <;> rfl), by first | exact Kd.R_nil _ _ _ _ _ | exact Kd.N_nil _ _ _ _ _ | exact Kd.V_nil _ _ _ _ _ | exact Kd.Q_nil _ _ _ _ _ | exact Kd.S_nil _ _ _ _ _, by repeat (first | (with_reducible first | exact HB.out | apply below_alloc | apply pw_below_drewN | apply below_drew1 | refine below_set ?_ GE138.out) | exact HB.out)⟩

/-! ### icmp_Kind: function 111 -/
def icmp_Kind.f (a0_0 : Int) (a0_1 : Int) (a0_2 : Int) (l0_3 : List Int) : Option (Int) := if a0_0 = 8 then (if a0_1 = 0 then (some 3) else (some 0)) else (if a0_0 = 0 then (if a0_1 = 0 then (some 4) else (some 0)) else (if a0_0 = 3 then (some 5) else (if a0_0 = 11 then (some 5) else (if a0_0 = 12 then (some 5) else (some 0)))))
set_option maxHeartbeats 8000000 in
set_option maxRecDepth 100000 in
theorem icmp_Kind.calls (a0_0 : Int) (a0_1 : Int) (a0_2 : Int) (A0_3 : Option Addr) (c0_3 : Nat) (l0_3 : List Int) (r : Int) (w : World) (hr0_3 : Kd.C (Kd.int .u8) w A0_3 l0_3.length l0_3) (hc0_3 : l0_3.length ≤ c0_3) (h : icmp_Kind.f a0_0 a0_1 a0_2 l0_3 = some r) :
  Calls Try.prog 111 #[.agg #[.int .i64 a0_0, .int .i64 a0_1, .int .u32 a0_2, .slice A0_3 l0_3.length c0_3]] w fun e w' => e = .returned (.int .i64 r) ∧ Below w.heap.size w w' := by
 have hu118 := Try.underlying118
 have HR0_3 := Aside0.mk hr0_3
 have HC0_3 := Aside0.mk hc0_3
 clear hr0_3 hc0_3
 have HB := Aside0.mk (Below.refl w.heap.size w)
 have H : (if a0_0 = 8 then (if a0_1 = 0 then (some 3) else (some 0)) else (if a0_0 = 0 then (if a0_1 = 0 then (some 4) else (some 0)) else (if a0_0 = 3 then (some 5) else (if a0_0 = 11 then (some 5) else (if a0_0 = 12 then (some 5) else (some 0)))))) = some r := h
 clear h
 by_cases c2 : a0_0 = 8
 ·rw [if_pos c2] at H
  have c2b0 : (a0_0 == 8) = true := beq_iff_eq.mpr c2
  have c2b1 : (a0_0 != 8) = false := bne_eq_false_iff_eq.mpr c2
  clear c2
  by_cases c3 : a0_1 = 0
  ·rw [if_pos c3] at H
   have c3b0 : (a0_1 == 0) = true := beq_iff_eq.mpr c3
   have c3b1 : (a0_1 != 0) = false := bne_eq_false_iff_eq.mpr c3
   clear c3
   obtain rfl := Option.some.inj H
   go_enter Try.func111, Try.ntmps111
   go_wp2_with (first | ((with_reducible refine gate_dst (N := 1) rfl ?_); refine box_event ?hg (N := 1) ?hd (cs := #[.int .i64 a0_0, .int .i64 a0_1, .int .u32 a0_2, .slice A0_3 l0_3.length c0_3]) (t := 118) ?hr ?_; (case hd => rfl); (case hg => rfl); (case hr => first | (go_simp; done) | (go_simp; rfl)); intro gb152 hg w4 hbox hb; have n0_ := Aside0.mk (below_step (by repeat (first | (with_reducible first | exact HB.out | apply below_alloc | apply pw_below_drewN | apply below_drew1) | exact HB.out)) hb); have n1_ := Aside0.mk (hbox); have n2_ := Aside0.mk ((by rw [hg]; exact (below_size (by repeat (first | (with_reducible first | exact HB.out | apply below_alloc | apply pw_below_drewN | apply below_drew1) | exact HB.out))) : w.heap.size ≤ gb152)); have n3_ := Aside0.mk ((by rw [hg]; exact (below_size (by repeat (first | (with_reducible first | exact HB.out | apply below_alloc | apply pw_below_drewN | apply below_drew1) | exact HB.out))) : w.heap.size ≤ gb152)); clear HB; have HB := n0_; have BK152 := n1_; have GW152 := n2_; have GE152 := n3_; clear n0_ n1_ n2_ n3_; clear hb hbox hg; have hcz5_0 : w4.cell? ⟨gb152, 0, none⟩ = some (.int .i64 a0_0) := (blk_cell BK152.out 0).trans rfl; have hcz5_1 : w4.cell? ⟨gb152, 1, none⟩ = some (.int .i64 a0_1) := (blk_cell BK152.out 1).trans rfl; have hcz5_2 : w4.cell? ⟨gb152, 2, none⟩ = some (.int .u32 a0_2) := (blk_cell BK152.out 2).trans rfl; have hcz5_3 : w4.cell? ⟨gb152, 3, none⟩ = some (.slice A0_3 l0_3.length c0_3) := (blk_cell BK152.out 3).trans rfl; have hfz5_0 := blk_frozen BK152.out 0; have hfz5_1 := blk_frozen BK152.out 1; have hfz5_2 := blk_frozen BK152.out 2; have hfz5_3 := blk_frozen BK152.out 3))
   go_ret
   exact ⟨by first | rfl | (simp [errW_none, errW_some] <;> rfl) | (simp [*, errW_none, errW_some] <;> rfl), by repeat (first | (with_reducible first | exact HB.out | apply below_alloc | apply pw_below_drewN | apply below_drew1 | refine below_set ?_ GE152.out) | exact HB.out)⟩
  ·rw [if_neg c3] at H
   have c3b0 : (a0_1 == 0) = false := beq_eq_false_iff_ne.mpr c3
   have c3b1 : (a0_1 != 0) = true := bne_iff_ne.mpr c3
   obtain rfl := Option.some.inj H
   go_enter Try.func111, Try.ntmps111
   go_wp2_with (first | ((with_reducible refine gate_dst (N := 1) rfl ?_); refine box_event ?hg (N := 1) ?hd (cs := #[.int .i64 a0_0, .int .i64 a0_1, .int .u32 a0_2, .slice A0_3 l0_3.length c0_3]) (t := 118) ?hr ?_; (case hd => rfl); (case hg => rfl); (case hr => first | (go_simp; done) | (go_simp; rfl)); intro gb152 hg w6 hbox hb; have n0_ := Aside0.mk (below_step (by repeat (first | (with_reducible first | exact HB.out | apply below_alloc | apply pw_below_drewN | apply below_drew1) | exact HB.out)) hb); have n1_ := Aside0.mk (hbox); have n2_ := Aside0.mk ((by rw [hg]; exact (below_size (by repeat (first | (with_reducible first | exact HB.out | apply below_alloc | apply pw_below_drewN | apply below_drew1) | exact HB.out))) : w.heap.size ≤ gb152)); have n3_ := Aside0.mk ((by rw [hg]; exact (below_size (by repeat (first | (with_reducible first | exact HB.out | apply below_alloc | apply pw_below_drewN | apply below_drew1) | exact HB.out))) : w.heap.size ≤ gb152)); clear HB; have HB := n0_; have BK152 := n1_; have GW152 := n2_; have GE152 := n3_; clear n0_ n1_ n2_ n3_; clear hb hbox hg; have hcz7_0 : w6.cell? ⟨gb152, 0, none⟩ = some (.int .i64 a0_0) := (blk_cell BK152.out 0).trans rfl; have hcz7_1 : w6.cell? ⟨gb152, 1, none⟩ = some (.int .i64 a0_1) := (blk_cell BK152.out 1).trans rfl; have hcz7_2 : w6.cell? ⟨gb152, 2, none⟩ = some (.int .u32 a0_2) := (blk_cell BK152.out 2).trans rfl; have hcz7_3 : w6.cell? ⟨gb152, 3, none⟩ = some (.slice A0_3 l0_3.length c0_3) := (blk_cell BK152.out 3).trans rfl; have hfz7_0 := blk_frozen BK152.out 0; have hfz7_1 := blk_frozen BK152.out 1; have hfz7_2 := blk_frozen BK152.out 2; have hfz7_3 := blk_frozen BK152.out 3))
   go_ret
   exact ⟨by first | rfl | (simp [errW_none, errW_some] <;> rfl) | (simp [*, errW_none, errW_some] <;> rfl), by repeat (first | (with_reducible first | exact HB.out | apply below_alloc | apply pw_below_drewN | apply below_drew1 | refine below_set ?_ GE152.out) | exact HB.out)⟩
 ·rw [if_neg c2] at H
  have c2b0 : (a0_0 == 8) = false := beq_eq_false_iff_ne.mpr c2
  have c2b1 : (a0_0 != 8) = true := bne_iff_ne.mpr c2
  by_cases c8 : a0_0 = 0
  ·rw [if_pos c8] at H
   have c8b0 : (a0_0 == 0) = true := beq_iff_eq.mpr c8
   have c8b1 : (a0_0 != 0) = false := bne_eq_false_iff_eq.mpr c8
   clear c8
   by_cases c9 : a0_1 = 0
   ·rw [if_pos c9] at H
    have c9b0 : (a0_1 == 0) = true := beq_iff_eq.mpr c9
    have c9b1 : (a0_1 != 0) = false := bne_eq_false_iff_eq.mpr c9
    clear c9
    obtain rfl := Option.some.inj H
    go_enter Try.func111, Try.ntmps111
    go_wp2_with (first | ((with_reducible refine gate_dst (N := 1) rfl ?_); refine box_event ?hg (N := 1) ?hd (cs := #[.int .i64 a0_0, .int .i64 a0_1, .int .u32 a0_2, .slice A0_3 l0_3.length c0_3]) (t := 118) ?hr ?_; (case hd => rfl); (case hg => rfl); (case hr => first | (go_simp; done) | (go_simp; rfl)); intro gb152 hg w10 hbox hb; have n0_ := Aside0.mk (below_step (by repeat (first | (with_reducible first | exact HB.out | apply below_alloc | apply pw_below_drewN | apply below_drew1) | exact HB.out)) hb); have n1_ := Aside0.mk (hbox); have n2_ := Aside0.mk ((by rw [hg]; exact (below_size (by repeat (first | (with_reducible first | exact HB.out | apply below_alloc | apply pw_below_drewN | apply below_drew1) | exact HB.out))) : w.heap.size ≤ gb152)); have n3_ := Aside0.mk ((by rw [hg]; exact (below_size (by repeat (first | (with_reducible first | exact HB.out | apply below_alloc | apply pw_below_drewN | apply below_drew1) | exact HB.out))) : w.heap.size ≤ gb152)); clear HB; have HB := n0_; have BK152 := n1_; have GW152 := n2_; have GE152 := n3_; clear n0_ n1_ n2_ n3_; clear hb hbox hg; have hcz11_0 : w10.cell? ⟨gb152, 0, none⟩ = some (.int .i64 a0_0) := (blk_cell BK152.out 0).trans rfl; have hcz11_1 : w10.cell? ⟨gb152, 1, none⟩ = some (.int .i64 a0_1) := (blk_cell BK152.out 1).trans rfl; have hcz11_2 : w10.cell? ⟨gb152, 2, none⟩ = some (.int .u32 a0_2) := (blk_cell BK152.out 2).trans rfl; have hcz11_3 : w10.cell? ⟨gb152, 3, none⟩ = some (.slice A0_3 l0_3.length c0_3) := (blk_cell BK152.out 3).trans rfl; have hfz11_0 := blk_frozen BK152.out 0; have hfz11_1 := blk_frozen BK152.out 1; have hfz11_2 := blk_frozen BK152.out 2; have hfz11_3 := blk_frozen BK152.out 3))
    go_ret
    exact ⟨by first | rfl | (simp [errW_none, errW_some] <;> rfl) | (simp [*, errW_none, errW_some] <;> rfl), by repeat (first | (with_reducible first | exact HB.out | apply below_alloc | apply pw_below_drewN | apply below_drew1 | refine below_set ?_ GE152.out) | exact HB.out)⟩
   ·rw [if_neg c9] at H
    have c9b0 : (a0_1 == 0) = false := beq_eq_false_iff_ne.mpr c9
    have c9b1 : (a0_1 != 0) = true := bne_iff_ne.mpr c9
    obtain rfl := Option.some.inj H
    go_enter Try.func111, Try.ntmps111
    go_wp2_with (first | ((with_reducible refine gate_dst (N := 1) rfl ?_); refine box_event ?hg (N := 1) ?hd (cs := #[.int .i64 a0_0, .int .i64 a0_1, .int .u32 a0_2, .slice A0_3 l0_3.length c0_3]) (t := 118) ?hr ?_; (case hd => rfl); (case hg => rfl); (case hr => first | (go_simp; done) | (go_simp; rfl)); intro gb152 hg w12 hbox hb; have n0_ := Aside0.mk (below_step (by repeat (first | (with_reducible first | exact HB.out | apply below_alloc | apply pw_below_drewN | apply below_drew1) | exact HB.out)) hb); have n1_ := Aside0.mk (hbox); have n2_ := Aside0.mk ((by rw [hg]; exact (below_size (by repeat (first | (with_reducible first | exact HB.out | apply below_alloc | apply pw_below_drewN | apply below_drew1) | exact HB.out))) : w.heap.size ≤ gb152)); have n3_ := Aside0.mk ((by rw [hg]; exact (below_size (by repeat (first | (with_reducible first | exact HB.out | apply below_alloc | apply pw_below_drewN | apply below_drew1) | exact HB.out))) : w.heap.size ≤ gb152)); clear HB; have HB := n0_; have BK152 := n1_; have GW152 := n2_; have GE152 := n3_; clear n0_ n1_ n2_ n3_; clear hb hbox hg; have hcz13_0 : w12.cell? ⟨gb152, 0, none⟩ = some (.int .i64 a0_0) := (blk_cell BK152.out 0).trans rfl; have hcz13_1 : w12.cell? ⟨gb152, 1, none⟩ = some (.int .i64 a0_1) := (blk_cell BK152.out 1).trans rfl; have hcz13_2 : w12.cell? ⟨gb152, 2, none⟩ = some (.int .u32 a0_2) := (blk_cell BK152.out 2).trans rfl; have hcz13_3 : w12.cell? ⟨gb152, 3, none⟩ = some (.slice A0_3 l0_3.length c0_3) := (blk_cell BK152.out 3).trans rfl; have hfz13_0 := blk_frozen BK152.out 0; have hfz13_1 := blk_frozen BK152.out 1; have hfz13_2 := blk_frozen BK152.out 2; have hfz13_3 := blk_frozen BK152.out 3))
    go_ret
    exact ⟨by first | rfl | (simp [errW_none, errW_some] <;> rfl) | (simp [*, errW_none, errW_some] <;> rfl), by repeat (first | (with_reducible first | exact HB.out | apply below_alloc | apply pw_below_drewN | apply below_drew1 | refine below_set ?_ GE152.out) | exact HB.out)⟩
  ·rw [if_neg c8] at H
   have c8b0 : (a0_0 == 0) = false := beq_eq_false_iff_ne.mpr c8
   have c8b1 : (a0_0 != 0) = true := bne_iff_ne.mpr c8
   by_cases c14 : a0_0 = 3
   ·rw [if_pos c14] at H
    have c14b0 : (a0_0 == 3) = true := beq_iff_eq.mpr c14
    have c14b1 : (a0_0 != 3) = false := bne_eq_false_iff_eq.mpr c14
    clear c14
    obtain rfl := Option.some.inj H
    go_enter Try.func111, Try.ntmps111
    go_wp2_with (first | ((with_reducible refine gate_dst (N := 1) rfl ?_); refine box_event ?hg (N := 1) ?hd (cs := #[.int .i64 a0_0, .int .i64 a0_1, .int .u32 a0_2, .slice A0_3 l0_3.length c0_3]) (t := 118) ?hr ?_; (case hd => rfl); (case hg => rfl); (case hr => first | (go_simp; done) | (go_simp; rfl)); intro gb152 hg w15 hbox hb; have n0_ := Aside0.mk (below_step (by repeat (first | (with_reducible first | exact HB.out | apply below_alloc | apply pw_below_drewN | apply below_drew1) | exact HB.out)) hb); have n1_ := Aside0.mk (hbox); have n2_ := Aside0.mk ((by rw [hg]; exact (below_size (by repeat (first | (with_reducible first | exact HB.out | apply below_alloc | apply pw_below_drewN | apply below_drew1) | exact HB.out))) : w.heap.size ≤ gb152)); have n3_ := Aside0.mk ((by rw [hg]; exact (below_size (by repeat (first | (with_reducible first | exact HB.out | apply below_alloc | apply pw_below_drewN | apply below_drew1) | exact HB.out))) : w.heap.size ≤ gb152)); clear HB; have HB := n0_; have BK152 := n1_; have GW152 := n2_; have GE152 := n3_; clear n0_ n1_ n2_ n3_; clear hb hbox hg; have hcz16_0 : w15.cell? ⟨gb152, 0, none⟩ = some (.int .i64 a0_0) := (blk_cell BK152.out 0).trans rfl; have hcz16_1 : w15.cell? ⟨gb152, 1, none⟩ = some (.int .i64 a0_1) := (blk_cell BK152.out 1).trans rfl; have hcz16_2 : w15.cell? ⟨gb152, 2, none⟩ = some (.int .u32 a0_2) := (blk_cell BK152.out 2).trans rfl; have hcz16_3 : w15.cell? ⟨gb152, 3, none⟩ = some (.slice A0_3 l0_3.length c0_3) := (blk_cell BK152.out 3).trans rfl; have hfz16_0 := blk_frozen BK152.out 0; have hfz16_1 := blk_frozen BK152.out 1; have hfz16_2 := blk_frozen BK152.out 2; have hfz16_3 := blk_frozen BK152.out 3))
    go_ret
    exact ⟨by first | rfl | (simp [errW_none, errW_some] <;> rfl) | (simp [*, errW_none, errW_some] <;> rfl), by repeat (first | (with_reducible first | exact HB.out | apply below_alloc | apply pw_below_drewN | apply below_drew1 | refine below_set ?_ GE152.out) | exact HB.out)⟩
   ·rw [if_neg c14] at H
    have c14b0 : (a0_0 == 3) = false := beq_eq_false_iff_ne.mpr c14
    have c14b1 : (a0_0 != 3) = true := bne_iff_ne.mpr c14
    by_cases c17 : a0_0 = 11
    ·rw [if_pos c17] at H
     have c17b0 : (a0_0 == 11) = true := beq_iff_eq.mpr c17
     have c17b1 : (a0_0 != 11) = false := bne_eq_false_iff_eq.mpr c17
     clear c17
     obtain rfl := Option.some.inj H
     go_enter Try.func111, Try.ntmps111
     go_wp2_with (first | ((with_reducible refine gate_dst (N := 1) rfl ?_); refine box_event ?hg (N := 1) ?hd (cs := #[.int .i64 a0_0, .int .i64 a0_1, .int .u32 a0_2, .slice A0_3 l0_3.length c0_3]) (t := 118) ?hr ?_; (case hd => rfl); (case hg => rfl); (case hr => first | (go_simp; done) | (go_simp; rfl)); intro gb152 hg w18 hbox hb; have n0_ := Aside0.mk (below_step (by repeat (first | (with_reducible first | exact HB.out | apply below_alloc | apply pw_below_drewN | apply below_drew1) | exact HB.out)) hb); have n1_ := Aside0.mk (hbox); have n2_ := Aside0.mk ((by rw [hg]; exact (below_size (by repeat (first | (with_reducible first | exact HB.out | apply below_alloc | apply pw_below_drewN | apply below_drew1) | exact HB.out))) : w.heap.size ≤ gb152)); have n3_ := Aside0.mk ((by rw [hg]; exact (below_size (by repeat (first | (with_reducible first | exact HB.out | apply below_alloc | apply pw_below_drewN | apply below_drew1) | exact HB.out))) : w.heap.size ≤ gb152)); clear HB; have HB := n0_; have BK152 := n1_; have GW152 := n2_; have GE152 := n3_; clear n0_ n1_ n2_ n3_; clear hb hbox hg; have hcz19_0 : w18.cell? ⟨gb152, 0, none⟩ = some (.int .i64 a0_0) := (blk_cell BK152.out 0).trans rfl; have hcz19_1 : w18.cell? ⟨gb152, 1, none⟩ = some (.int .i64 a0_1) := (blk_cell BK152.out 1).trans rfl; have hcz19_2 : w18.cell? ⟨gb152, 2, none⟩ = some (.int .u32 a0_2) := (blk_cell BK152.out 2).trans rfl; have hcz19_3 : w18.cell? ⟨gb152, 3, none⟩ = some (.slice A0_3 l0_3.length c0_3) := (blk_cell BK152.out 3).trans rfl; have hfz19_0 := blk_frozen BK152.out 0; have hfz19_1 := blk_frozen BK152.out 1; have hfz19_2 := blk_frozen BK152.out 2; have hfz19_3 := blk_frozen BK152.out 3))
     go_ret
     exact ⟨by first | rfl | (simp [errW_none, errW_some] <;> rfl) | (simp [*, errW_none, errW_some] <;> rfl), by repeat (first | (with_reducible first | exact HB.out | apply below_alloc | apply pw_below_drewN | apply below_drew1 | refine below_set ?_ GE152.out) | exact HB.out)⟩
    ·rw [if_neg c17] at H
     have c17b0 : (a0_0 == 11) = false := beq_eq_false_iff_ne.mpr c17
     have c17b1 : (a0_0 != 11) = true := bne_iff_ne.mpr c17
     by_cases c20 : a0_0 = 12
     ·rw [if_pos c20] at H
      have c20b0 : (a0_0 == 12) = true := beq_iff_eq.mpr c20
      have c20b1 : (a0_0 != 12) = false := bne_eq_false_iff_eq.mpr c20
      clear c20
      obtain rfl := Option.some.inj H
      go_enter Try.func111, Try.ntmps111
      go_wp2_with (first | ((with_reducible refine gate_dst (N := 1) rfl ?_); refine box_event ?hg (N := 1) ?hd (cs := #[.int .i64 a0_0, .int .i64 a0_1, .int .u32 a0_2, .slice A0_3 l0_3.length c0_3]) (t := 118) ?hr ?_; (case hd => rfl); (case hg => rfl); (case hr => first | (go_simp; done) | (go_simp; rfl)); intro gb152 hg w21 hbox hb; have n0_ := Aside0.mk (below_step (by repeat (first | (with_reducible first | exact HB.out | apply below_alloc | apply pw_below_drewN | apply below_drew1) | exact HB.out)) hb); have n1_ := Aside0.mk (hbox); have n2_ := Aside0.mk ((by rw [hg]; exact (below_size (by repeat (first | (with_reducible first | exact HB.out | apply below_alloc | apply pw_below_drewN | apply below_drew1) | exact HB.out))) : w.heap.size ≤ gb152)); have n3_ := Aside0.mk ((by rw [hg]; exact (below_size (by repeat (first | (with_reducible first | exact HB.out | apply below_alloc | apply pw_below_drewN | apply below_drew1) | exact HB.out))) : w.heap.size ≤ gb152)); clear HB; have HB := n0_; have BK152 := n1_; have GW152 := n2_; have GE152 := n3_; clear n0_ n1_ n2_ n3_; clear hb hbox hg; have hcz22_0 : w21.cell? ⟨gb152, 0, none⟩ = some (.int .i64 a0_0) := (blk_cell BK152.out 0).trans rfl; have hcz22_1 : w21.cell? ⟨gb152, 1, none⟩ = some (.int .i64 a0_1) := (blk_cell BK152.out 1).trans rfl; have hcz22_2 : w21.cell? ⟨gb152, 2, none⟩ = some (.int .u32 a0_2) := (blk_cell BK152.out 2).trans rfl; have hcz22_3 : w21.cell? ⟨gb152, 3, none⟩ = some (.slice A0_3 l0_3.length c0_3) := (blk_cell BK152.out 3).trans rfl; have hfz22_0 := blk_frozen BK152.out 0; have hfz22_1 := blk_frozen BK152.out 1; have hfz22_2 := blk_frozen BK152.out 2; have hfz22_3 := blk_frozen BK152.out 3))
      go_ret
      exact ⟨by first | rfl | (simp [errW_none, errW_some] <;> rfl) | (simp [*, errW_none, errW_some] <;> rfl), by repeat (first | (with_reducible first | exact HB.out | apply below_alloc | apply pw_below_drewN | apply below_drew1 | refine below_set ?_ GE152.out) | exact HB.out)⟩
     ·rw [if_neg c20] at H
      have c20b0 : (a0_0 == 12) = false := beq_eq_false_iff_ne.mpr c20
      have c20b1 : (a0_0 != 12) = true := bne_iff_ne.mpr c20
      obtain rfl := Option.some.inj H
      go_enter Try.func111, Try.ntmps111
      go_wp2_with (first | ((with_reducible refine gate_dst (N := 1) rfl ?_); refine box_event ?hg (N := 1) ?hd (cs := #[.int .i64 a0_0, .int .i64 a0_1, .int .u32 a0_2, .slice A0_3 l0_3.length c0_3]) (t := 118) ?hr ?_; (case hd => rfl); (case hg => rfl); (case hr => first | (go_simp; done) | (go_simp; rfl)); intro gb152 hg w23 hbox hb; have n0_ := Aside0.mk (below_step (by repeat (first | (with_reducible first | exact HB.out | apply below_alloc | apply pw_below_drewN | apply below_drew1) | exact HB.out)) hb); have n1_ := Aside0.mk (hbox); have n2_ := Aside0.mk ((by rw [hg]; exact (below_size (by repeat (first | (with_reducible first | exact HB.out | apply below_alloc | apply pw_below_drewN | apply below_drew1) | exact HB.out))) : w.heap.size ≤ gb152)); have n3_ := Aside0.mk ((by rw [hg]; exact (below_size (by repeat (first | (with_reducible first | exact HB.out | apply below_alloc | apply pw_below_drewN | apply below_drew1) | exact HB.out))) : w.heap.size ≤ gb152)); clear HB; have HB := n0_; have BK152 := n1_; have GW152 := n2_; have GE152 := n3_; clear n0_ n1_ n2_ n3_; clear hb hbox hg; have hcz24_0 : w23.cell? ⟨gb152, 0, none⟩ = some (.int .i64 a0_0) := (blk_cell BK152.out 0).trans rfl; have hcz24_1 : w23.cell? ⟨gb152, 1, none⟩ = some (.int .i64 a0_1) := (blk_cell BK152.out 1).trans rfl; have hcz24_2 : w23.cell? ⟨gb152, 2, none⟩ = some (.int .u32 a0_2) := (blk_cell BK152.out 2).trans rfl; have hcz24_3 : w23.cell? ⟨gb152, 3, none⟩ = some (.slice A0_3 l0_3.length c0_3) := (blk_cell BK152.out 3).trans rfl; have hfz24_0 := blk_frozen BK152.out 0; have hfz24_1 := blk_frozen BK152.out 1; have hfz24_2 := blk_frozen BK152.out 2; have hfz24_3 := blk_frozen BK152.out 3))
      go_ret
      exact ⟨by first | rfl | (simp [errW_none, errW_some] <;> rfl) | (simp [*, errW_none, errW_some] <;> rfl), by repeat (first | (with_reducible first | exact HB.out | apply below_alloc | apply pw_below_drewN | apply below_drew1 | refine below_set ?_ GE152.out) | exact HB.out)⟩

/-! ### icmp_Number: function 112 -/
def icmp_Number.f (a0_0 : Int) (a0_1 : Int) (a0_2 : Int) (l0_3 : List Int) : Option (Int) := some (wrap64 (a0_2 / 65536))
set_option maxHeartbeats 8000000 in
set_option maxRecDepth 100000 in
theorem icmp_Number.calls (a0_0 : Int) (a0_1 : Int) (a0_2 : Int) (A0_3 : Option Addr) (c0_3 : Nat) (l0_3 : List Int) (r : Int) (w : World) (hr0_3 : Kd.C (Kd.int .u8) w A0_3 l0_3.length l0_3) (hc0_3 : l0_3.length ≤ c0_3) (h : icmp_Number.f a0_0 a0_1 a0_2 l0_3 = some r) :
    Calls Try.prog 112 #[.agg #[.int .i64 a0_0, .int .i64 a0_1, .int .u32 a0_2, .slice A0_3 l0_3.length c0_3]] w fun e w' => e = .returned (.int .i64 r) ∧ Below w.heap.size w w' := by
  have hu118 := Try.underlying118
  have HR0_3 := Aside0.mk hr0_3
  have HC0_3 := Aside0.mk hc0_3
  clear hr0_3 hc0_3
  have HB := Aside0.mk (Below.refl w.heap.size w)
  have H : (some (wrap64 (a0_2 / 65536))) = some r := h
  clear h
  obtain rfl := Option.some.inj H
  go_enter Try.func112, Try.ntmps112
  go_wp2_with (first | ((with_reducible refine gate_dst (N := 1) rfl ?_); refine box_event ?hg (N := 1) ?hd (cs := #[.int .i64 a0_0, .int .i64 a0_1, .int .u32 a0_2, .slice A0_3 l0_3.length c0_3]) (t := 118) ?hr ?_; (case hd => rfl); (case hg => rfl); (case hr => first | (go_simp; done) | (go_simp; rfl)); intro gb153 hg w2 hbox hb; have n0_ := Aside0.mk (below_step (by repeat (first | (with_reducible first | exact HB.out | apply below_alloc | apply pw_below_drewN | apply below_drew1) | exact HB.out)) hb); have n1_ := Aside0.mk (hbox); have n2_ := Aside0.mk ((by rw [hg]; exact (below_size (by repeat (first | (with_reducible first | exact HB.out | apply below_alloc | apply pw_below_drewN | apply below_drew1) | exact HB.out))) : w.heap.size ≤ gb153)); have n3_ := Aside0.mk ((by rw [hg]; exact (below_size (by repeat (first | (with_reducible first | exact HB.out | apply below_alloc | apply pw_below_drewN | apply below_drew1) | exact HB.out))) : w.heap.size ≤ gb153)); clear HB; have HB := n0_; have BK153 := n1_; have GW153 := n2_; have GE153 := n3_; clear n0_ n1_ n2_ n3_; clear hb hbox hg; have hcz3_0 : w2.cell? ⟨gb153, 0, none⟩ = some (.int .i64 a0_0) := (blk_cell BK153.out 0).trans rfl; have hcz3_1 : w2.cell? ⟨gb153, 1, none⟩ = some (.int .i64 a0_1) := (blk_cell BK153.out 1).trans rfl; have hcz3_2 : w2.cell? ⟨gb153, 2, none⟩ = some (.int .u32 a0_2) := (blk_cell BK153.out 2).trans rfl; have hcz3_3 : w2.cell? ⟨gb153, 3, none⟩ = some (.slice A0_3 l0_3.length c0_3) := (blk_cell BK153.out 3).trans rfl; have hfz3_0 := blk_frozen BK153.out 0; have hfz3_1 := blk_frozen BK153.out 1; have hfz3_2 := blk_frozen BK153.out 2; have hfz3_3 := blk_frozen BK153.out 3))
  go_ret
  exact ⟨by first | rfl | (simp [errW_none, errW_some] <;> rfl) | (simp [*, errW_none, errW_some] <;> rfl), by repeat (first | (with_reducible first | exact HB.out | apply below_alloc | apply pw_below_drewN | apply below_drew1 | refine below_set ?_ GE153.out) | exact HB.out)⟩

end Go.Proofs.Ytljnnhloinbjhaa.P
