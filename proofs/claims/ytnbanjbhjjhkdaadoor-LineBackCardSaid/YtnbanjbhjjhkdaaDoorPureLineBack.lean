--@ hand
/- LineBack: ends in texts: what was put is found, and put back it is what it was. -/
import Derived.Test.YtnbanjbhjjhkdaaDoorPline
import Derived.Test.YtnbanjbhjjhkdaaDoorPbailiwickref1
import Derived.Test.YtnbanjbhjjhkdaaDoorPureLibLE
import Derived.Test.YtnbanjbhjjhkdaaDoorPbailiwicklaw23
namespace Go.Proofs.YtnbanjbhjjhkdaaDoor.Pure
open Go.RowKit Go.Proofs.YtnbanjbhjjhkdaaDoor.P Go.Proofs.YtnbanjbhjjhkdaaDoorW.PrintWords Go.Proofs.YtnbanjbhjjhkdaaDoorW.PrintLast Go.Proofs.YtnbanjbhjjhkdaaDoorW.PrintMore
set_option linter.unusedVariables false
set_option linter.unusedSimpArgs false
theorem back_box {W wa : World} (hb : Below W.heap.size W wa) (Z cs : Array Value) (t : TypeId) :
    Below W.heap.size W ((wa.alloc (.cells Z t (0, 0))).setRow wa.heap.size cs) ∧ ((wa.alloc (.cells Z t (0, 0))).setRow wa.heap.size cs).heap[wa.heap.size]? = some (.cells cs t (0, 0)) :=
  ⟨below_put (hb.alloc hb.size _) hb.size, setRow_heap _ _ _ _ _ _ (heap_alloc_new _ _)⟩
theorem put_ok {l : List Int} (hb : LBytes l) {k : Int} {F T : Nat} {a p : Int} (h : lineFind l = some (k, F, T, a, p)) (ea ep : Int) (hp : 1 ≤ ep ∧ ep ≤ 65535) : putL l k F T a p ea ep = (l.take F ++ ints (textL k ea ep) ++ l.drop T, 0) := by
  have hv := find_vals h
  unfold putL
  rw [find_to hb]
  unfold findT
  rw [h]
  simp only
  rw [if_pos (by simp), if_pos (by unfold textE; rw [if_neg (by omega), if_pos (by omega)]), Int.toNat_natCast, Int.toNat_natCast]
  rfl
theorem ints_bytes (l : List UInt8) : LBytes (ints l) := fun c hc => by
  unfold ints at hc
  obtain ⟨b, _, rfl⟩ := List.mem_map.mp hc
  have := b.toNat_lt
  omega
set_option maxHeartbeats 4000000 in
set_option maxRecDepth 100000 in
theorem LineBack (A : Option Addr) (c : Nat) (l : List Int) (ea ep m : Int) (w : World) (ht : Tab w) (hm : w.cell? ⟨0, 0, none⟩ = some (.int .i64 m)) (hr : Kd.C (Kd.int .u8) w A l.length l) (hc : l.length ≤ c)
    (hb0 : l.length ≤ maxLen ∧ l.length * 1 ≤ 140737488351232 ∧ ∀ a_ ∈ l, (Lit.int .u8 a_).wf = true) (ha : (Lit.int .u32 ea).wf = true) (hp : (Lit.int .i64 ep).wf = true) :
    Calls Tryd.prog 6 #[.slice A l.length c, .agg #[.int .u32 ea, .int .i64 ep]] w fun e w' => e = .returned (.bool true) ∧ Below w.heap.size w w' := by
  have hu26 := Tryd.underlying24
  have hu28 := Tryd.underlying34
  have h0 : 0 ≤ ea ∧ ea < 4294967296 := by
    have e1 : IntKind.u32.min = 0 := rfl
    have e2 : IntKind.u32.max = 4294967295 := rfl
    simp [Lit.wf, e1, e2] at ha
    omega
  have hby := lbytes_of hb0.2.2
  obtain ⟨W0, hW0⟩ : ∃ W, W = w.alloc (.cells #[.int .u32 ea, .int .i64 ep] 24 (0, 0)) := ⟨_, rfl⟩
  have HEB : Aside0 (W0.heap[w.heap.size]? = some (.cells #[.int .u32 ea, .int .i64 ep] 24 (0, 0))) := ⟨by rw [hW0]; exact heap_alloc_new _ _⟩
  have HB : Aside0 (Below w.heap.size w W0) := ⟨by rw [hW0]; exact (Below.refl _ w).alloc (Nat.le_refl _) _⟩
  have HK0 := Aside0.mk (Kd.C_below hr HB.out)
  have HCC := Aside0.mk hc
  have HT := Aside0.mk ht
  have HM := Aside0.mk hm
  have HBY := Aside0.mk hby
  have HA := Aside0.mk h0
  have HW0 := Aside0.mk hW0
  clear hr hc ht hm hby h0 hb0 ha hp hW0
  go_enter Tryd.func6, Tryd.ntmps6
  go_upto_region 1 with (fail)
  rw [← HW0.out]
  go_upto_region 3 with (first
    | (go_at_call 7; refine (bailiwicklaw23_awake.calls true _ rfl).mono ?_; rintro e' w1 ⟨rfl, hb⟩; have HD := Aside0.mk hb; clear hb))
  clear HW0
  have n_ := Aside0.mk (blk_below HEB.out HD.out)
  clear HEB
  have HEB := n_
  clear n_
  have n_ := Aside0.mk (Kd.C_below HK0.out HD.out)
  clear HK0
  have HK0 := n_
  clear n_
  have n_ := Aside0.mk (HB.out.trans (HD.out.mono HB.out.size))
  clear HB HD
  have HB := n_
  clear n_
  have e1 : w1.cell? ⟨w.heap.size, 1, none⟩ = some (.int .i64 ep) := (blk_cell HEB.out 1).trans rfl
  by_cases hbig : (l.length : Int) > 100000
  · have q1 : decide ((l.length : Int) > 100000) = true := decide_eq_true hbig
    have q2 : decide ((100000 : Int) < (l.length : Int)) = true := decide_eq_true hbig
    clear hbig
    go_wp2_with (fail)
    go_ret
    exact ⟨rfl, HB.out⟩
  have q1 : decide ((l.length : Int) > 100000) = false := decide_eq_false hbig
  have q2 : decide ((100000 : Int) < (l.length : Int)) = false := decide_eq_false hbig
  have HL : Aside0 (l.length ≤ 100000) := ⟨by omega⟩
  clear hbig
  by_cases hp1 : ep < 1
  · have q3 : decide (ep < 1) = true := decide_eq_true hp1
    clear hp1
    go_wp2_with (fail)
    go_ret
    exact ⟨rfl, HB.out⟩
  have q3 : decide (ep < 1) = false := decide_eq_false hp1
  by_cases hp2 : ep > 65535
  · have q4 : decide (ep > 65535) = true := decide_eq_true hp2
    have q5 : decide (65535 < ep) = true := decide_eq_true hp2
    clear hp1 hp2
    go_wp2_with (fail)
    go_ret
    exact ⟨rfl, HB.out⟩
  have q4 : decide (ep > 65535) = false := decide_eq_false hp2
  have q5 : decide (65535 < ep) = false := decide_eq_false hp2
  have HP : Aside0 (1 ≤ ep ∧ ep ≤ 65535) := ⟨by omega⟩
  clear hp1 hp2
  cases hfind : lineFind l with
  | none =>
    have HF : Aside0 (line_Find.f l = some (0, 0, 0, 0, 0, false)) := ⟨by rw [find_to HBY.out]; unfold findT; rw [hfind]⟩
    clear hfind
    go_wp2_with (first
      | (go_at_call 10; refine (line_Find.calls A c l 0 0 0 0 0 false _ HK0.out HCC.out HF.out).mono ?_; rintro e' wa ⟨rfl, hb⟩; have HD := Aside0.mk hb; clear hb)
      | (refine wpList_store_row rfl 34 (.tmp 5) (.tmp 33) rfl wa.heap.size #[.int .i64 0, .int .i64 0, .int .i64 0, .int .u32 0, .int .i64 0] (by rfl) (by rfl) 34 #[.int .i64 0, .int .i64 0, .int .i64 0, .int .u32 0, .int .i64 0] (heap_alloc_new _ _) (by kernel_rfl) rfl (by kernel_rfl) ?_))
    go_ret
    exact ⟨rfl, below_put ((HB.out.trans (HD.out.mono HB.out.size)).alloc (Nat.le_trans HB.out.size HD.out.size) _) (Nat.le_trans HB.out.size HD.out.size)⟩
  | some r =>
  obtain ⟨k, F, T, a, p⟩ := r
  have HFI := Aside0.mk hfind
  have HF : Aside0 (line_Find.f l = some (k, (F : Int), (T : Int), a, p, true)) := ⟨by rw [find_to HBY.out]; unfold findT; rw [hfind]⟩
  have HLI := Aside0.mk (find_lies hfind)
  have HV := Aside0.mk (find_vals hfind)
  clear hfind
  -- what is put, and what is found then
  obtain ⟨X, hX⟩ : ∃ X, X = l.take F ++ ints (textL k ea ep) ++ l.drop T := ⟨_, rfl⟩
  obtain ⟨M, hM⟩ : ∃ M, M = F + (ints (textL k ea ep)).length := ⟨_, rfl⟩
  obtain ⟨ea', hea⟩ : ∃ x, x = (if k = 4 then 0 else ea) := ⟨_, rfl⟩
  have HEA : Aside0 (k ≠ 4 → ea' = ea) := ⟨fun hk => by rw [hea, if_neg hk]⟩
  have HXB : Aside0 (LBytes X) := ⟨by
    rw [hX]
    intro x hx
    rw [List.mem_append, List.mem_append] at hx
    rcases hx with (hx | hx) | hx
    · exact HBY.out x (List.mem_of_mem_take hx)
    · exact ints_bytes _ x hx
    · exact HBY.out x (List.mem_of_mem_drop hx)⟩
  have HXF : Aside0 (lineFind X = some (k, F, M, ea', ep)) := ⟨by rw [hX, hM, hea]; exact find_again HFI.out ea ep HA.out HP.out⟩
  have HXL : Aside0 (X.length ≤ 200000 ∧ F ≤ X.length ∧ M ≤ X.length ∧ X.take F = l.take F ∧ X.drop M = l.drop T) := ⟨by
    have h1 := HLI.out
    simp only at h1
    have h2 := HL.out
    have h3 := textL_len k ea ep HA.out.1
    have h4 : (l.take F).length = F := by rw [List.length_take]; omega
    have h5 := ints_len (textL k ea ep)
    refine ⟨?_, ?_, ?_, ?_, ?_⟩
    · rw [hX, List.length_append, List.length_append, h4, List.length_drop]; omega
    · rw [hX, List.length_append, List.length_append, h4]; omega
    · rw [hX, hM, List.length_append, List.length_append, h4]; omega
    · rw [hX, List.append_assoc, List.take_append_of_le_length (by omega), List.take_of_length_le (by omega)]
    · rw [hX, hM, ← h4, ← List.length_append, h4, List.drop_left]⟩
  have HPU : Aside0 (putL l k F T a p ea ep = (X, 0)) := ⟨by rw [put_ok HBY.out HFI.out ea ep HP.out, hX]⟩
  have HX2 : Aside0 (line_Find.f X = some (k, (F : Int), (M : Int), ea', ep, true)) := ⟨by rw [find_to HXB.out]; unfold findT; rw [HXF.out]⟩
  obtain ⟨Y, hY⟩ : ∃ Y, Y = l.take F ++ ints (textL k a p) ++ l.drop T := ⟨_, rfl⟩
  have HPY : Aside0 (putL X k F M ea' ep a p = (Y, 0)) := ⟨by rw [put_ok HXB.out HXF.out a p HV.out.2.1, hY, HXL.out.2.2.2.1, HXL.out.2.2.2.2]⟩
  have HPZ : Aside0 (putL l k F T a p a p = (Y, 0)) := ⟨by rw [put_ok HBY.out HFI.out a p HV.out.2.1, hY]⟩
  have HYL : Aside0 (Y.length ≤ 200000) := ⟨by
    have h1 := HLI.out
    try simp only at h1
    have h2 := HL.out
    have h3 := textL_len k a p HV.out.1.1
    have h5 := ints_len (textL k a p)
    rw [hY, List.length_append, List.length_append, List.length_take, List.length_drop]
    omega⟩
  clear hX hM hea hY
  go_upto_region 6 with (first
    | (go_at_call 10; refine (line_Find.calls A c l k F T a p true _ HK0.out HCC.out HF.out).mono ?_; rintro e' wa ⟨rfl, hb⟩; have HS := Aside0.mk hb; clear hb)
    | (refine wpList_store_row rfl 34 (.tmp 5) (.tmp 33) rfl wa.heap.size #[.int .i64 k, .int .i64 (F : Int), .int .i64 (T : Int), .int .u32 a, .int .i64 p] (by rfl) (by rfl) 34 #[.int .i64 0, .int .i64 0, .int .i64 0, .int .u32 0, .int .i64 0] (heap_alloc_new _ _) (by kernel_rfl) rfl (by kernel_rfl) ?_))
  clear e1
  obtain ⟨W1, hW⟩ : ∃ W, W = (wa.alloc (.cells #[.int .i64 0, .int .i64 0, .int .i64 0, .int .u32 0, .int .i64 0] 34 (0, 0))).setRow wa.heap.size #[.int .i64 k, .int .i64 (F : Int), .int .i64 (T : Int), .int .u32 a, .int .i64 p] := ⟨_, rfl⟩
  have hp := back_box HS.out #[.int .i64 0, .int .i64 0, .int .i64 0, .int .u32 0, .int .i64 0] #[.int .i64 k, .int .i64 (F : Int), .int .i64 (T : Int), .int .u32 a, .int .i64 p] 34
  rw [← hW] at hp
  have HLB : Aside0 (W1.heap[wa.heap.size]? = some (.cells #[.int .i64 k, .int .i64 (F : Int), .int .i64 (T : Int), .int .u32 a, .int .i64 p] 34 (0, 0))) := ⟨hp.2⟩
  have HD := Aside0.mk hp.1
  rw [← hW]
  clear hp hW HS
  have n_ := Aside0.mk (blk_below HEB.out HD.out)
  clear HEB
  have HEB := n_
  clear n_
  have n_ := Aside0.mk (Kd.C_below HK0.out HD.out)
  clear HK0
  have HK0 := n_
  clear n_
  have n_ := Aside0.mk (HB.out.trans (HD.out.mono HB.out.size))
  clear HB HD
  have HB := n_
  clear n_
  have x0 : W1.cell? ⟨wa.heap.size, 0, none⟩ = some (.int .i64 k) := (blk_cell HLB.out 0).trans rfl
  have x1 : W1.cell? ⟨wa.heap.size, 1, none⟩ = some (.int .i64 (F : Int)) := (blk_cell HLB.out 1).trans rfl
  have x2 : W1.cell? ⟨wa.heap.size, 2, none⟩ = some (.int .i64 (T : Int)) := (blk_cell HLB.out 2).trans rfl
  have x3 : W1.cell? ⟨wa.heap.size, 3, none⟩ = some (.int .u32 a) := (blk_cell HLB.out 3).trans rfl
  have x4 : W1.cell? ⟨wa.heap.size, 4, none⟩ = some (.int .i64 p) := (blk_cell HLB.out 4).trans rfl
  have e0 : W1.cell? ⟨w.heap.size, 0, none⟩ = some (.int .u32 ea) := (blk_cell HEB.out 0).trans rfl
  have e1 : W1.cell? ⟨w.heap.size, 1, none⟩ = some (.int .i64 ep) := (blk_cell HEB.out 1).trans rfl
  go_upto_region 9 with (first
    | (go_at_call 11; refine (line_Put.calls A c l k F T a p ea ep m _ HK0.out HCC.out (by have := HL.out; omega) HBY.out HA.out (HT.out.below HB.out) ((HB.out.cell (World.block_lt_of_cell? w _ HM.out)).trans HM.out) (find_fb HBY.out)).mono ?_; rintro e' W2 ⟨A5, n5, c5, rfl, hn, hC, hle, hb⟩; rw [HPU.out] at hn hC ⊢; subst hn; have HKX := Aside0.mk hC; have HCX := Aside0.mk hle; have HD := Aside0.mk hb; clear hC hle hb x0 x1 x2 x3 x4 e0 e1))
  have n_ := Aside0.mk (blk_below HEB.out HD.out)
  clear HEB
  have HEB := n_
  clear n_
  have n_ := Aside0.mk (Kd.C_below HK0.out HD.out)
  clear HK0
  have HK0 := n_
  clear n_
  have n_ := Aside0.mk (blk_below HLB.out HD.out)
  clear HLB
  have HLB := n_
  clear n_
  have n_ := Aside0.mk (HB.out.trans (HD.out.mono HB.out.size))
  clear HB HD
  have HB := n_
  clear n_
  go_upto_region 10 with (first
    | (go_at_call 10; refine (line_Find.calls A5 c5 X k F M ea' ep true _ HKX.out HCX.out HX2.out).mono ?_; rintro e' wc ⟨rfl, hb⟩; have HS := Aside0.mk hb; clear hb)
    | (refine wpList_store_row rfl 34 (.tmp 9) (.tmp 47) rfl wc.heap.size #[.int .i64 k, .int .i64 (F : Int), .int .i64 (M : Int), .int .u32 ea', .int .i64 ep] (by rfl) (by rfl) 34 #[.int .i64 0, .int .i64 0, .int .i64 0, .int .u32 0, .int .i64 0] (heap_alloc_new _ _) (by kernel_rfl) rfl (by kernel_rfl) ?_))
  obtain ⟨W3, hW⟩ : ∃ W, W = (wc.alloc (.cells #[.int .i64 0, .int .i64 0, .int .i64 0, .int .u32 0, .int .i64 0] 34 (0, 0))).setRow wc.heap.size #[.int .i64 k, .int .i64 (F : Int), .int .i64 (M : Int), .int .u32 ea', .int .i64 ep] := ⟨_, rfl⟩
  have hp := back_box HS.out #[.int .i64 0, .int .i64 0, .int .i64 0, .int .u32 0, .int .i64 0] #[.int .i64 k, .int .i64 (F : Int), .int .i64 (M : Int), .int .u32 ea', .int .i64 ep] 34
  rw [← hW] at hp
  have HMB : Aside0 (W3.heap[wc.heap.size]? = some (.cells #[.int .i64 k, .int .i64 (F : Int), .int .i64 (M : Int), .int .u32 ea', .int .i64 ep] 34 (0, 0))) := ⟨hp.2⟩
  have HD := Aside0.mk hp.1
  rw [← hW]
  clear hp hW HS
  have n_ := Aside0.mk (blk_below HEB.out HD.out)
  clear HEB
  have HEB := n_
  clear n_
  have n_ := Aside0.mk (Kd.C_below HK0.out HD.out)
  clear HK0
  have HK0 := n_
  clear n_
  have n_ := Aside0.mk (blk_below HLB.out HD.out)
  clear HLB
  have HLB := n_
  clear n_
  have n_ := Aside0.mk (Kd.C_below HKX.out HD.out)
  clear HKX
  have HKX := n_
  clear n_
  have n_ := Aside0.mk (HB.out.trans (HD.out.mono HB.out.size))
  clear HB HD
  have HB := n_
  clear n_
  have x0 : W3.cell? ⟨wa.heap.size, 0, none⟩ = some (.int .i64 k) := (blk_cell HLB.out 0).trans rfl
  have x1 : W3.cell? ⟨wa.heap.size, 1, none⟩ = some (.int .i64 (F : Int)) := (blk_cell HLB.out 1).trans rfl
  have x2 : W3.cell? ⟨wa.heap.size, 2, none⟩ = some (.int .i64 (T : Int)) := (blk_cell HLB.out 2).trans rfl
  have x3 : W3.cell? ⟨wa.heap.size, 3, none⟩ = some (.int .u32 a) := (blk_cell HLB.out 3).trans rfl
  have x4 : W3.cell? ⟨wa.heap.size, 4, none⟩ = some (.int .i64 p) := (blk_cell HLB.out 4).trans rfl
  have y0 : W3.cell? ⟨wc.heap.size, 0, none⟩ = some (.int .i64 k) := (blk_cell HMB.out 0).trans rfl
  have y1 : W3.cell? ⟨wc.heap.size, 1, none⟩ = some (.int .i64 (F : Int)) := (blk_cell HMB.out 1).trans rfl
  have y2 : W3.cell? ⟨wc.heap.size, 2, none⟩ = some (.int .i64 (M : Int)) := (blk_cell HMB.out 2).trans rfl
  have y3 : W3.cell? ⟨wc.heap.size, 3, none⟩ = some (.int .u32 ea') := (blk_cell HMB.out 3).trans rfl
  have y4 : W3.cell? ⟨wc.heap.size, 4, none⟩ = some (.int .i64 ep) := (blk_cell HMB.out 4).trans rfl
  have e0 : W3.cell? ⟨w.heap.size, 0, none⟩ = some (.int .u32 ea) := (blk_cell HEB.out 0).trans rfl
  have e1 : W3.cell? ⟨w.heap.size, 1, none⟩ = some (.int .i64 ep) := (blk_cell HEB.out 1).trans rfl
  refine back_r10 k F T M a p ea ep ea' w.heap.size wa.heap.size wc.heap.size W3 x0 x1 y0 y1 y3 y4 e0 e1 HEA.out _ ?_
  intro y_49 y_50 y_51 y_52 y_53 y_54 y_55 y_56 y_57 y_58 y_59 y_60 y_61 y_62 y_63 y_64 y_65 y_66 y_67 y_68 y_69 y_70 y_71 y_72 y_73 y_74 y_75 y_76 y_77 y_78 y_79 y_80 y_81 y_82 y_83 y_84 y_85 y_86 y_87 y_88
  go_upto_region 12 with (fail)
  clear x0 x1 x2 x3 x4 y0 y1 y2 y3 y4 e0 e1
  refine back_r12 A c l A5 c5 X F T M wa.heap.size wc.heap.size W3 ((blk_cell HLB.out 1).trans rfl) ((blk_cell HLB.out 2).trans rfl) ((blk_cell HMB.out 1).trans rfl) ((blk_cell HMB.out 2).trans rfl) HK0.out HCC.out HKX.out HCX.out (by have := HLI.out; (try simp only at this); omega) (by have := HLI.out; (try simp only at this); omega) HXL.out.2.1 HXL.out.2.2.1 (by have := HL.out; omega) HXL.out.2.2.2.1 HXL.out.2.2.2.2 _ ?_
  intro y90 y91 y92 y93 y94 y95 y96 y97 y98 y99 y100 y101 y102 y103 y104 y105 y106 y107 y108 y109 y110 W4 hb
  have HD := Aside0.mk hb
  clear hb
  have n_ := Aside0.mk (Kd.C_below HK0.out HD.out)
  clear HK0
  have HK0 := n_
  clear n_
  have n_ := Aside0.mk (blk_below HLB.out HD.out)
  clear HLB
  have HLB := n_
  clear n_
  have n_ := Aside0.mk (Kd.C_below HKX.out HD.out)
  clear HKX
  have HKX := n_
  clear n_
  have n_ := Aside0.mk (blk_below HMB.out HD.out)
  clear HMB
  have HMB := n_
  clear n_
  have n_ := Aside0.mk (HB.out.trans (HD.out.mono HB.out.size))
  clear HB HD
  have HB := n_
  clear n_
  have x0 : W4.cell? ⟨wa.heap.size, 0, none⟩ = some (.int .i64 k) := (blk_cell HLB.out 0).trans rfl
  have x1 : W4.cell? ⟨wa.heap.size, 1, none⟩ = some (.int .i64 (F : Int)) := (blk_cell HLB.out 1).trans rfl
  have x2 : W4.cell? ⟨wa.heap.size, 2, none⟩ = some (.int .i64 (T : Int)) := (blk_cell HLB.out 2).trans rfl
  have x3 : W4.cell? ⟨wa.heap.size, 3, none⟩ = some (.int .u32 a) := (blk_cell HLB.out 3).trans rfl
  have x4 : W4.cell? ⟨wa.heap.size, 4, none⟩ = some (.int .i64 p) := (blk_cell HLB.out 4).trans rfl
  have y0 : W4.cell? ⟨wc.heap.size, 0, none⟩ = some (.int .i64 k) := (blk_cell HMB.out 0).trans rfl
  have y1 : W4.cell? ⟨wc.heap.size, 1, none⟩ = some (.int .i64 (F : Int)) := (blk_cell HMB.out 1).trans rfl
  have y2 : W4.cell? ⟨wc.heap.size, 2, none⟩ = some (.int .i64 (M : Int)) := (blk_cell HMB.out 2).trans rfl
  have y3 : W4.cell? ⟨wc.heap.size, 3, none⟩ = some (.int .u32 ea') := (blk_cell HMB.out 3).trans rfl
  have y4 : W4.cell? ⟨wc.heap.size, 4, none⟩ = some (.int .i64 ep) := (blk_cell HMB.out 4).trans rfl
  go_upto_region 15 with (first
    | (go_at_call 11; refine (line_Put.calls A5 c5 X k F M ea' ep a p m _ HKX.out HCX.out (by have := HXL.out.1; omega) HXB.out HV.out.1 (HT.out.below HB.out) ((HB.out.cell (World.block_lt_of_cell? w _ HM.out)).trans HM.out) (find_fb HXB.out)).mono ?_; rintro e' W5 ⟨A6, n6, c6, rfl, hn, hC, hle, hb⟩; rw [HPY.out] at hn hC ⊢; subst hn; have HKY := Aside0.mk hC; have HCY := Aside0.mk hle; have HD := Aside0.mk hb; clear hC hle hb x0 x1 x2 x3 x4 y0 y1 y2 y3 y4))
  have n_ := Aside0.mk (Kd.C_below HK0.out HD.out)
  clear HK0
  have HK0 := n_
  clear n_
  have n_ := Aside0.mk (blk_below HLB.out HD.out)
  clear HLB
  have HLB := n_
  clear n_
  have n_ := Aside0.mk (HB.out.trans (HD.out.mono HB.out.size))
  clear HB HD
  have HB := n_
  clear n_
  have x0 : W5.cell? ⟨wa.heap.size, 0, none⟩ = some (.int .i64 k) := (blk_cell HLB.out 0).trans rfl
  have x1 : W5.cell? ⟨wa.heap.size, 1, none⟩ = some (.int .i64 (F : Int)) := (blk_cell HLB.out 1).trans rfl
  have x2 : W5.cell? ⟨wa.heap.size, 2, none⟩ = some (.int .i64 (T : Int)) := (blk_cell HLB.out 2).trans rfl
  have x3 : W5.cell? ⟨wa.heap.size, 3, none⟩ = some (.int .u32 a) := (blk_cell HLB.out 3).trans rfl
  have x4 : W5.cell? ⟨wa.heap.size, 4, none⟩ = some (.int .i64 p) := (blk_cell HLB.out 4).trans rfl
  go_upto_region 16 with (first
    | (go_at_call 11; refine (line_Put.calls A c l k F T a p a p m _ HK0.out HCC.out (by have := HL.out; omega) HBY.out HV.out.1 (HT.out.below HB.out) ((HB.out.cell (World.block_lt_of_cell? w _ HM.out)).trans HM.out) (find_fb HBY.out)).mono ?_; rintro e' W6 ⟨A7, n7, c7, rfl, hn, hC, hle, hb⟩; rw [HPZ.out] at hn hC ⊢; subst hn; have HKZ := Aside0.mk hC; have HCZ := Aside0.mk hle; have HD := Aside0.mk hb; clear hC hle hb x0 x1 x2 x3 x4))
  have n_ := Aside0.mk (Kd.C_below HKY.out HD.out)
  clear HKY
  have HKY := n_
  clear n_
  have n_ := Aside0.mk (HB.out.trans (HD.out.mono HB.out.size))
  clear HB HD
  have HB := n_
  clear n_
  have HS6 : Aside0 (bailiwickref1_Same.f 1000001 Y Y = some true) := ⟨same_to _ (by have := HYL.out; omega) _ (by have := HYL.out; omega)⟩
  go_wp2_with (first
    | (go_at_call 14; refine (bailiwickref1_Same.calls 1000001 A6 c6 Y A7 c7 Y true _ HKY.out HCY.out HKZ.out HCZ.out HS6.out).mono ?_; rintro e' W7 ⟨rfl, hd⟩; have HD := Aside0.mk hd.below; clear hd))
  go_ret
  exact ⟨rfl, HB.out.trans (HD.out.mono HB.out.size)⟩
end Go.Proofs.YtnbanjbhjjhkdaaDoor.Pure
