--@ hand
/- LinePuts: any bytes, any line, any end: the bytes with that end, or what is wrong. -/
import Derived.Test.YtnbanjbhjjhkdaaDoorPline
import Derived.Test.YtnbanjbhjjhkdaaDoorPbailiwickref23Put
import Derived.Test.YtnbanjbhjjhkdaaDoorPbailiwickref23Find
import Derived.Test.YtnbanjbhjjhkdaaDoorPbailiwickref1
import Derived.Test.YtnbanjbhjjhkdaaDoorPureLibPu
import Derived.Test.YtnbanjbhjjhkdaaDoorPbailiwicklaw23
namespace Go.Proofs.YtnbanjbhjjhkdaaDoor.Pure
open Go.RowKit Go.Proofs.YtnbanjbhjjhkdaaDoor.P Go.Proofs.YtnbanjbhjjhkdaaDoorW.PrintWords Go.Proofs.YtnbanjbhjjhkdaaDoorW.PrintLast Go.Proofs.YtnbanjbhjjhkdaaDoorW.PrintMore
set_option linter.unusedVariables false
set_option linter.unusedSimpArgs false
theorem putL_len (l : List Int) (k f t a p ea ep : Int) (hl : l.length ≤ 100000) (h : 0 ≤ ea) : (putL l k f t a p ea ep).1.length ≤ 140737488351232 := by
  have hx := textL_len k ea ep h
  unfold putL
  split
  · split
    · split
      · simp only [List.length_append, List.length_map, List.length_take, List.length_drop]
        omega
      · simp
    · simp
  · simp
theorem puts_box {W wa : World} (hb : Below W.heap.size W wa) (Z cs : Array Value) (t : TypeId) :
    Below W.heap.size W ((wa.alloc (.cells Z t (0, 0))).setRow wa.heap.size cs) ∧ ((wa.alloc (.cells Z t (0, 0))).setRow wa.heap.size cs).heap[wa.heap.size]? = some (.cells cs t (0, 0)) :=
  ⟨below_put (hb.alloc hb.size _) hb.size, setRow_heap _ _ _ _ _ _ (heap_alloc_new _ _)⟩
set_option maxHeartbeats 4000000 in
set_option maxRecDepth 100000 in
theorem LinePuts (A : Option Addr) (c : Nat) (l : List Int) (own : Bool) (ea ep m : Int) (w : World) (ht : Tab w) (hm : w.cell? ⟨0, 0, none⟩ = some (.int .i64 m)) (hr : Kd.C (Kd.int .u8) w A l.length l) (hc : l.length ≤ c)
    (hb0 : l.length ≤ maxLen ∧ l.length * 1 ≤ 140737488351232 ∧ ∀ a_ ∈ l, (Lit.int .u8 a_).wf = true) (ha : (Lit.int .u32 ea).wf = true) (hp : (Lit.int .i64 ep).wf = true) :
    Calls Tryd.prog 5 #[.slice A l.length c, .bool own, .agg #[.int .u32 ea, .int .i64 ep]] w fun e w' => e = .returned (.bool true) ∧ Below w.heap.size w w' := by
  have hu26 := Tryd.underlying24
  have hu28 := Tryd.underlying34
  have hu39 := Tryd.underlying39
  have h0 : 0 ≤ ea ∧ ea < 4294967296 := by
    have e1 : IntKind.u32.min = 0 := rfl
    have e2 : IntKind.u32.max = 4294967295 := rfl
    simp [Lit.wf, e1, e2] at ha
    omega
  have hby := lbytes_of hb0.2.2
  obtain ⟨W0, hW0⟩ : ∃ W, W = w.alloc (.cells #[.int .u32 ea, .int .i64 ep] 24 (0, 0)) := ⟨_, rfl⟩
  have HEB : Aside0 (W0.heap[w.heap.size]? = some (.cells #[.int .u32 ea, .int .i64 ep] 24 (0, 0))) := ⟨by rw [hW0]; exact heap_alloc_new _ _⟩
  have HB : Aside0 (Below w.heap.size w W0) := ⟨by rw [hW0]; exact (Below.refl _ w).alloc (Nat.le_refl _) _⟩
  have HK0 := Aside0.mk (Kd.C_below hr HB.out)
  have HKW := Aside0.mk hr
  have HCC := Aside0.mk hc
  have HT := Aside0.mk ht
  have HM := Aside0.mk hm
  have HBY := Aside0.mk hby
  have HA := Aside0.mk h0
  have HW0 := Aside0.mk hW0
  clear hr hc ht hm hby h0 hb0 ha hp hW0
  go_enter Tryd.func5, Tryd.ntmps5
  go_upto_region 1 with (fail)
  rw [← HW0.out]
  go_upto_region 3 with (first
    | (go_at_call 7; refine (bailiwicklaw23_awake.calls true _ rfl).mono ?_; rintro e' w1 ⟨rfl, hb⟩; have HD := Aside0.mk hb; clear hb))
  clear HW0
  have n_ := Aside0.mk (blk_below HEB.out HD.out)
  clear HEB
  have HEB := n_
  clear n_
  have n_ := Aside0.mk (Kd.C_below HK0.out HD.out)
  clear HK0
  have HK0 := n_
  clear n_
  have n_ := Aside0.mk (HB.out.trans (HD.out.mono HB.out.size))
  clear HB HD
  have HB := n_
  clear n_
  by_cases hbig : (l.length : Int) > 100000
  · have q1 : decide ((l.length : Int) > 100000) = true := decide_eq_true hbig
    have q2 : decide ((100000 : Int) < (l.length : Int)) = true := decide_eq_true hbig
    clear hbig
    go_wp2_with (fail)
    go_ret
    exact ⟨rfl, HB.out⟩
  have q1 : decide ((l.length : Int) > 100000) = false := decide_eq_false hbig
  have q2 : decide ((100000 : Int) < (l.length : Int)) = false := decide_eq_false hbig
  have HL : Aside0 (l.length ≤ 100000) := ⟨by omega⟩
  clear hbig
  obtain ⟨k, f, t, a, p, ok, hT⟩ : ∃ k f t a p ok, findT l = (k, f, t, a, p, ok) := ⟨_, _, _, _, _, _, rfl⟩
  have HF : Aside0 (line_Find.f l = some (k, f, t, a, p, ok)) := ⟨by rw [find_to HBY.out, hT]⟩
  have HG : Aside0 (bailiwickref23_Find.f 300000 l = some (k, f, t, a, p, ok)) := ⟨by rw [refFind_to l HL.out _ (by decide), hT]⟩
  clear hT
  go_upto_region 6 with (first
    | (go_at_call 10; refine (line_Find.calls A c l k f t a p ok _ HK0.out HCC.out HF.out).mono ?_; rintro e' wa ⟨rfl, hb⟩; have HS := Aside0.mk hb; clear hb)
    | (refine wpList_store_row rfl 34 (.tmp 7) (.tmp 23) rfl wa.heap.size #[.int .i64 k, .int .i64 f, .int .i64 t, .int .u32 a, .int .i64 p] (by rfl) (by rfl) 34 #[.int .i64 0, .int .i64 0, .int .i64 0, .int .u32 0, .int .i64 0] (heap_alloc_new _ _) (by kernel_rfl) rfl (by kernel_rfl) ?_))
  obtain ⟨W1, hW⟩ : ∃ W, W = (wa.alloc (.cells #[.int .i64 0, .int .i64 0, .int .i64 0, .int .u32 0, .int .i64 0] 34 (0, 0))).setRow wa.heap.size #[.int .i64 k, .int .i64 f, .int .i64 t, .int .u32 a, .int .i64 p] := ⟨_, rfl⟩
  have hp := puts_box HS.out #[.int .i64 0, .int .i64 0, .int .i64 0, .int .u32 0, .int .i64 0] #[.int .i64 k, .int .i64 f, .int .i64 t, .int .u32 a, .int .i64 p] 34
  rw [← hW] at hp
  have HX : Aside0 (W1.heap[wa.heap.size]? = some (.cells #[.int .i64 k, .int .i64 f, .int .i64 t, .int .u32 a, .int .i64 p] 34 (0, 0))) := ⟨hp.2⟩
  have hge : Aside0 (w.heap.size ≤ wa.heap.size) := ⟨Nat.le_trans HB.out.size HS.out.size⟩
  have HD := Aside0.mk hp.1
  rw [← hW]
  clear hp hW HS
  have n_ := Aside0.mk (blk_below HEB.out HD.out)
  clear HEB
  have HEB := n_
  clear n_
  have n_ := Aside0.mk (Kd.C_below HK0.out HD.out)
  clear HK0
  have HK0 := n_
  clear n_
  have n_ := Aside0.mk (HB.out.trans (HD.out.mono HB.out.size))
  clear HB HD
  have HB := n_
  clear n_
  go_upto_region 7 with (first
    | (go_at_call 12; refine (bailiwickref23_Find.calls 300000 A c l k f t a p ok _ HK0.out HCC.out HG.out).mono ?_; rintro e' wb ⟨rfl, hb⟩; have HS := Aside0.mk hb; clear hb)
    | (refine wpList_store_row rfl 39 (.tmp 9) (.tmp 28) rfl wb.heap.size #[.int .i64 k, .int .i64 f, .int .i64 t, .int .u32 a, .int .i64 p] (by rfl) (by rfl) 39 #[.int .i64 0, .int .i64 0, .int .i64 0, .int .u32 0, .int .i64 0] (heap_alloc_new _ _) (by kernel_rfl) rfl (by kernel_rfl) ?_))
  obtain ⟨W2, hW⟩ : ∃ W, W = (wb.alloc (.cells #[.int .i64 0, .int .i64 0, .int .i64 0, .int .u32 0, .int .i64 0] 39 (0, 0))).setRow wb.heap.size #[.int .i64 k, .int .i64 f, .int .i64 t, .int .u32 a, .int .i64 p] := ⟨_, rfl⟩
  have hp := puts_box HS.out #[.int .i64 0, .int .i64 0, .int .i64 0, .int .u32 0, .int .i64 0] #[.int .i64 k, .int .i64 f, .int .i64 t, .int .u32 a, .int .i64 p] 39
  rw [← hW] at hp
  have HY : Aside0 (W2.heap[wb.heap.size]? = some (.cells #[.int .i64 k, .int .i64 f, .int .i64 t, .int .u32 a, .int .i64 p] 39 (0, 0))) := ⟨hp.2⟩
  have hge2 : Aside0 (w.heap.size ≤ wb.heap.size) := ⟨Nat.le_trans HB.out.size HS.out.size⟩
  have HD := Aside0.mk hp.1
  rw [← hW]
  clear hp hW HS
  have n_ := Aside0.mk (blk_below HEB.out HD.out)
  clear HEB
  have HEB := n_
  clear n_
  have n_ := Aside0.mk (Kd.C_below HK0.out HD.out)
  clear HK0
  have HK0 := n_
  clear n_
  have n_ := Aside0.mk (blk_below HX.out HD.out)
  clear HX
  have HX := n_
  clear n_
  have n_ := Aside0.mk (HB.out.trans (HD.out.mono HB.out.size))
  clear HB HD
  have HB := n_
  clear n_
  have hne1 : Aside0 (wa.heap.size ≠ wb.heap.size) := ⟨blk_ne HX.out HY.out (by decide)⟩
  have hne2 : Aside0 (w.heap.size ≠ wa.heap.size) := ⟨blk_ne HEB.out HX.out (by decide)⟩
  have hne3 : Aside0 (w.heap.size ≠ wb.heap.size) := ⟨blk_ne HEB.out HY.out (by decide)⟩
  cases own with
  | true =>
    obtain ⟨X, hX⟩ : ∃ X, X = putL l k f t a p ea ep := ⟨_, rfl⟩
    have HX0 := Aside0.mk hX
    have HR : Aside0 (bailiwickref23_Put.f 300000 l k f t a p ea ep = some (X.1, X.2)) := ⟨by rw [rput_to l HL.out HBY.out k f t a p ea ep HA.out 300000 (Nat.le_refl _), hX]⟩
    clear hX
    have x0 : W2.cell? ⟨wa.heap.size, 0, none⟩ = some (.int .i64 k) := (blk_cell HX.out 0).trans rfl
    have x1 : W2.cell? ⟨wa.heap.size, 1, none⟩ = some (.int .i64 f) := (blk_cell HX.out 1).trans rfl
    have x2 : W2.cell? ⟨wa.heap.size, 2, none⟩ = some (.int .i64 t) := (blk_cell HX.out 2).trans rfl
    have x3 : W2.cell? ⟨wa.heap.size, 3, none⟩ = some (.int .u32 a) := (blk_cell HX.out 3).trans rfl
    have x4 : W2.cell? ⟨wa.heap.size, 4, none⟩ = some (.int .i64 p) := (blk_cell HX.out 4).trans rfl
    have e0 : W2.cell? ⟨w.heap.size, 0, none⟩ = some (.int .u32 ea) := (blk_cell HEB.out 0).trans rfl
    have e1 : W2.cell? ⟨w.heap.size, 1, none⟩ = some (.int .i64 ep) := (blk_cell HEB.out 1).trans rfl
    go_upto_region 11 with (first
      | (go_at_call 11; refine (line_Put.calls A c l k f t a p ea ep m _ HK0.out HCC.out (by have := HL.out; omega) HBY.out HA.out (HT.out.below HB.out) ((HB.out.cell (World.block_lt_of_cell? w _ HM.out)).trans HM.out) (find_fb HBY.out)).mono ?_; rintro e' W5 ⟨A5, n5, c5, rfl, hn, hC, hle, hb⟩; rw [← HX0.out] at hn hC ⊢; subst hn; have HK5 := Aside0.mk hC; have HC5 := Aside0.mk hle; have HD := Aside0.mk hb; clear hC hle hb x0 x1 x2 x3 x4 e0 e1))
    have n_ := Aside0.mk (blk_below HEB.out HD.out)
    clear HEB
    have HEB := n_
    clear n_
    have n_ := Aside0.mk (Kd.C_below HK0.out HD.out)
    clear HK0
    have HK0 := n_
    clear n_
    have n_ := Aside0.mk (blk_below HY.out HD.out)
    clear HY
    have HY := n_
    clear n_
    have n_ := Aside0.mk (HB.out.trans (HD.out.mono HB.out.size))
    clear HB HD
    have HB := n_
    clear n_
    have y0 : W5.cell? ⟨wb.heap.size, 0, none⟩ = some (.int .i64 k) := (blk_cell HY.out 0).trans rfl
    have y1 : W5.cell? ⟨wb.heap.size, 1, none⟩ = some (.int .i64 f) := (blk_cell HY.out 1).trans rfl
    have y2 : W5.cell? ⟨wb.heap.size, 2, none⟩ = some (.int .i64 t) := (blk_cell HY.out 2).trans rfl
    have y3 : W5.cell? ⟨wb.heap.size, 3, none⟩ = some (.int .u32 a) := (blk_cell HY.out 3).trans rfl
    have y4 : W5.cell? ⟨wb.heap.size, 4, none⟩ = some (.int .i64 p) := (blk_cell HY.out 4).trans rfl
    have e0 : W5.cell? ⟨w.heap.size, 0, none⟩ = some (.int .u32 ea) := (blk_cell HEB.out 0).trans rfl
    have e1 : W5.cell? ⟨w.heap.size, 1, none⟩ = some (.int .i64 ep) := (blk_cell HEB.out 1).trans rfl
    go_upto_region 12 with (first
      | (go_at_call 13; refine (bailiwickref23_Put.calls 300000 A c l k f t a p ea ep X.1 X.2 _ HK0.out HCC.out HR.out).mono ?_; rintro e' W6 ⟨v, rfl, hR, hb⟩; obtain ⟨A6, c6, rfl, hl6, hC6⟩ := Kd.R_reads hR; have HK6 := Aside0.mk hC6; have HC6 := Aside0.mk hl6; have HD := Aside0.mk hb; clear hR hC6 hl6 hb y0 y1 y2 y3 y4 e0 e1))
    have n_ := Aside0.mk (Kd.C_below HK5.out HD.out)
    clear HK5
    have HK5 := n_
    clear n_
    have n_ := Aside0.mk (HB.out.trans (HD.out.mono HB.out.size))
    clear HB HD
    have HB := n_
    clear n_
    have HS6 : Aside0 (bailiwickref1_Same.f 140737488351233 X.1 X.1 = some true) := ⟨same_to _ (by rw [HX0.out]; exact putL_len l k f t a p ea ep HL.out HA.out.1) _ (by have := putL_len l k f t a p ea ep HL.out HA.out.1; rw [HX0.out]; omega)⟩
    go_wp2_with (first
      | (go_at_call 14; refine (bailiwickref1_Same.calls 140737488351233 A5 c5 X.1 A6 c6 X.1 true _ HK5.out HC5.out HK6.out HC6.out HS6.out).mono ?_; rintro e' W7 ⟨rfl, hd⟩; have HD := Aside0.mk hd.below; clear hd))
    go_ret
    exact ⟨rfl, HB.out.trans (HD.out.mono HB.out.size)⟩
  | false =>
    have x2 : W2.cell? ⟨wa.heap.size, 2, none⟩ = some (.int .i64 t) := (blk_cell HX.out 2).trans rfl
    have xf := blk_frozen HX.out 2
    go_upto_region 9 with (fail)
    clear x2 xf
    obtain ⟨t', ht'⟩ : ∃ x, x = wrap64 (t + 1) := ⟨_, rfl⟩
    rw [← ht']
    obtain ⟨W3, hW⟩ : ∃ W, W = W2.setCell ⟨wa.heap.size, 2, none⟩ (.int .i64 t') := ⟨_, rfl⟩
    rw [← hW]
    have n1 : Aside0 (W3.heap[wa.heap.size]? = some (.cells #[.int .i64 k, .int .i64 f, .int .i64 t', .int .u32 a, .int .i64 p] 34 (0, 0))) := ⟨by rw [hW]; exact blk_set HX.out 2 _⟩
    have n2 : Aside0 (W3.heap[wb.heap.size]? = some (.cells #[.int .i64 k, .int .i64 f, .int .i64 t, .int .u32 a, .int .i64 p] 39 (0, 0))) := ⟨by rw [hW]; exact blk_far HY.out (p := ⟨wa.heap.size, 2, none⟩) (fun e => hne1.out e.symm) _⟩
    have n3 : Aside0 (W3.heap[w.heap.size]? = some (.cells #[.int .u32 ea, .int .i64 ep] 24 (0, 0))) := ⟨by rw [hW]; exact blk_far HEB.out (p := ⟨wa.heap.size, 2, none⟩) hne2.out _⟩
    have n4 : Aside0 (Below w.heap.size w W3) := ⟨by rw [hW]; exact below_set HB.out hge.out⟩
    clear HX HY HEB HB hW
    have HX := n1
    have HY := n2
    have HEB := n3
    have HB := n4
    clear n1 n2 n3 n4
    have y2 : W3.cell? ⟨wb.heap.size, 2, none⟩ = some (.int .i64 t) := (blk_cell HY.out 2).trans rfl
    have yf := blk_frozen HY.out 2
    go_upto_region 10 with (fail)
    clear y2 yf
    rw [← ht']
    obtain ⟨W4, hW⟩ : ∃ W, W = W3.setCell ⟨wb.heap.size, 2, none⟩ (.int .i64 t') := ⟨_, rfl⟩
    rw [← hW]
    have n1 : Aside0 (W4.heap[wb.heap.size]? = some (.cells #[.int .i64 k, .int .i64 f, .int .i64 t', .int .u32 a, .int .i64 p] 39 (0, 0))) := ⟨by rw [hW]; exact blk_set HY.out 2 _⟩
    have n2 : Aside0 (W4.heap[wa.heap.size]? = some (.cells #[.int .i64 k, .int .i64 f, .int .i64 t', .int .u32 a, .int .i64 p] 34 (0, 0))) := ⟨by rw [hW]; exact blk_far HX.out (p := ⟨wb.heap.size, 2, none⟩) hne1.out _⟩
    have n3 : Aside0 (W4.heap[w.heap.size]? = some (.cells #[.int .u32 ea, .int .i64 ep] 24 (0, 0))) := ⟨by rw [hW]; exact blk_far HEB.out (p := ⟨wb.heap.size, 2, none⟩) hne3.out _⟩
    have n4 : Aside0 (Below w.heap.size w W4) := ⟨by rw [hW]; exact below_set HB.out hge2.out⟩
    have HK00 : Aside0 (Kd.C (Kd.int .u8) W4 A l.length l) := ⟨Kd.C_below HKW.out n4.out⟩
    clear HX HY HEB HB hW ht' HK0
    have HY := n1
    have HX := n2
    have HEB := n3
    have HB := n4
    have HK0 := HK00
    clear n1 n2 n3 n4 HK00
    obtain ⟨X, hX⟩ : ∃ X, X = putL l k f t' a p ea ep := ⟨_, rfl⟩
    have HX0 := Aside0.mk hX
    have HR : Aside0 (bailiwickref23_Put.f 300000 l k f t' a p ea ep = some (X.1, X.2)) := ⟨by rw [rput_to l HL.out HBY.out k f t' a p ea ep HA.out 300000 (Nat.le_refl _), hX]⟩
    clear hX
    have x0 : W4.cell? ⟨wa.heap.size, 0, none⟩ = some (.int .i64 k) := (blk_cell HX.out 0).trans rfl
    have x1 : W4.cell? ⟨wa.heap.size, 1, none⟩ = some (.int .i64 f) := (blk_cell HX.out 1).trans rfl
    have x2 : W4.cell? ⟨wa.heap.size, 2, none⟩ = some (.int .i64 t') := (blk_cell HX.out 2).trans rfl
    have x3 : W4.cell? ⟨wa.heap.size, 3, none⟩ = some (.int .u32 a) := (blk_cell HX.out 3).trans rfl
    have x4 : W4.cell? ⟨wa.heap.size, 4, none⟩ = some (.int .i64 p) := (blk_cell HX.out 4).trans rfl
    have e0 : W4.cell? ⟨w.heap.size, 0, none⟩ = some (.int .u32 ea) := (blk_cell HEB.out 0).trans rfl
    have e1 : W4.cell? ⟨w.heap.size, 1, none⟩ = some (.int .i64 ep) := (blk_cell HEB.out 1).trans rfl
    go_upto_region 11 with (first
      | (go_at_call 11; refine (line_Put.calls A c l k f t' a p ea ep m _ HK0.out HCC.out (by have := HL.out; omega) HBY.out HA.out (HT.out.below HB.out) ((HB.out.cell (World.block_lt_of_cell? w _ HM.out)).trans HM.out) (find_fb HBY.out)).mono ?_; rintro e' W5 ⟨A5, n5, c5, rfl, hn, hC, hle, hb⟩; rw [← HX0.out] at hn hC ⊢; subst hn; have HK5 := Aside0.mk hC; have HC5 := Aside0.mk hle; have HD := Aside0.mk hb; clear hC hle hb x0 x1 x2 x3 x4 e0 e1))
    have n_ := Aside0.mk (blk_below HEB.out HD.out)
    clear HEB
    have HEB := n_
    clear n_
    have n_ := Aside0.mk (Kd.C_below HK0.out HD.out)
    clear HK0
    have HK0 := n_
    clear n_
    have n_ := Aside0.mk (blk_below HY.out HD.out)
    clear HY
    have HY := n_
    clear n_
    have n_ := Aside0.mk (HB.out.trans (HD.out.mono HB.out.size))
    clear HB HD
    have HB := n_
    clear n_
    have y0 : W5.cell? ⟨wb.heap.size, 0, none⟩ = some (.int .i64 k) := (blk_cell HY.out 0).trans rfl
    have y1 : W5.cell? ⟨wb.heap.size, 1, none⟩ = some (.int .i64 f) := (blk_cell HY.out 1).trans rfl
    have y2 : W5.cell? ⟨wb.heap.size, 2, none⟩ = some (.int .i64 t') := (blk_cell HY.out 2).trans rfl
    have y3 : W5.cell? ⟨wb.heap.size, 3, none⟩ = some (.int .u32 a) := (blk_cell HY.out 3).trans rfl
    have y4 : W5.cell? ⟨wb.heap.size, 4, none⟩ = some (.int .i64 p) := (blk_cell HY.out 4).trans rfl
    have e0 : W5.cell? ⟨w.heap.size, 0, none⟩ = some (.int .u32 ea) := (blk_cell HEB.out 0).trans rfl
    have e1 : W5.cell? ⟨w.heap.size, 1, none⟩ = some (.int .i64 ep) := (blk_cell HEB.out 1).trans rfl
    go_upto_region 12 with (first
      | (go_at_call 13; refine (bailiwickref23_Put.calls 300000 A c l k f t' a p ea ep X.1 X.2 _ HK0.out HCC.out HR.out).mono ?_; rintro e' W6 ⟨v, rfl, hR, hb⟩; obtain ⟨A6, c6, rfl, hl6, hC6⟩ := Kd.R_reads hR; have HK6 := Aside0.mk hC6; have HC6 := Aside0.mk hl6; have HD := Aside0.mk hb; clear hR hC6 hl6 hb y0 y1 y2 y3 y4 e0 e1))
    have n_ := Aside0.mk (Kd.C_below HK5.out HD.out)
    clear HK5
    have HK5 := n_
    clear n_
    have n_ := Aside0.mk (HB.out.trans (HD.out.mono HB.out.size))
    clear HB HD
    have HB := n_
    clear n_
    have HS6 : Aside0 (bailiwickref1_Same.f 140737488351233 X.1 X.1 = some true) := ⟨same_to _ (by rw [HX0.out]; exact putL_len l k f t' a p ea ep HL.out HA.out.1) _ (by have := putL_len l k f t' a p ea ep HL.out HA.out.1; rw [HX0.out]; omega)⟩
    go_wp2_with (first
      | (go_at_call 14; refine (bailiwickref1_Same.calls 140737488351233 A5 c5 X.1 A6 c6 X.1 true _ HK5.out HC5.out HK6.out HC6.out HS6.out).mono ?_; rintro e' W7 ⟨rfl, hd⟩; have HD := Aside0.mk hd.below; clear hd))
    go_ret
    exact ⟨rfl, HB.out.trans (HD.out.mono HB.out.size)⟩
end Go.Proofs.YtnbanjbhjjhkdaaDoor.Pure
