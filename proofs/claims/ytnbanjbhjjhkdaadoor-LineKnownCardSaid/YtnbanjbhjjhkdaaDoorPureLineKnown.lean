--@ hand
/- LineKnown: chapter 23's examples. -/
import Derived.Test.YtnbanjbhjjhkdaaDoorPline
import Derived.Test.YtnbanjbhjjhkdaaDoorPureLibTp
import Derived.Test.YtnbanjbhjjhkdaaDoorPbailiwicklaw23
namespace Go.Proofs.YtnbanjbhjjhkdaaDoor.Pure
open Go.RowKit Go.Proofs.YtnbanjbhjjhkdaaDoor.P Go.Proofs.YtnbanjbhjjhkdaaDoorW.PrintWords Go.Proofs.YtnbanjbhjjhkdaaDoorW.PrintLast Go.Proofs.YtnbanjbhjjhkdaaDoorW.PrintMore
set_option linter.unusedVariables false
set_option linter.unusedSimpArgs false
def knownB0 : List Int := [80, 79, 82, 84, 32, 49, 48, 44, 48, 44, 48, 44, 57, 44, 52, 44, 49, 13, 10]
def knownB1 : List Int := [50, 50, 57, 32, 111, 107, 32, 40, 124, 124, 124, 55, 55, 124, 41, 13, 10]
def knownB2 : List Int := [80, 79, 82, 84, 32, 49, 44, 50, 44, 51, 44, 52, 44, 48, 44, 48, 13, 10]
def knownB3 : List Int := [101, 112, 114, 116, 32, 124, 49, 124, 49, 48, 46, 48, 46, 48, 46, 57, 124, 53, 124, 13, 10]
def knownOut : List Int := [80, 79, 82, 84, 32, 49, 44, 50, 44, 51, 44, 52, 44, 55, 44, 50, 48, 56, 13, 10]
theorem known_found0 : line_Find.f knownB0 = some (1, 5, 17, 167772169, 1025, true) := by decide +kernel
theorem known_found1 : line_Find.f knownB1 = some (4, 8, 14, 0, 77, true) := by decide +kernel
theorem known_found2 : line_Find.f knownB2 = some (0, 0, 0, 0, 0, false) := by decide +kernel
theorem known_found3 : line_Find.f knownB3 = some (2, 5, 19, 167772169, 5, true) := by decide +kernel
theorem known_put : putL knownB0 1 5 17 167772169 1025 16909060 2000 = (knownOut, 0) := by
  have e0 : Lib.itoa 1 = [49] := by decide +kernel
  have e1 : Lib.itoa 2 = [50] := by decide +kernel
  have e2 : Lib.itoa 3 = [51] := by decide +kernel
  have e3 : Lib.itoa 4 = [52] := by decide +kernel
  have e4 : Lib.itoa (2000 / 256) = [55] := by decide +kernel
  have e5 : Lib.itoa (2000 % 256) = [50, 48, 56] := by decide +kernel
  unfold putL
  rw [known_found0]
  show (if true = true ∧ (1 : Int) = 1 ∧ (5 : Int) = 5 ∧ (17 : Int) = 17 ∧ (167772169 : Int) = 167772169 ∧ (1025 : Int) = 1025 then _ else _) = _
  rw [if_pos (by decide), show textE 1 2000 = 0 from by decide, if_pos rfl]
  unfold textL
  rw [if_neg (by decide), if_pos (by decide), replace_dots, e4, e5]
  unfold showL octs
  simp only [List.map_cons, List.map_nil]
  rw [show (16909060 : Int) / 16777216 % 256 = 1 from by decide, show (16909060 : Int) / 65536 % 256 = 2 from by decide, show (16909060 : Int) / 256 % 256 = 3 from by decide, show (16909060 : Int) % 256 = 4 from by decide, e0, e1, e2, e3]
  decide +kernel
theorem const_reads (L : List Int) (hL : L.length ≤ 1000) (w : World) (fr : Nat × Nat) : Kd.C (Kd.int .u8) (w.alloc (.cells (L.map (Value.int .u8)).toArray 5 fr)) (some ⟨w.heap.size, 0, none⟩) L.length L := by
  refine Kd.C_of_reads (d := (0 : Int)) (h1 := fun _ => rfl) ⟨rfl, by omega, fun _ => ⟨_, rfl, fun j hj => ?_⟩⟩
  rw [add_plain, World.cell?_alloc_mark]
  simp [List.getD_eq_getElem?_getD, List.getElem?_eq_getElem hj]
theorem box_put {W wa : World} (hb : Below W.heap.size W wa) (Z cs : Array Value) (t : TypeId) :
    Below W.heap.size W ((wa.alloc (.cells Z t (0, 0))).setRow wa.heap.size cs) ∧ ((wa.alloc (.cells Z t (0, 0))).setRow wa.heap.size cs).heap[wa.heap.size]? = some (.cells cs t (0, 0)) :=
  ⟨below_put (hb.alloc hb.size _) hb.size, setRow_heap _ _ _ _ _ _ (heap_alloc_new _ _)⟩
theorem below_const {W : World} {o : Obj} {wa : World} (hb : Below (W.alloc o).heap.size (W.alloc o) wa) : Below W.heap.size W wa :=
  ((Below.refl _ W).alloc (Nat.le_refl _) o).trans (hb.mono (by show W.heap.size ≤ (W.heap.push o).size; rw [Array.size_push]; omega))
set_option maxHeartbeats 4000000 in
set_option maxRecDepth 100000 in
theorem LineKnown (m : Int) (w : World) (ht : Tab w) (hm : w.cell? ⟨0, 0, none⟩ = some (.int .i64 m)) :
    Calls Tryd.prog 4 #[] w fun e w' => e = .returned (.bool true) ∧ Below w.heap.size w w' := by
  have hu26 := Tryd.underlying24
  have hu28 := Tryd.underlying34
  have HT := Aside0.mk ht
  have HM := Aside0.mk hm
  clear ht hm
  have kc := fun (w : World) (C : Array Value) (n c : Nat) => Lib.run_convert_bytes_const (P := Tryd.prog) w 32 5 C n c Tryd.underlying32 Tryd.underlying5
  go_enter Tryd.func4, Tryd.ntmps4
  go_upto_region 4 with (first
    | (go_at_call 7; refine (bailiwicklaw23_awake.calls true _ rfl).mono ?_; rintro e' w1 ⟨rfl, hb⟩; have HB := Aside0.mk hb; clear hb))
  obtain ⟨W1, hW1⟩ : ∃ W, W = w1.alloc (.cells #[.int .u8 80, .int .u8 79, .int .u8 82, .int .u8 84, .int .u8 32, .int .u8 49, .int .u8 48, .int .u8 44, .int .u8 48, .int .u8 44, .int .u8 48, .int .u8 44, .int .u8 57, .int .u8 44, .int .u8 52, .int .u8 44, .int .u8 49, .int .u8 13, .int .u8 10] 5 (19, 20)) := ⟨_, rfl⟩
  have n3 : Aside0 (Below w.heap.size w W1) := ⟨by rw [hW1]; exact HB.out.alloc HB.out.size _⟩
  have K1 : Aside0 (Kd.C (Kd.int .u8) W1 (some ⟨w1.heap.size, 0, none⟩) knownB0.length knownB0) := ⟨by rw [hW1]; exact const_reads knownB0 (by decide) w1 _⟩
  clear HB
  have HB := n3
  rw [← hW1]
  clear n3 hW1
  go_upto_region 5 with (first
    | (go_at_call 10; refine (line_Find.calls (some ⟨w1.heap.size, 0, none⟩) 19 knownB0 1 5 17 167772169 1025 true _ K1.out (by decide) known_found0).mono ?_; rintro e' wa0 ⟨rfl, hb⟩; have HS := Aside0.mk hb; clear hb)
    | (refine wpList_store_row rfl 34 (.tmp 2) (.tmp 19) rfl wa0.heap.size #[.int .i64 1, .int .i64 5, .int .i64 17, .int .u32 167772169, .int .i64 1025] (by rfl) (by rfl) 34 #[.int .i64 0, .int .i64 0, .int .i64 0, .int .u32 0, .int .i64 0] (heap_alloc_new _ _) (by kernel_rfl) rfl (by kernel_rfl) ?_))
  obtain ⟨W2, hW⟩ : ∃ W, W = (wa0.alloc (.cells #[.int .i64 0, .int .i64 0, .int .i64 0, .int .u32 0, .int .i64 0] 34 (0, 0))).setRow wa0.heap.size #[.int .i64 1, .int .i64 5, .int .i64 17, .int .u32 167772169, .int .i64 1025] := ⟨_, rfl⟩
  have hp := box_put HS.out #[.int .i64 0, .int .i64 0, .int .i64 0, .int .u32 0, .int .i64 0] #[.int .i64 1, .int .i64 5, .int .i64 17, .int .u32 167772169, .int .i64 1025] 34
  rw [← hW] at hp
  have X0 : Aside0 (W2.heap[wa0.heap.size]? = some (.cells #[.int .i64 1, .int .i64 5, .int .i64 17, .int .u32 167772169, .int .i64 1025] 34 (0, 0))) := ⟨hp.2⟩
  have HD := Aside0.mk hp.1
  rw [← hW]
  clear hp hW HS
  have n_ := Aside0.mk (Kd.C_below K1.out HD.out)
  clear K1
  have K1 := n_
  clear n_
  have n_ := Aside0.mk (HB.out.trans (HD.out.mono HB.out.size))
  clear HB HD
  have HB := n_
  clear n_
  have hx00 : W2.cell? ⟨wa0.heap.size, 0, none⟩ = some (.int .i64 1) := (blk_cell X0.out 0).trans rfl
  have hx01 : W2.cell? ⟨wa0.heap.size, 1, none⟩ = some (.int .i64 5) := (blk_cell X0.out 1).trans rfl
  have hx02 : W2.cell? ⟨wa0.heap.size, 2, none⟩ = some (.int .i64 17) := (blk_cell X0.out 2).trans rfl
  have hx03 : W2.cell? ⟨wa0.heap.size, 3, none⟩ = some (.int .u32 167772169) := (blk_cell X0.out 3).trans rfl
  have hx04 : W2.cell? ⟨wa0.heap.size, 4, none⟩ = some (.int .i64 1025) := (blk_cell X0.out 4).trans rfl
  go_upto_region 6 with (first
    | (go_at_call 11; refine (line_Put.calls (some ⟨w1.heap.size, 0, none⟩) 19 knownB0 1 5 17 167772169 1025 16909060 2000 m _ K1.out (by decide) (by decide) (by decide) (by decide) (HT.out.below HB.out) ((HB.out.cell (World.block_lt_of_cell? w _ HM.out)).trans HM.out) (fun r1 r2 r3 r4 r5 h => by rw [known_found0] at h; cases h; decide)).mono ?_; rintro e' W3 ⟨A', n', c', rfl, hn, hC, hle, hb⟩; rw [known_put] at hn hC ⊢; have HN := Aside0.mk hn; have HK := Aside0.mk hC; have HD := Aside0.mk hb; clear hn hC hle hb hx00 hx01 hx02 hx03 hx04))
  have n_ := Aside0.mk (HB.out.trans (HD.out.mono HB.out.size))
  clear HB HD X0 K1
  have HB := n_
  clear n_
  have HK1 : Aside0 (Kd.C (Kd.int .u8) W3 A' knownOut.length knownOut) := ⟨by have := HK.out; rw [HN.out] at this; exact this⟩
  have hn' : n' = 20 := HN.out.trans (by decide)
  clear HN HK
  subst hn'
  go_upto_region 7 with (first
    | (go_at_call 10; refine (line_Find.calls (some ⟨W3.heap.size, 0, none⟩) 17 knownB1 4 8 14 0 77 true _ (const_reads knownB1 (by decide) W3 _) (by decide) known_found1).mono ?_; rintro e' wa1 ⟨rfl, hb⟩; have HS := Aside0.mk (below_const hb); clear hb)
    | (refine wpList_store_row rfl 34 (.tmp 6) (.tmp 32) rfl wa1.heap.size #[.int .i64 4, .int .i64 8, .int .i64 14, .int .u32 0, .int .i64 77] (by rfl) (by rfl) 34 #[.int .i64 0, .int .i64 0, .int .i64 0, .int .u32 0, .int .i64 0] (heap_alloc_new _ _) (by kernel_rfl) rfl (by kernel_rfl) ?_))
  obtain ⟨W4, hW⟩ : ∃ W, W = (wa1.alloc (.cells #[.int .i64 0, .int .i64 0, .int .i64 0, .int .u32 0, .int .i64 0] 34 (0, 0))).setRow wa1.heap.size #[.int .i64 4, .int .i64 8, .int .i64 14, .int .u32 0, .int .i64 77] := ⟨_, rfl⟩
  have hp := box_put HS.out #[.int .i64 0, .int .i64 0, .int .i64 0, .int .u32 0, .int .i64 0] #[.int .i64 4, .int .i64 8, .int .i64 14, .int .u32 0, .int .i64 77] 34
  rw [← hW] at hp
  have X1 : Aside0 (W4.heap[wa1.heap.size]? = some (.cells #[.int .i64 4, .int .i64 8, .int .i64 14, .int .u32 0, .int .i64 77] 34 (0, 0))) := ⟨hp.2⟩
  have HD := Aside0.mk hp.1
  rw [← hW]
  clear hp hW HS
  have n_ := Aside0.mk (Kd.C_below HK1.out HD.out)
  clear HK1
  have HK1 := n_
  clear n_
  have n_ := Aside0.mk (HB.out.trans (HD.out.mono HB.out.size))
  clear HB HD
  have HB := n_
  clear n_
  go_upto_region 8 with (first
    | (go_at_call 10; refine (line_Find.calls (some ⟨W4.heap.size, 0, none⟩) 18 knownB2 0 0 0 0 0 false _ (const_reads knownB2 (by decide) W4 _) (by decide) known_found2).mono ?_; rintro e' wa2 ⟨rfl, hb⟩; have HS := Aside0.mk (below_const hb); clear hb)
    | (refine wpList_store_row rfl 34 (.tmp 8) (.tmp 38) rfl wa2.heap.size #[.int .i64 0, .int .i64 0, .int .i64 0, .int .u32 0, .int .i64 0] (by rfl) (by rfl) 34 #[.int .i64 0, .int .i64 0, .int .i64 0, .int .u32 0, .int .i64 0] (heap_alloc_new _ _) (by kernel_rfl) rfl (by kernel_rfl) ?_))
  obtain ⟨W5, hW⟩ : ∃ W, W = (wa2.alloc (.cells #[.int .i64 0, .int .i64 0, .int .i64 0, .int .u32 0, .int .i64 0] 34 (0, 0))).setRow wa2.heap.size #[.int .i64 0, .int .i64 0, .int .i64 0, .int .u32 0, .int .i64 0] := ⟨_, rfl⟩
  have hp := box_put HS.out #[.int .i64 0, .int .i64 0, .int .i64 0, .int .u32 0, .int .i64 0] #[.int .i64 0, .int .i64 0, .int .i64 0, .int .u32 0, .int .i64 0] 34
  rw [← hW] at hp
  have X2 : Aside0 (W5.heap[wa2.heap.size]? = some (.cells #[.int .i64 0, .int .i64 0, .int .i64 0, .int .u32 0, .int .i64 0] 34 (0, 0))) := ⟨hp.2⟩
  have HD := Aside0.mk hp.1
  rw [← hW]
  clear hp hW HS
  have n_ := Aside0.mk (Kd.C_below HK1.out HD.out)
  clear HK1
  have HK1 := n_
  clear n_
  have n_ := Aside0.mk (blk_below X1.out HD.out)
  clear X1
  have X1 := n_
  clear n_
  have n_ := Aside0.mk (HB.out.trans (HD.out.mono HB.out.size))
  clear HB HD
  have HB := n_
  clear n_
  go_upto_region 9 with (first
    | (go_at_call 10; refine (line_Find.calls (some ⟨W5.heap.size, 0, none⟩) 21 knownB3 2 5 19 167772169 5 true _ (const_reads knownB3 (by decide) W5 _) (by decide) known_found3).mono ?_; rintro e' wa3 ⟨rfl, hb⟩; have HS := Aside0.mk (below_const hb); clear hb)
    | (refine wpList_store_row rfl 34 (.tmp 10) (.tmp 44) rfl wa3.heap.size #[.int .i64 2, .int .i64 5, .int .i64 19, .int .u32 167772169, .int .i64 5] (by rfl) (by rfl) 34 #[.int .i64 0, .int .i64 0, .int .i64 0, .int .u32 0, .int .i64 0] (heap_alloc_new _ _) (by kernel_rfl) rfl (by kernel_rfl) ?_))
  obtain ⟨W6, hW⟩ : ∃ W, W = (wa3.alloc (.cells #[.int .i64 0, .int .i64 0, .int .i64 0, .int .u32 0, .int .i64 0] 34 (0, 0))).setRow wa3.heap.size #[.int .i64 2, .int .i64 5, .int .i64 19, .int .u32 167772169, .int .i64 5] := ⟨_, rfl⟩
  have hp := box_put HS.out #[.int .i64 0, .int .i64 0, .int .i64 0, .int .u32 0, .int .i64 0] #[.int .i64 2, .int .i64 5, .int .i64 19, .int .u32 167772169, .int .i64 5] 34
  rw [← hW] at hp
  have X3 : Aside0 (W6.heap[wa3.heap.size]? = some (.cells #[.int .i64 2, .int .i64 5, .int .i64 19, .int .u32 167772169, .int .i64 5] 34 (0, 0))) := ⟨hp.2⟩
  have HD := Aside0.mk hp.1
  rw [← hW]
  clear hp hW HS
  have n_ := Aside0.mk (Kd.C_below HK1.out HD.out)
  clear HK1
  have HK1 := n_
  clear n_
  have n_ := Aside0.mk (blk_below X1.out HD.out)
  clear X1
  have X1 := n_
  clear n_
  have n_ := Aside0.mk (HB.out.trans (HD.out.mono HB.out.size))
  clear HB HD
  have HB := n_
  clear n_
  have hx10 : W6.cell? ⟨wa1.heap.size, 0, none⟩ = some (.int .i64 4) := (blk_cell X1.out 0).trans rfl
  have hx11 : W6.cell? ⟨wa1.heap.size, 1, none⟩ = some (.int .i64 8) := (blk_cell X1.out 1).trans rfl
  have hx12 : W6.cell? ⟨wa1.heap.size, 2, none⟩ = some (.int .i64 14) := (blk_cell X1.out 2).trans rfl
  have hx13 : W6.cell? ⟨wa1.heap.size, 3, none⟩ = some (.int .u32 0) := (blk_cell X1.out 3).trans rfl
  have hx14 : W6.cell? ⟨wa1.heap.size, 4, none⟩ = some (.int .i64 77) := (blk_cell X1.out 4).trans rfl
  have hx30 : W6.cell? ⟨wa3.heap.size, 0, none⟩ = some (.int .i64 2) := (blk_cell X3.out 0).trans rfl
  have hx31 : W6.cell? ⟨wa3.heap.size, 1, none⟩ = some (.int .i64 5) := (blk_cell X3.out 1).trans rfl
  have hx32 : W6.cell? ⟨wa3.heap.size, 2, none⟩ = some (.int .i64 19) := (blk_cell X3.out 2).trans rfl
  have hx33 : W6.cell? ⟨wa3.heap.size, 3, none⟩ = some (.int .u32 167772169) := (blk_cell X3.out 3).trans rfl
  have hx34 : W6.cell? ⟨wa3.heap.size, 4, none⟩ = some (.int .i64 5) := (blk_cell X3.out 4).trans rfl
  have ks : (convert 32 9 (.slice A' 20 c')).run Tryd.prog W6 = .ok (.string ⟨#[80, 79, 82, 84, 32, 49, 44, 50, 44, 51, 44, 52, 44, 55, 44, 50, 48, 56, 13, 10]⟩) W6 := by
    have h := Kd.C_string (c := c') Tryd.underlying32 Tryd.underlying5 Tryd.underlying9 HK1.out
    exact h.trans (by rw [show strOfNums knownOut = (⟨#[80, 79, 82, 84, 32, 49, 44, 50, 44, 51, 44, 52, 44, 55, 44, 50, 48, 56, 13, 10]⟩ : ByteArray) from by decide +kernel])
  go_wp2_with (fail)
  go_ret
  exact ⟨rfl, HB.out⟩
end Go.Proofs.YtnbanjbhjjhkdaaDoor.Pure
