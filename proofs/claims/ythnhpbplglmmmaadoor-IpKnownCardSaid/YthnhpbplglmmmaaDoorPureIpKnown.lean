--@ hand
/- IpKnown: chapter 2's examples. -/
import Derived.Test.YthnhpbplglmmmaaDoorPip
import Derived.Test.YthnhpbplglmmmaaDoorPbailiwickref1
import Derived.Test.YthnhpbplglmmmaaDoorPbailiwicklaw2
import Derived.Test.YthnhpbplglmmmaaDoorPureLibIk
namespace Go.Proofs.YthnhpbplglmmmaaDoor.Pure
open Go.RowKit Go.Proofs.YthnhpbplglmmmaaDoor.P Go.Proofs.YthnhpbplglmmmaaDoorW.PrintWords Go.Proofs.YthnhpbplglmmmaaDoorW.PrintLast Go.Proofs.YthnhpbplglmmmaaDoorW.PrintMore
set_option linter.unusedVariables false
set_option linter.unusedSimpArgs false
theorem known_build : ip_Build.f 0 0 false false 0 64 17 167772161 134744072 [] [] = some ([69, 0, 0, 20, 0, 0, 0, 0, 64, 17, 96, 201, 10, 0, 0, 1, 8, 8, 8, 8], 0) := by decide +kernel
theorem known_copy : bailiwickref1_Copy.f 100 [69, 0, 0, 20, 0, 0, 0, 0, 64, 17, 96, 201, 10, 0, 0, 1, 8, 8, 8, 8] = some [69, 0, 0, 20, 0, 0, 0, 0, 64, 17, 96, 201, 10, 0, 0, 1, 8, 8, 8, 8] := by decide +kernel
theorem known_p4 : ip_Parse.f [69, 0, 0, 20, 0, 0, 0, 0, 64, 17, 96, 201, 10, 0, 0, 1, 8, 8, 8, 8, 9] = some (0, 0, false, false, 0, 64, 17, 167772161, 134744072, [], [], 0) := by kernel_rfl
theorem known_p5 : ip_Parse.f ([69, 0, 0, 20, 0, 0, 0, 0, 64, 17, 96, 201, 10, 0, 0, 1, 8, 8, 8, 8].take (19 : Int).toNat) = some (0, 0, false, false, 0, 0, 0, 0, 0, [], [], 2) := by kernel_rfl
theorem known_p8 : ip_Parse.f [69, 0, 0, 20, 1, 0, 0, 0, 64, 17, 96, 201, 10, 0, 0, 1, 8, 8, 8, 8] = some (0, 0, false, false, 0, 0, 0, 0, 0, [], [], 5) := by kernel_rfl
theorem known_pb : ip_Parse.f [70, 0, 0, 20, 0, 0, 0, 0, 64, 17, 96, 201, 10, 0, 0, 1, 8, 8, 8, 8] = some (0, 0, false, false, 0, 0, 0, 0, 0, [], [], 2) := by kernel_rfl
theorem known_r1 : readL ⟨#[49, 48, 46, 48, 46, 48, 46, 49]⟩ = (167772161, true) := by decide +kernel
theorem known_r2 : readL ⟨#[49, 48, 46, 48, 46, 48, 46, 48, 49]⟩ = (0, false) := by decide +kernel
theorem known_r3 : readL ⟨#[49, 46, 50, 46, 51]⟩ = (0, false) := by decide +kernel
theorem known_show : toS (showL 167772161) = ⟨#[49, 48, 46, 48, 46, 48, 46, 49]⟩ := by decide +kernel
theorem below_put2 {B g : Nat} {w w' : World} {cs : Array Value} (h : Below B w w') (hg : B ≤ g) : Below B w (w'.setRow g cs) :=
  ⟨h.os, h.tape, h.output, (by have := h.size; simpa [World.setRow] using this), fun k hk => (setRow_other w' g k cs (by omega)).trans (h.block k hk)⟩
theorem box_put2 {W wa : World} (hb : Below W.heap.size W wa) (Z cs : Array Value) (t : TypeId) :
    Below W.heap.size W ((wa.alloc (.cells Z t (0, 0))).setRow wa.heap.size cs) ∧ ((wa.alloc (.cells Z t (0, 0))).setRow wa.heap.size cs).heap[wa.heap.size]? = some (.cells cs t (0, 0)) :=
  ⟨below_put2 (hb.alloc hb.size _) hb.size, setRow_heap _ _ _ _ _ _ (heap_alloc_new _ _)⟩
set_option maxHeartbeats 8000000 in
set_option maxRecDepth 100000 in
theorem IpKnown (m : Int) (w : World) (ht : Tab w) (hm : w.cell? ⟨3, 0, none⟩ = some (.int .i64 m)) (he : ErrsAt w) :
    Calls Tryd.prog 5 #[] w fun e w' => e = .returned (.bool true) ∧ Below w.heap.size w w' := by
  have hu29 := Tryd.underlying29
  have hu34 := Tryd.underlying34
  have HT := Aside0.mk ht
  have HM := Aside0.mk hm
  have HE := Aside0.mk he
  have HB := Aside0.mk (Below.refl w.heap.size w)
  have HAW : Aside0 (bailiwicklaw2_awake.f = some true) := ⟨by decide +kernel⟩
  obtain ⟨ti, hti, htz⟩ : ∃ i, Tryd.prog.info? 5 = some i ∧ i.size = 1 := by
    have h := info5
    obtain ⟨i, h1, h2⟩ := Option.map_eq_some_iff.mp h
    exact ⟨i, h1, (Prod.mk.inj (Prod.mk.inj h2).2).1⟩
  clear ht hm he
  go_enter Tryd.func5, Tryd.ntmps5
  go_upto_region 4 with (first
    | (go_at_call 6; (refine (bailiwicklaw2_awake.calls true _ HAW.out).mono ?_); rintro e' w1 ⟨rfl, hb⟩; have n1_ := Aside0.mk (HB.out.trans (hb.mono HB.out.size)); clear HB hb; have HB := n1_; clear n1_)
    | (go_at_call 12; (refine (bailiwicklaw2_plain.calls 0 0 false false 0 64 17 167772161 134744072 [] [] _ known_plain).mono ?_); rintro e' w2 ⟨v9, v10, rfl, ho9, ho10, hb⟩; obtain ⟨A9, c9, rfl⟩ := Kd.R_slice ho9; obtain ⟨A10, c10, rfl⟩ := Kd.R_slice ho10; clear ho9 ho10; have n1_ := Aside0.mk (HB.out.trans (hb.mono HB.out.size)); clear HB hb; have HB := n1_; clear n1_)
    | (go_at_call 11; (refine (ip_Build.calls 0 0 false false 0 64 17 167772161 134744072 A9 c9 [] A10 c10 [] [69, 0, 0, 20, 0, 0, 0, 0, 64, 17, 96, 201, 10, 0, 0, 1, 8, 8, 8, 8] 0 _ C_empty (Nat.zero_le _) C_empty (Nat.zero_le _) known_build).mono ?_); rintro e' W1 ⟨v0, rfl, ho, hb⟩; obtain ⟨gb, cb, rfl, -⟩ := Kd.R_form ho (by decide); have KB := Aside0.mk (Kd.R_reads' ho).2.2; have CB := Aside0.mk (Kd.R_reads' ho).2.1; clear ho; have n1_ := Aside0.mk (HB.out.trans (hb.mono HB.out.size)); clear HB hb; have HB := n1_; clear n1_))
  have HD := Aside0.mk (Below.refl W1.heap.size W1)
  go_upto_region 5 with (first
    | (go_at_call 14; (refine (bailiwickref1_Copy.calls 100 (some ⟨gb, 0, none⟩) cb [69, 0, 0, 20, 0, 0, 0, 0, 64, 17, 96, 201, 10, 0, 0, 1, 8, 8, 8, 8] [69, 0, 0, 20, 0, 0, 0, 0, 64, 17, 96, 201, 10, 0, 0, 1, 8, 8, 8, 8] _ KB.out CB.out known_copy).mono ?_); rintro e' w3 ⟨v3, rfl, ho, hb⟩; have HO := Aside0.mk ho; clear ho; have n1_ := Aside0.mk (HD.out.trans (hb.mono HD.out.size)); clear HD hb; have HD := n1_; clear n1_)
    | ((with_reducible refine gate_builtin (b := .append) (xs := #[.tmp 27, .tmp 28]) rfl ?_); at_builtin; refine Kd.R_append (Kd.int .u8) (w0 := W1) W1.heap.size rfl (.tmp 27) (.tmp 28) 29 5 (.int .u8 0) 1 rfl Tryd.underlying29 info5 rfl (by decide) (by omega) v3 [69, 0, 0, 20, 0, 0, 0, 0, 64, 17, 96, 201, 10, 0, 0, 1, 8, 8, 8, 8] (9 : Int) [.int .u8 9] (fun _ => True) (fun _ => False) rfl rfl ?aP (fun _ hk => hk.elim) ?aF ?aO ?aB ?aS ?aL ?_; (case aP => exact rfl); (case aF => exact (fun _ _ => trivial)); (case aO => exact HO.out); (case aB => exact HD.out); (case aS => exact HD.out.size); (case aL => decide); intro v4 w4 ho hb hg hat; obtain ⟨A4, c4, rfl⟩ := Kd.R_slice ho; have K4 := Aside0.mk (Kd.R_reads' ho).2.2; have C4 := Aside0.mk (Kd.R_reads' ho).2.1; clear HD HO ho hg hat; have HD := Aside0.mk hb; clear hb)
    | (go_at_call 13; (refine (ip_Parse.calls A4 c4 [69, 0, 0, 20, 0, 0, 0, 0, 64, 17, 96, 201, 10, 0, 0, 1, 8, 8, 8, 8, 9] 0 0 false false 0 64 17 167772161 134744072 [] [] 0 _ K4.out C4.out known_p4).mono ?_); rintro e' w5 ⟨v9, v10, rfl, ho9, ho10, hb⟩; obtain ⟨ap4, cap4, rfl⟩ := Kd.R_slice ho9; obtain ⟨bp4, cbp4, rfl⟩ := Kd.R_slice ho10; clear ho9 ho10; have n1_ := Aside0.mk (HD.out.trans (hb.mono HD.out.size)); clear HD hb; have HD := n1_; clear n1_)
    | (refine wpList_store_row rfl 34 (.tmp 3) (.tmp 31) rfl w5.heap.size #[.int .i64 0, .int .i64 0, .bool false, .bool false, .int .i64 0, .int .i64 64, .int .i64 17, .int .u32 167772161, .int .u32 134744072, .slice ap4 0 cap4, .slice bp4 0 cbp4] (by rfl) (by rfl) 34 #[.int .i64 0, .int .i64 0, .bool false, .bool false, .int .i64 0, .int .i64 0, .int .i64 0, .int .u32 0, .int .u32 0, .slice none 0 0, .slice none 0 0] (heap_alloc_new _ _) (by kernel_rfl) rfl (by kernel_rfl) ?_))
  clear K4 C4
  obtain ⟨W5, hW⟩ : ∃ W, W = (w5.alloc (.cells #[.int .i64 0, .int .i64 0, .bool false, .bool false, .int .i64 0, .int .i64 0, .int .i64 0, .int .u32 0, .int .u32 0, .slice none 0 0, .slice none 0 0] 34 (0, 0))).setRow w5.heap.size #[.int .i64 0, .int .i64 0, .bool false, .bool false, .int .i64 0, .int .i64 64, .int .i64 17, .int .u32 167772161, .int .u32 134744072, .slice ap4 0 cap4, .slice bp4 0 cbp4] := ⟨_, rfl⟩
  have hp := box_put2 HD.out #[.int .i64 0, .int .i64 0, .bool false, .bool false, .int .i64 0, .int .i64 0, .int .i64 0, .int .u32 0, .int .u32 0, .slice none 0 0, .slice none 0 0] #[.int .i64 0, .int .i64 0, .bool false, .bool false, .int .i64 0, .int .i64 64, .int .i64 17, .int .u32 167772161, .int .u32 134744072, .slice ap4 0 cap4, .slice bp4 0 cbp4] 34
  rw [← hW] at hp
  have X3 : Aside0 (W5.heap[w5.heap.size]? = some (.cells #[.int .i64 0, .int .i64 0, .bool false, .bool false, .int .i64 0, .int .i64 64, .int .i64 17, .int .u32 167772161, .int .u32 134744072, .slice ap4 0 cap4, .slice bp4 0 cbp4] 34 (0, 0))) := ⟨hp.2⟩
  clear HD
  have HD := Aside0.mk hp.1
  rw [← hW]
  clear hp hW
  have n_ := Aside0.mk (Kd.C_below KB.out HD.out)
  clear KB
  have KB := n_
  clear n_
  have n_ := Aside0.mk (HB.out.trans (HD.out.mono HB.out.size))
  clear HB HD
  have HB := n_
  clear n_
  have HD := Aside0.mk (Below.refl W5.heap.size W5)
  obtain ⟨hcut, hA, hC7⟩ := print_take_of (P := Tryd.prog) (Value.int .u8) (0 : Int) 29 5 .i64 hu29 hti htz (some ⟨gb, 0, none⟩) cb [69, 0, 0, 20, 0, 0, 0, 0, 64, 17, 96, 201, 10, 0, 0, 1, 8, 8, 8, 8] 19 (by decide) (by decide) CB.out
  have K19 : Aside0 (Kd.C (Kd.int .u8) W5 (some ⟨gb, 0, none⟩) ([69, 0, 0, 20, 0, 0, 0, 0, 64, 17, 96, 201, 10, 0, 0, 1, 8, 8, 8, 8].take (19 : Int).toNat).length ([69, 0, 0, 20, 0, 0, 0, 0, 64, 17, 96, 201, 10, 0, 0, 1, 8, 8, 8, 8].take (19 : Int).toNat)) := Aside0.mk (Kd.C_of_reads (h1 := fun _ => rfl) (hA _ (Kd.reads_of_C (enc := Value.int .u8) (d := (0 : Int)) (h1 := fun _ => rfl) KB.out)))
  have C19 : Aside0 (([69, 0, 0, 20, 0, 0, 0, 0, 64, 17, 96, 201, 10, 0, 0, 1, 8, 8, 8, 8].take (19 : Int).toNat).length ≤ cb) := Aside0.mk hC7
  clear hA hC7
  replace hcut : ∀ W : World, (Instr.slice 29 (.slice (some ⟨gb, 0, none⟩) 20 cb) none (some (.int .i64 19)) none).run Tryd.prog W = .ok (.slice (some ⟨gb, 0, none⟩) 19 cb) W := hcut
  go_upto_region 6 with (first
    | (go_at_call 13; (refine (ip_Parse.calls (some ⟨gb, 0, none⟩) cb ([69, 0, 0, 20, 0, 0, 0, 0, 64, 17, 96, 201, 10, 0, 0, 1, 8, 8, 8, 8].take (19 : Int).toNat) 0 0 false false 0 0 0 0 0 [] [] 2 _ K19.out C19.out known_p5).mono ?_); rintro e' w6 ⟨v9, v10, rfl, ho9, ho10, hb⟩; obtain ⟨ap5, cap5, rfl⟩ := Kd.R_slice ho9; obtain ⟨bp5, cbp5, rfl⟩ := Kd.R_slice ho10; clear ho9 ho10; have n1_ := Aside0.mk (HD.out.trans (hb.mono HD.out.size)); clear HD hb; have HD := n1_; clear n1_)
    | (refine wpList_store_row rfl 34 (.tmp 5) (.tmp 37) rfl w6.heap.size #[.int .i64 0, .int .i64 0, .bool false, .bool false, .int .i64 0, .int .i64 0, .int .i64 0, .int .u32 0, .int .u32 0, .slice ap5 0 cap5, .slice bp5 0 cbp5] (by rfl) (by rfl) 34 #[.int .i64 0, .int .i64 0, .bool false, .bool false, .int .i64 0, .int .i64 0, .int .i64 0, .int .u32 0, .int .u32 0, .slice none 0 0, .slice none 0 0] (heap_alloc_new _ _) (by kernel_rfl) rfl (by kernel_rfl) ?_))
  clear K19 C19 hcut
  obtain ⟨W6, hW⟩ : ∃ W, W = (w6.alloc (.cells #[.int .i64 0, .int .i64 0, .bool false, .bool false, .int .i64 0, .int .i64 0, .int .i64 0, .int .u32 0, .int .u32 0, .slice none 0 0, .slice none 0 0] 34 (0, 0))).setRow w6.heap.size #[.int .i64 0, .int .i64 0, .bool false, .bool false, .int .i64 0, .int .i64 0, .int .i64 0, .int .u32 0, .int .u32 0, .slice ap5 0 cap5, .slice bp5 0 cbp5] := ⟨_, rfl⟩
  have hp := box_put2 HD.out #[.int .i64 0, .int .i64 0, .bool false, .bool false, .int .i64 0, .int .i64 0, .int .i64 0, .int .u32 0, .int .u32 0, .slice none 0 0, .slice none 0 0] #[.int .i64 0, .int .i64 0, .bool false, .bool false, .int .i64 0, .int .i64 0, .int .i64 0, .int .u32 0, .int .u32 0, .slice ap5 0 cap5, .slice bp5 0 cbp5] 34
  rw [← hW] at hp
  clear HD
  have HD := Aside0.mk hp.1
  rw [← hW]
  clear hp hW
  have n_ := Aside0.mk (Kd.C_below KB.out HD.out)
  clear KB
  have KB := n_
  clear n_
  have n_ := Aside0.mk (blk_below X3.out HD.out)
  clear X3
  have X3 := n_
  clear n_
  have n_ := Aside0.mk (HB.out.trans (HD.out.mono HB.out.size))
  clear HB HD
  have HB := n_
  clear n_
  have HD := Aside0.mk (Below.refl W6.heap.size W6)
  go_upto_region 7 with (first
    | (go_at_call 14; (refine (bailiwickref1_Copy.calls 100 (some ⟨gb, 0, none⟩) cb [69, 0, 0, 20, 0, 0, 0, 0, 64, 17, 96, 201, 10, 0, 0, 1, 8, 8, 8, 8] [69, 0, 0, 20, 0, 0, 0, 0, 64, 17, 96, 201, 10, 0, 0, 1, 8, 8, 8, 8] _ KB.out CB.out known_copy).mono ?_); rintro e' w7 ⟨v7, rfl, ho, hb⟩; have HO := Aside0.mk ho; clear ho; have n1_ := Aside0.mk (HD.out.trans (hb.mono HD.out.size)); clear HD hb; have HD := n1_; clear n1_))
  obtain ⟨gc6, cc6, rfl, hg1, hg2, -⟩ := Kd.R_form HO.out (by decide)
  have hx := Kd.R_celln (0 : Int) HO.out 4 (by decide) (by decide)
  have hx1 : w7.cell? ⟨gc6, 4, none⟩ = some (.int .u8 0) := hx.1
  have hx2 : w7.frozen? ⟨gc6, 4, none⟩ = false := hx.2
  clear hx
  have hx3 : Go.bits .xor .u8 0 1 = 1 := by decide
  go_upto_region 8 with (fail)
  have h7 := Kd.R_reads' (Kd.R_put HO.out 4 (1 : Int)).1
  have n_ := Aside0.mk (below_set (j := 4) (v := .int .u8 1) HD.out hg1)
  have K7 : Aside0 (Kd.C (Kd.int .u8) (w7.setCell ⟨gc6, 4, none⟩ (.int .u8 1)) (some ⟨gc6, 0, none⟩) ([69, 0, 0, 20, 1, 0, 0, 0, 64, 17, 96, 201, 10, 0, 0, 1, 8, 8, 8, 8] : List Int).length [69, 0, 0, 20, 1, 0, 0, 0, 64, 17, 96, 201, 10, 0, 0, 1, 8, 8, 8, 8]) := ⟨h7.2.2⟩
  have C7 : Aside0 (([69, 0, 0, 20, 1, 0, 0, 0, 64, 17, 96, 201, 10, 0, 0, 1, 8, 8, 8, 8] : List Int).length ≤ cc6) := ⟨h7.2.1⟩
  clear HD HO hx1 hx2 hg1 hg2 h7
  have HD := n_
  clear n_
  generalize (w7.setCell ⟨gc6, 4, none⟩ (.int .u8 1)) = W7 at HD K7 ⊢
  have n_ := Aside0.mk (Kd.C_below KB.out HD.out)
  clear KB
  have KB := n_
  clear n_
  have n_ := Aside0.mk (blk_below X3.out HD.out)
  clear X3
  have X3 := n_
  clear n_
  have n_ := Aside0.mk (HB.out.trans (HD.out.mono HB.out.size))
  clear HB HD
  have HB := n_
  clear n_
  have HD := Aside0.mk (Below.refl W7.heap.size W7)
  go_upto_region 9 with (first
    | (go_at_call 13; (refine (ip_Parse.calls (some ⟨gc6, 0, none⟩) cc6 [69, 0, 0, 20, 1, 0, 0, 0, 64, 17, 96, 201, 10, 0, 0, 1, 8, 8, 8, 8] 0 0 false false 0 0 0 0 0 [] [] 5 _ K7.out C7.out known_p8).mono ?_); rintro e' w8 ⟨v9, v10, rfl, ho9, ho10, hb⟩; obtain ⟨ap8, cap8, rfl⟩ := Kd.R_slice ho9; obtain ⟨bp8, cbp8, rfl⟩ := Kd.R_slice ho10; clear ho9 ho10; have n1_ := Aside0.mk (HD.out.trans (hb.mono HD.out.size)); clear HD hb; have HD := n1_; clear n1_)
    | (refine wpList_store_row rfl 34 (.tmp 8) (.tmp 49) rfl w8.heap.size #[.int .i64 0, .int .i64 0, .bool false, .bool false, .int .i64 0, .int .i64 0, .int .i64 0, .int .u32 0, .int .u32 0, .slice ap8 0 cap8, .slice bp8 0 cbp8] (by rfl) (by rfl) 34 #[.int .i64 0, .int .i64 0, .bool false, .bool false, .int .i64 0, .int .i64 0, .int .i64 0, .int .u32 0, .int .u32 0, .slice none 0 0, .slice none 0 0] (heap_alloc_new _ _) (by kernel_rfl) rfl (by kernel_rfl) ?_))
  clear K7 C7
  obtain ⟨W8, hW⟩ : ∃ W, W = (w8.alloc (.cells #[.int .i64 0, .int .i64 0, .bool false, .bool false, .int .i64 0, .int .i64 0, .int .i64 0, .int .u32 0, .int .u32 0, .slice none 0 0, .slice none 0 0] 34 (0, 0))).setRow w8.heap.size #[.int .i64 0, .int .i64 0, .bool false, .bool false, .int .i64 0, .int .i64 0, .int .i64 0, .int .u32 0, .int .u32 0, .slice ap8 0 cap8, .slice bp8 0 cbp8] := ⟨_, rfl⟩
  have hp := box_put2 HD.out #[.int .i64 0, .int .i64 0, .bool false, .bool false, .int .i64 0, .int .i64 0, .int .i64 0, .int .u32 0, .int .u32 0, .slice none 0 0, .slice none 0 0] #[.int .i64 0, .int .i64 0, .bool false, .bool false, .int .i64 0, .int .i64 0, .int .i64 0, .int .u32 0, .int .u32 0, .slice ap8 0 cap8, .slice bp8 0 cbp8] 34
  rw [← hW] at hp
  clear HD
  have HD := Aside0.mk hp.1
  rw [← hW]
  clear hp hW
  have n_ := Aside0.mk (Kd.C_below KB.out HD.out)
  clear KB
  have KB := n_
  clear n_
  have n_ := Aside0.mk (blk_below X3.out HD.out)
  clear X3
  have X3 := n_
  clear n_
  have n_ := Aside0.mk (HB.out.trans (HD.out.mono HB.out.size))
  clear HB HD
  have HB := n_
  clear n_
  have HD := Aside0.mk (Below.refl W8.heap.size W8)
  go_upto_region 10 with (first
    | (go_at_call 14; (refine (bailiwickref1_Copy.calls 100 (some ⟨gb, 0, none⟩) cb [69, 0, 0, 20, 0, 0, 0, 0, 64, 17, 96, 201, 10, 0, 0, 1, 8, 8, 8, 8] [69, 0, 0, 20, 0, 0, 0, 0, 64, 17, 96, 201, 10, 0, 0, 1, 8, 8, 8, 8] _ KB.out CB.out known_copy).mono ?_); rintro e' w9 ⟨v7, rfl, ho, hb⟩; have HO := Aside0.mk ho; clear ho; have n1_ := Aside0.mk (HD.out.trans (hb.mono HD.out.size)); clear HD hb; have HD := n1_; clear n1_))
  obtain ⟨gc9, cc9, rfl, hg1, hg2, -⟩ := Kd.R_form HO.out (by decide)
  have hx := Kd.R_celln (0 : Int) HO.out 0 (by decide) (by decide)
  have hx1 : w9.cell? ⟨gc9, 0, none⟩ = some (.int .u8 69) := hx.1
  have hx2 : w9.frozen? ⟨gc9, 0, none⟩ = false := hx.2
  clear hx
  go_upto_region 11 with (fail)
  have h7 := Kd.R_reads' (Kd.R_put HO.out 0 (70 : Int)).1
  have n_ := Aside0.mk (below_set (j := 0) (v := .int .u8 70) HD.out hg1)
  have K7 : Aside0 (Kd.C (Kd.int .u8) (w9.setCell ⟨gc9, 0, none⟩ (.int .u8 70)) (some ⟨gc9, 0, none⟩) ([70, 0, 0, 20, 0, 0, 0, 0, 64, 17, 96, 201, 10, 0, 0, 1, 8, 8, 8, 8] : List Int).length [70, 0, 0, 20, 0, 0, 0, 0, 64, 17, 96, 201, 10, 0, 0, 1, 8, 8, 8, 8]) := ⟨h7.2.2⟩
  have C7 : Aside0 (([70, 0, 0, 20, 0, 0, 0, 0, 64, 17, 96, 201, 10, 0, 0, 1, 8, 8, 8, 8] : List Int).length ≤ cc9) := ⟨h7.2.1⟩
  clear HD HO hx1 hx2 hg1 hg2 h7
  have HD := n_
  clear n_
  generalize (w9.setCell ⟨gc9, 0, none⟩ (.int .u8 70)) = W9 at HD K7 ⊢
  have n_ := Aside0.mk (Kd.C_below KB.out HD.out)
  clear KB
  have KB := n_
  clear n_
  have n_ := Aside0.mk (blk_below X3.out HD.out)
  clear X3
  have X3 := n_
  clear n_
  have n_ := Aside0.mk (HB.out.trans (HD.out.mono HB.out.size))
  clear HB HD
  have HB := n_
  clear n_
  have HD := Aside0.mk (Below.refl W9.heap.size W9)
  go_upto_region 12 with (first
    | (go_at_call 13; (refine (ip_Parse.calls (some ⟨gc9, 0, none⟩) cc9 [70, 0, 0, 20, 0, 0, 0, 0, 64, 17, 96, 201, 10, 0, 0, 1, 8, 8, 8, 8] 0 0 false false 0 0 0 0 0 [] [] 2 _ K7.out C7.out known_pb).mono ?_); rintro e' w10 ⟨v9, v10, rfl, ho9, ho10, hb⟩; obtain ⟨apb, capb, rfl⟩ := Kd.R_slice ho9; obtain ⟨bpb, cbpb, rfl⟩ := Kd.R_slice ho10; clear ho9 ho10; have n1_ := Aside0.mk (HD.out.trans (hb.mono HD.out.size)); clear HD hb; have HD := n1_; clear n1_)
    | (refine wpList_store_row rfl 34 (.tmp 10) (.tmp 58) rfl w10.heap.size #[.int .i64 0, .int .i64 0, .bool false, .bool false, .int .i64 0, .int .i64 0, .int .i64 0, .int .u32 0, .int .u32 0, .slice apb 0 capb, .slice bpb 0 cbpb] (by rfl) (by rfl) 34 #[.int .i64 0, .int .i64 0, .bool false, .bool false, .int .i64 0, .int .i64 0, .int .i64 0, .int .u32 0, .int .u32 0, .slice none 0 0, .slice none 0 0] (heap_alloc_new _ _) (by kernel_rfl) rfl (by kernel_rfl) ?_))
  clear K7 C7
  obtain ⟨W10, hW⟩ : ∃ W, W = (w10.alloc (.cells #[.int .i64 0, .int .i64 0, .bool false, .bool false, .int .i64 0, .int .i64 0, .int .i64 0, .int .u32 0, .int .u32 0, .slice none 0 0, .slice none 0 0] 34 (0, 0))).setRow w10.heap.size #[.int .i64 0, .int .i64 0, .bool false, .bool false, .int .i64 0, .int .i64 0, .int .i64 0, .int .u32 0, .int .u32 0, .slice apb 0 capb, .slice bpb 0 cbpb] := ⟨_, rfl⟩
  have hp := box_put2 HD.out #[.int .i64 0, .int .i64 0, .bool false, .bool false, .int .i64 0, .int .i64 0, .int .i64 0, .int .u32 0, .int .u32 0, .slice none 0 0, .slice none 0 0] #[.int .i64 0, .int .i64 0, .bool false, .bool false, .int .i64 0, .int .i64 0, .int .i64 0, .int .u32 0, .int .u32 0, .slice apb 0 capb, .slice bpb 0 cbpb] 34
  rw [← hW] at hp
  clear HD
  have HD := Aside0.mk hp.1
  rw [← hW]
  clear hp hW
  have n_ := Aside0.mk (Kd.C_below KB.out HD.out)
  clear KB
  have KB := n_
  clear n_
  have n_ := Aside0.mk (blk_below X3.out HD.out)
  clear X3
  have X3 := n_
  clear n_
  have n_ := Aside0.mk (HB.out.trans (HD.out.mono HB.out.size))
  clear HB HD
  have HB := n_
  clear n_
  go_upto_region 13 with (first
    | (go_at_call 8; (refine (ip_Read.walk ⟨#[49, 48, 46, 48, 46, 48, 46, 49]⟩ m (by decide) _ (HT.out.below HB.out) ((HB.out.cell (World.block_lt_of_cell? w _ HM.out)).trans HM.out) (HE.out.below HB.out)).mono ?_); rintro e' w12 ⟨he, hb⟩; rw [known_r1] at he; subst he; have n1_ := Aside0.mk (HB.out.trans (hb.mono HB.out.size)); have n2_ := Aside0.mk (Kd.C_below KB.out hb); have n3_ := Aside0.mk (blk_below X3.out hb); clear HB KB X3 hb; have HB := n1_; have KB := n2_; have X3 := n3_; clear n1_ n2_ n3_))
  go_upto_region 14 with (first
    | (go_at_call 8; (refine (ip_Read.walk ⟨#[49, 48, 46, 48, 46, 48, 46, 48, 49]⟩ m (by decide) _ (HT.out.below HB.out) ((HB.out.cell (World.block_lt_of_cell? w _ HM.out)).trans HM.out) (HE.out.below HB.out)).mono ?_); rintro e' w13 ⟨he, hb⟩; rw [known_r2] at he; subst he; have n1_ := Aside0.mk (HB.out.trans (hb.mono HB.out.size)); have n2_ := Aside0.mk (Kd.C_below KB.out hb); have n3_ := Aside0.mk (blk_below X3.out hb); clear HB KB X3 hb; have HB := n1_; have KB := n2_; have X3 := n3_; clear n1_ n2_ n3_))
  go_upto_region 15 with (first
    | (go_at_call 8; (refine (ip_Read.walk ⟨#[49, 46, 50, 46, 51]⟩ m (by decide) _ (HT.out.below HB.out) ((HB.out.cell (World.block_lt_of_cell? w _ HM.out)).trans HM.out) (HE.out.below HB.out)).mono ?_); rintro e' w14 ⟨he, hb⟩; rw [known_r3] at he; subst he; have n1_ := Aside0.mk (HB.out.trans (hb.mono HB.out.size)); have n2_ := Aside0.mk (Kd.C_below KB.out hb); have n3_ := Aside0.mk (blk_below X3.out hb); clear HB KB X3 hb; have HB := n1_; have KB := n2_; have X3 := n3_; clear n1_ n2_ n3_))
  refine known_r15 ap4 bp4 cap4 cbp4 w5.heap.size w14 X3.out ?hsh _ ?_
  case hsh =>
    intro W hb
    have h := ip_Show.walk 167772161 (by decide) (by decide) W (HT.out.below (HB.out.trans (hb.mono HB.out.size)))
    rw [show (⟨(showL 167772161).toArray⟩ : ByteArray) = ⟨#[49, 48, 46, 48, 46, 48, 46, 49]⟩ from known_show] at h
    exact h
  intro y_72 y_73 y_74 y_75 y_76 y_77 y_78 y_79 y_80 y_81 y_82 y_83 y_84 y_85 y_86 y_87 y_88 y_89 y_90 y_91 y_92 y_93 y_94 y_95 y_96 y_97 y_98 y_99 y_100 y_101 y_102 y_103 y_104 y_105 y_106 y_107 y_108 y_109 W hb
  have n_ := Aside0.mk (HB.out.trans (hb.mono HB.out.size))
  clear HB hb
  have HB := n_
  clear n_
  go_wp2_with (fail)
  go_ret
  exact ⟨rfl, HB.out⟩
end Go.Proofs.YthnhpbplglmmmaaDoor.Pure

