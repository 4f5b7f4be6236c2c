/- FrameKnown: chapter 6's examples. No condition: it takes nothing. -/
--@ hand
import Derived.Test.YtljnnhloinbjhaaPframeRead
import Derived.Test.YtljnnhloinbjhaaPbailiwickplay
import Derived.Test.YtljnnhloinbjhaaPbailiwicklaw6
import Derived.Test.YtljnnhloinbjhaaPureLibF
import Derived.Test.YtljnnhloinbjhaaPbailiwickref2Parse
import Derived.Test.YtljnnhloinbjhaaPbailiwickref2Build
import Derived.Lib.SlBytesConst
namespace Go.Proofs.Ytljnnhloinbjhaa.Pure
open Go.RowKit Go.Proofs.Ytljnnhloinbjhaa.P Go.Proofs.YtljnnhloinbjhaaW.PrintWords Go.Proofs.YtljnnhloinbjhaaW.PrintLast Go.Proofs.YtljnnhloinbjhaaW.PrintMore
set_option linter.unusedVariables false
set_option linter.unusedSimpArgs false
theorem known_p : bailiwickref2_Parse.f 100 [69, 0, 0, 30, 0, 0, 0, 0, 64, 17, 96, 191, 10, 0, 0, 1, 8, 8, 8, 8, 3, 232, 0, 53, 0, 10, 121, 67, 104, 105] = some (0, 0, false, false, 0, 64, 17, 167772161, 134744072, [], [3, 232, 0, 53, 0, 10, 121, 67, 104, 105], 0) := by kernel_rfl
theorem known_b1 : bailiwickref2_Build.f 100 0 0 false true 0 64 17 167772161 134744072 [] [3, 232, 0, 53, 0, 10, 121, 67, 104, 105] = some ([69, 0, 0, 30, 0, 0, 32, 0, 64, 17, 64, 191, 10, 0, 0, 1, 8, 8, 8, 8, 3, 232, 0, 53, 0, 10, 121, 67, 104, 105], 0) := by kernel_rfl
theorem known_b2 : bailiwickref2_Build.f 100 0 0 false false 0 64 47 167772161 134744072 [] [3, 232, 0, 53, 0, 10, 121, 67, 104, 105] = some ([69, 0, 0, 30, 0, 0, 0, 0, 64, 47, 96, 161, 10, 0, 0, 1, 8, 8, 8, 8, 3, 232, 0, 53, 0, 10, 121, 67, 104, 105], 0) := by kernel_rfl
theorem known_6 : frame_Read.f 100 [69, 0, 0, 30, 0, 0, 32, 0, 64, 17, 64, 191, 10, 0, 0, 1, 8, 8, 8, 8, 3, 232, 0, 53, 0, 10, 121, 67, 104, 105] = some (0, 0, false, false, 0, 0, 0, 0, 0, [], [], 0, 0, 0, 0, 0, 0, 0, 0, 0, 0, 0, 3) := by kernel_rfl
theorem known_8 : frame_Read.f 100 [69, 0, 0, 30, 0, 0, 0, 0, 64, 47, 96, 161, 10, 0, 0, 1, 8, 8, 8, 8, 3, 232, 0, 53, 0, 10, 121, 67, 104, 105] = some (0, 0, false, false, 0, 0, 0, 0, 0, [], [], 0, 0, 0, 0, 0, 0, 0, 0, 0, 0, 0, 4) := by kernel_rfl
theorem known_10 : frame_Read.f 100 [69, 0, 0, 30, 0, 0, 0, 0, 64, 17, 96, 191, 10, 0, 0, 1, 8, 8, 8, 8, 3, 232, 0, 53, 0, 10, 121, 67, 104, 104] = some (0, 0, false, false, 0, 0, 0, 0, 0, [], [], 0, 0, 0, 0, 0, 0, 0, 0, 0, 0, 0, 2) := by kernel_rfl
theorem known_step {w wr : World} {p tp t : Nat} {P : Array Value} (Z cs : Array Value) (hp : w.heap[p]? = some (.cells P tp (0, 0))) (hb : Below w.heap.size w wr) : ((wr.alloc (.cells Z t)).setRow wr.heap.size cs).heap[p]? = some (.cells P tp (0, 0)) :=
  (setRow_other _ _ p _ (Nat.ne_of_lt (blk_lt (blk_below hp hb)))).trans (blk_alloc (blk_below hp hb) _)
theorem known_below {W w wr : World} {t : Nat} (Z cs : Array Value) (hB : Below W.heap.size W w) (hb : Below w.heap.size w wr) : Below W.heap.size W ((wr.alloc (.cells Z t)).setRow wr.heap.size cs) :=
  below_row (below_alloc (below_step hB hb) _) (below_size (below_step hB hb))
theorem known_keep {w wr : World} {t e base : Nat} {v : Value} {xs : List Int} (Z cs : Array Value) (h : Kd.R (Kd.int .u8) e w base (fun _ => True) v xs) (hb : Below w.heap.size w wr) (ht : ∀ q, q ∈ e :: (Kd.int .u8).E → q ≠ t) : Kd.R (Kd.int .u8) e ((wr.alloc (.cells Z t)).setRow wr.heap.size cs) base (fun _ => True) v xs :=
  Kd.R_mono (Kd.R_step (Kd.R_types (Kd.R_alloc (Kd.R_below h hb) (.cells Z t)) (heap_alloc_new wr (.cells Z t)) ht) (fun k hk _ => setRow_other _ _ _ _ hk.2)) (fun _ _ => trivial)
set_option maxHeartbeats 8000000 in
set_option maxRecDepth 100000 in
theorem FrameKnown (W : World) : Calls Try.prog 3 #[] W fun e w' => e = .returned (.bool true) ∧ Below W.heap.size W w' := by
  have kc := fun (w : World) (C : Array Value) (n c : Nat) => Lib.run_convert_bytes_const (P := Try.prog) w 23 5 C n c Try.underlying23 Try.underlying5
  have hu27 := Try.underlying27
  have hu29 := Try.underlying29
  have hu37 := Try.underlying37
  go_enter Try.func3, Try.ntmps3
  go_wp2_with (fail)
  ((refine (bailiwicklaw6_awake.calls true _ rfl).mono ?_); rintro e w1 ⟨rfl, hb⟩; have HB1 := Aside0.mk hb; clear hb)
  go_upto_region 4 with (go_at_call 22; (refine (bailiwickplay_Datagram.calls 60 167772161 1000 134744072 53 64 _ _ [104, 105] [69, 0, 0, 30, 0, 0, 0, 0, 64, 17, 96, 191, 10, 0, 0, 1, 8, 8, 8, 8, 3, 232, 0, 53, 0, 10, 121, 67, 104, 105] _ ?s1 ?s2 bailiwicklaw6_awake.data).mono ?_); (case s1 => exact bailiwicklaw6_awake.C_block (heap_alloc_new _ _) (by decide)); (case s2 => decide); rintro e w2 ⟨v0, rfl, ho, hb⟩; have HB2 := Aside0.mk (below_step (below_alloc HB1.out _) hb); clear hb; have HO0 := Aside0.mk ho; clear ho)
  obtain ⟨gb, cb, rfl, hgb, hgb2, -⟩ := Kd.R_form HO0.out (by decide)
  have HGB := Aside0.mk (Nat.le_trans (below_size (below_alloc HB1.out _)) hgb)
  have HO2 := Aside0.mk (Kd.R_mono (ok' := fun _ => True) HO0.out (fun _ _ => trivial))
  clear HO0 HB1 hgb hgb2
  go_upto_region 5 with (go_at_call 23; (refine (bailiwickref2_Parse.calls 100 (some ⟨gb, 0, none⟩) cb [69, 0, 0, 30, 0, 0, 0, 0, 64, 17, 96, 191, 10, 0, 0, 1, 8, 8, 8, 8, 3, 232, 0, 53, 0, 10, 121, 67, 104, 105] 0 0 false false 0 64 17 167772161 134744072 [] [3, 232, 0, 53, 0, 10, 121, 67, 104, 105] 0 w2 (Kd.R_reads' HO2.out).2.2 (Kd.R_reads' HO2.out).2.1 known_p).mono ?_); rintro e w3 ⟨v9, v10, rfl, ho9, ho10, hb⟩; obtain ⟨A9, c9, rfl⟩ := Kd.R_slice ho9; obtain ⟨A10, c10, rfl⟩ := Kd.R_slice ho10; have HB3 := Aside0.mk (below_step HB2.out hb); have HO3 := Aside0.mk (Kd.R_below HO2.out hb); have K9 := Aside0.mk (Kd.R_mono (ok' := fun _ => True) ho9 (fun _ _ => trivial)); have K10 := Aside0.mk (Kd.R_mono (ok' := fun _ => True) ho10 (fun _ _ => trivial)); clear hb ho9 ho10 HO2 HB2)
  obtain ⟨p, hp⟩ : ∃ p, p = w3.heap.size := ⟨_, rfl⟩
  have HPW := Aside0.mk (show W.heap.size ≤ p by have := below_size HB3.out; omega)
  have HP := Aside0.mk (heap_alloc_new w3 (.cells #[.int .i64 0, .int .i64 0, .bool false, .bool false, .int .i64 0, .int .i64 64, .int .i64 17, .int .u32 167772161, .int .u32 134744072, .slice A9 0 c9, .slice A10 10 c10] 29))
  have HB := Aside0.mk (below_alloc HB3.out (.cells #[.int .i64 0, .int .i64 0, .bool false, .bool false, .int .i64 0, .int .i64 64, .int .i64 17, .int .u32 167772161, .int .u32 134744072, .slice A9 0 c9, .slice A10 10 c10] 29))
  have HO := Aside0.mk (Kd.R_alloc HO3.out (.cells #[.int .i64 0, .int .i64 0, .bool false, .bool false, .int .i64 0, .int .i64 64, .int .i64 17, .int .u32 167772161, .int .u32 134744072, .slice A9 0 c9, .slice A10 10 c10] 29))
  have H9 := Aside0.mk (Kd.R_alloc K9.out (.cells #[.int .i64 0, .int .i64 0, .bool false, .bool false, .int .i64 0, .int .i64 64, .int .i64 17, .int .u32 167772161, .int .u32 134744072, .slice A9 0 c9, .slice A10 10 c10] 29))
  have H10 := Aside0.mk (Kd.R_alloc K10.out (.cells #[.int .i64 0, .int .i64 0, .bool false, .bool false, .int .i64 0, .int .i64 64, .int .i64 17, .int .u32 167772161, .int .u32 134744072, .slice A9 0 c9, .slice A10 10 c10] 29))
  rw [← hp] at HP ⊢
  clear HB3 HO3 K9 K10 hp
  generalize (w3.alloc (.cells #[.int .i64 0, .int .i64 0, .bool false, .bool false, .int .i64 0, .int .i64 64, .int .i64 17, .int .u32 167772161, .int .u32 134744072, .slice A9 0 c9, .slice A10 10 c10] 29)) = w4 at HP HB HO H9 H10 ⊢
  have c3 : w4.cell? ⟨p, 3, none⟩ = some (.bool false) := (blk_cell HP.out 3).trans rfl
  have f3 : w4.frozen? ⟨p, 3, none⟩ = false := blk_frozen HP.out 3
  go_upto_region 6 with (fail)
  clear c3 f3
  have HPn := Aside0.mk (blk_put (cs' := #[.int .i64 0, .int .i64 0, .bool false, .bool true, .int .i64 0, .int .i64 64, .int .i64 17, .int .u32 167772161, .int .u32 134744072, .slice A9 0 c9, .slice A10 10 c10]) HP.out 3 (.bool true) rfl)
  have HBn := Aside0.mk (below_set (j := 3) (v := .bool true) HB.out HPW.out)
  have HOn := Aside0.mk (Kd.R_set HO.out HP.out (by decide) 3 (.bool true))
  have H9n := Aside0.mk (Kd.R_set H9.out HP.out (by decide) 3 (.bool true))
  have H10n := Aside0.mk (Kd.R_set H10.out HP.out (by decide) 3 (.bool true))
  clear HP HB HO H9 H10
  generalize (w4.setCell ⟨p, 3, none⟩ (.bool true)) = w5 at HPn HBn HOn H9n H10n ⊢
  have HP := HPn
  have HB := HBn
  have HO := HOn
  have H9 := H9n
  have H10 := H10n
  clear HPn HBn HOn H9n H10n
  go_upto_region 7 with (first
    | (refine wpList_load_row rfl 29 (.tmp 2) rfl p rfl 29 #[.int .i64 0, .int .i64 0, .bool false, .bool true, .int .i64 0, .int .i64 64, .int .i64 17, .int .u32 167772161, .int .u32 134744072, .slice A9 0 c9, .slice A10 10 c10] (0, 0) _ HP.out Try.underlying29 rfl (by kernel_rfl) ?_)
    | (go_at_call 24; (refine (bailiwickref2_Build.calls 100 0 0 false true 0 64 17 167772161 134744072 A9 c9 [] A10 c10 [3, 232, 0, 53, 0, 10, 121, 67, 104, 105] [69, 0, 0, 30, 0, 0, 32, 0, 64, 17, 64, 191, 10, 0, 0, 1, 8, 8, 8, 8, 3, 232, 0, 53, 0, 10, 121, 67, 104, 105] 0 _ (Kd.R_reads' H9.out).2.2 (Kd.R_reads' H9.out).2.1 (Kd.R_reads' H10.out).2.2 (Kd.R_reads' H10.out).2.1 known_b1).mono ?_); rintro e w6 ⟨v0, rfl, ho, hb⟩; obtain ⟨A1, c1, rfl⟩ := Kd.R_slice ho; have HRB := Aside0.mk (Kd.R_reads' ho); have HPn := Aside0.mk (blk_below HP.out hb); have HBn := Aside0.mk (below_step HB.out hb); have HOn := Aside0.mk (Kd.R_below HO.out hb); have H9n := Aside0.mk (Kd.R_below H9.out hb); have H10n := Aside0.mk (Kd.R_below H10.out hb); clear hb ho HP HB HO H9 H10; have HP := HPn; have HB := HBn; have HO := HOn; have H9 := H9n; have H10 := H10n; clear HPn HBn HOn H9n H10n))
  go_upto_region 8 with (first
    | (go_at_call 25; (refine (frame_Read.calls 100 A1 c1 [69, 0, 0, 30, 0, 0, 32, 0, 64, 17, 64, 191, 10, 0, 0, 1, 8, 8, 8, 8, 3, 232, 0, 53, 0, 10, 121, 67, 104, 105] 0 0 false false 0 0 0 0 0 [] [] 0 0 0 0 0 0 0 0 0 0 0 3 w6 HRB.out.2.2 HRB.out.2.1 known_6).mono ?_); rintro e wr6 ⟨v9, v10, rfl, ho9, ho10, hb⟩; obtain ⟨a6, ca6, rfl⟩ := Kd.R_slice ho9; obtain ⟨b6, cb6, rfl⟩ := Kd.R_slice ho10; have HBR := Aside0.mk hb; clear hb ho9 ho10)
    | (refine wpList_store_row rfl 37 (.tmp 6) (.tmp 33) rfl wr6.heap.size #[.int .i64 0, .int .i64 0, .bool false, .bool false, .int .i64 0, .int .i64 0, .int .i64 0, .int .u32 0, .int .u32 0, .slice a6 0 ca6, .slice b6 0 cb6, .int .i64 0, .int .u32 0, .int .i64 0, .int .u32 0, .int .i64 0, .int .i64 0, .int .i64 0, .int .u32 0, .int .i64 0, .int .u32 0, .int .i64 0] (by rfl) (by rfl) 37 #[.int .i64 0, .int .i64 0, .bool false, .bool false, .int .i64 0, .int .i64 0, .int .i64 0, .int .u32 0, .int .u32 0, .slice none 0 0, .slice none 0 0, .int .i64 0, .int .u32 0, .int .i64 0, .int .u32 0, .int .i64 0, .int .i64 0, .int .i64 0, .int .u32 0, .int .i64 0, .int .u32 0, .int .i64 0] (by exact heap_alloc_new _ _) (by kernel_rfl) rfl (by kernel_rfl) ?_))
  have HPn := Aside0.mk (known_step (t := 37) #[.int .i64 0, .int .i64 0, .bool false, .bool false, .int .i64 0, .int .i64 0, .int .i64 0, .int .u32 0, .int .u32 0, .slice none 0 0, .slice none 0 0, .int .i64 0, .int .u32 0, .int .i64 0, .int .u32 0, .int .i64 0, .int .i64 0, .int .i64 0, .int .u32 0, .int .i64 0, .int .u32 0, .int .i64 0] #[.int .i64 0, .int .i64 0, .bool false, .bool false, .int .i64 0, .int .i64 0, .int .i64 0, .int .u32 0, .int .u32 0, .slice a6 0 ca6, .slice b6 0 cb6, .int .i64 0, .int .u32 0, .int .i64 0, .int .u32 0, .int .i64 0, .int .i64 0, .int .i64 0, .int .u32 0, .int .i64 0, .int .u32 0, .int .i64 0] HP.out HBR.out)
  have HBn := Aside0.mk (known_below (t := 37) #[.int .i64 0, .int .i64 0, .bool false, .bool false, .int .i64 0, .int .i64 0, .int .i64 0, .int .u32 0, .int .u32 0, .slice none 0 0, .slice none 0 0, .int .i64 0, .int .u32 0, .int .i64 0, .int .u32 0, .int .i64 0, .int .i64 0, .int .i64 0, .int .u32 0, .int .i64 0, .int .u32 0, .int .i64 0] #[.int .i64 0, .int .i64 0, .bool false, .bool false, .int .i64 0, .int .i64 0, .int .i64 0, .int .u32 0, .int .u32 0, .slice a6 0 ca6, .slice b6 0 cb6, .int .i64 0, .int .u32 0, .int .i64 0, .int .u32 0, .int .i64 0, .int .i64 0, .int .i64 0, .int .u32 0, .int .i64 0, .int .u32 0, .int .i64 0] HB.out HBR.out)
  have HOn := Aside0.mk (known_keep (t := 37) #[.int .i64 0, .int .i64 0, .bool false, .bool false, .int .i64 0, .int .i64 0, .int .i64 0, .int .u32 0, .int .u32 0, .slice none 0 0, .slice none 0 0, .int .i64 0, .int .u32 0, .int .i64 0, .int .u32 0, .int .i64 0, .int .i64 0, .int .i64 0, .int .u32 0, .int .i64 0, .int .u32 0, .int .i64 0] #[.int .i64 0, .int .i64 0, .bool false, .bool false, .int .i64 0, .int .i64 0, .int .i64 0, .int .u32 0, .int .u32 0, .slice a6 0 ca6, .slice b6 0 cb6, .int .i64 0, .int .u32 0, .int .i64 0, .int .u32 0, .int .i64 0, .int .i64 0, .int .i64 0, .int .u32 0, .int .i64 0, .int .u32 0, .int .i64 0] HO.out HBR.out (by decide))
  have H9n := Aside0.mk (known_keep (t := 37) #[.int .i64 0, .int .i64 0, .bool false, .bool false, .int .i64 0, .int .i64 0, .int .i64 0, .int .u32 0, .int .u32 0, .slice none 0 0, .slice none 0 0, .int .i64 0, .int .u32 0, .int .i64 0, .int .u32 0, .int .i64 0, .int .i64 0, .int .i64 0, .int .u32 0, .int .i64 0, .int .u32 0, .int .i64 0] #[.int .i64 0, .int .i64 0, .bool false, .bool false, .int .i64 0, .int .i64 0, .int .i64 0, .int .u32 0, .int .u32 0, .slice a6 0 ca6, .slice b6 0 cb6, .int .i64 0, .int .u32 0, .int .i64 0, .int .u32 0, .int .i64 0, .int .i64 0, .int .i64 0, .int .u32 0, .int .i64 0, .int .u32 0, .int .i64 0] H9.out HBR.out (by decide))
  have H10n := Aside0.mk (known_keep (t := 37) #[.int .i64 0, .int .i64 0, .bool false, .bool false, .int .i64 0, .int .i64 0, .int .i64 0, .int .u32 0, .int .u32 0, .slice none 0 0, .slice none 0 0, .int .i64 0, .int .u32 0, .int .i64 0, .int .u32 0, .int .i64 0, .int .i64 0, .int .i64 0, .int .u32 0, .int .i64 0, .int .u32 0, .int .i64 0] #[.int .i64 0, .int .i64 0, .bool false, .bool false, .int .i64 0, .int .i64 0, .int .i64 0, .int .u32 0, .int .u32 0, .slice a6 0 ca6, .slice b6 0 cb6, .int .i64 0, .int .u32 0, .int .i64 0, .int .u32 0, .int .i64 0, .int .i64 0, .int .i64 0, .int .u32 0, .int .i64 0, .int .u32 0, .int .i64 0] H10.out HBR.out (by decide))
  clear HP HB HBR HO H9 H10
  generalize ((wr6.alloc (.cells #[.int .i64 0, .int .i64 0, .bool false, .bool false, .int .i64 0, .int .i64 0, .int .i64 0, .int .u32 0, .int .u32 0, .slice none 0 0, .slice none 0 0, .int .i64 0, .int .u32 0, .int .i64 0, .int .u32 0, .int .i64 0, .int .i64 0, .int .i64 0, .int .u32 0, .int .i64 0, .int .u32 0, .int .i64 0] 37)).setRow wr6.heap.size #[.int .i64 0, .int .i64 0, .bool false, .bool false, .int .i64 0, .int .i64 0, .int .i64 0, .int .u32 0, .int .u32 0, .slice a6 0 ca6, .slice b6 0 cb6, .int .i64 0, .int .u32 0, .int .i64 0, .int .u32 0, .int .i64 0, .int .i64 0, .int .i64 0, .int .u32 0, .int .i64 0, .int .u32 0, .int .i64 0]) = x6 at HPn HBn HOn H9n H10n ⊢
  have HP := HPn
  have HB := HBn
  have HO := HOn
  have H9 := H9n
  have H10 := H10n
  clear HPn HBn HOn H9n H10n
  have c3 : x6.cell? ⟨p, 3, none⟩ = some (.bool true) := (blk_cell HP.out 3).trans rfl
  have f3 : x6.frozen? ⟨p, 3, none⟩ = false := blk_frozen HP.out 3
  go_upto_region 9 with (fail)
  clear c3 f3
  have HPn := Aside0.mk (blk_put (cs' := #[.int .i64 0, .int .i64 0, .bool false, .bool false, .int .i64 0, .int .i64 64, .int .i64 17, .int .u32 167772161, .int .u32 134744072, .slice A9 0 c9, .slice A10 10 c10]) HP.out 3 (.bool false) rfl)
  have HBn := Aside0.mk (below_set (j := 3) (v := .bool false) HB.out HPW.out)
  have HOn := Aside0.mk (Kd.R_set HO.out HP.out (by decide) 3 (.bool false))
  have H9n := Aside0.mk (Kd.R_set H9.out HP.out (by decide) 3 (.bool false))
  have H10n := Aside0.mk (Kd.R_set H10.out HP.out (by decide) 3 (.bool false))
  clear HP HB HO H9 H10
  generalize (x6.setCell ⟨p, 3, none⟩ (.bool false)) = w8 at HPn HBn HOn H9n H10n ⊢
  have HP := HPn
  have HB := HBn
  have HO := HOn
  have H9 := H9n
  have H10 := H10n
  clear HPn HBn HOn H9n H10n
  have c6 : w8.cell? ⟨p, 6, none⟩ = some (.int .i64 17) := (blk_cell HP.out 6).trans rfl
  have f6 : w8.frozen? ⟨p, 6, none⟩ = false := blk_frozen HP.out 6
  go_upto_region 10 with (fail)
  clear c6 f6
  have HPn := Aside0.mk (blk_put (cs' := #[.int .i64 0, .int .i64 0, .bool false, .bool false, .int .i64 0, .int .i64 64, .int .i64 47, .int .u32 167772161, .int .u32 134744072, .slice A9 0 c9, .slice A10 10 c10]) HP.out 6 (.int .i64 47) rfl)
  have HBn := Aside0.mk (below_set (j := 6) (v := .int .i64 47) HB.out HPW.out)
  have HOn := Aside0.mk (Kd.R_set HO.out HP.out (by decide) 6 (.int .i64 47))
  have H9n := Aside0.mk (Kd.R_set H9.out HP.out (by decide) 6 (.int .i64 47))
  have H10n := Aside0.mk (Kd.R_set H10.out HP.out (by decide) 6 (.int .i64 47))
  clear HP HB HO H9 H10
  generalize (w8.setCell ⟨p, 6, none⟩ (.int .i64 47)) = w8b at HPn HBn HOn H9n H10n ⊢
  have HP := HPn
  have HB := HBn
  have HO := HOn
  have H9 := H9n
  have H10 := H10n
  clear HPn HBn HOn H9n H10n
  go_upto_region 11 with (first
    | (refine wpList_load_row rfl 29 (.tmp 2) rfl p rfl 29 #[.int .i64 0, .int .i64 0, .bool false, .bool false, .int .i64 0, .int .i64 64, .int .i64 47, .int .u32 167772161, .int .u32 134744072, .slice A9 0 c9, .slice A10 10 c10] (0, 0) _ HP.out Try.underlying29 rfl (by kernel_rfl) ?_)
    | (go_at_call 24; (refine (bailiwickref2_Build.calls 100 0 0 false false 0 64 47 167772161 134744072 A9 c9 [] A10 c10 [3, 232, 0, 53, 0, 10, 121, 67, 104, 105] [69, 0, 0, 30, 0, 0, 0, 0, 64, 47, 96, 161, 10, 0, 0, 1, 8, 8, 8, 8, 3, 232, 0, 53, 0, 10, 121, 67, 104, 105] 0 _ (Kd.R_reads' H9.out).2.2 (Kd.R_reads' H9.out).2.1 (Kd.R_reads' H10.out).2.2 (Kd.R_reads' H10.out).2.1 known_b2).mono ?_); rintro e w8c ⟨v0, rfl, ho, hb⟩; obtain ⟨A2, c2, rfl⟩ := Kd.R_slice ho; have HRB := Aside0.mk (Kd.R_reads' ho); have HPn := Aside0.mk (blk_below HP.out hb); have HBn := Aside0.mk (below_step HB.out hb); have HOn := Aside0.mk (Kd.R_below HO.out hb); have H9n := Aside0.mk (Kd.R_below H9.out hb); have H10n := Aside0.mk (Kd.R_below H10.out hb); clear hb ho HP HB HO H9 H10; have HP := HPn; have HB := HBn; have HO := HOn; have H9 := H9n; have H10 := H10n; clear HPn HBn HOn H9n H10n))
  go_upto_region 12 with (first
    | (go_at_call 25; (refine (frame_Read.calls 100 A2 c2 [69, 0, 0, 30, 0, 0, 0, 0, 64, 47, 96, 161, 10, 0, 0, 1, 8, 8, 8, 8, 3, 232, 0, 53, 0, 10, 121, 67, 104, 105] 0 0 false false 0 0 0 0 0 [] [] 0 0 0 0 0 0 0 0 0 0 0 4 w8c HRB.out.2.2 HRB.out.2.1 known_8).mono ?_); rintro e wr8 ⟨v9, v10, rfl, ho9, ho10, hb⟩; obtain ⟨a8, ca8, rfl⟩ := Kd.R_slice ho9; obtain ⟨b8, cb8, rfl⟩ := Kd.R_slice ho10; have HBR := Aside0.mk hb; clear hb ho9 ho10)
    | (refine wpList_store_row rfl 37 (.tmp 8) (.tmp 45) rfl wr8.heap.size #[.int .i64 0, .int .i64 0, .bool false, .bool false, .int .i64 0, .int .i64 0, .int .i64 0, .int .u32 0, .int .u32 0, .slice a8 0 ca8, .slice b8 0 cb8, .int .i64 0, .int .u32 0, .int .i64 0, .int .u32 0, .int .i64 0, .int .i64 0, .int .i64 0, .int .u32 0, .int .i64 0, .int .u32 0, .int .i64 0] (by rfl) (by rfl) 37 #[.int .i64 0, .int .i64 0, .bool false, .bool false, .int .i64 0, .int .i64 0, .int .i64 0, .int .u32 0, .int .u32 0, .slice none 0 0, .slice none 0 0, .int .i64 0, .int .u32 0, .int .i64 0, .int .u32 0, .int .i64 0, .int .i64 0, .int .i64 0, .int .u32 0, .int .i64 0, .int .u32 0, .int .i64 0] (by exact heap_alloc_new _ _) (by kernel_rfl) rfl (by kernel_rfl) ?_))
  have HPn := Aside0.mk (known_step (t := 37) #[.int .i64 0, .int .i64 0, .bool false, .bool false, .int .i64 0, .int .i64 0, .int .i64 0, .int .u32 0, .int .u32 0, .slice none 0 0, .slice none 0 0, .int .i64 0, .int .u32 0, .int .i64 0, .int .u32 0, .int .i64 0, .int .i64 0, .int .i64 0, .int .u32 0, .int .i64 0, .int .u32 0, .int .i64 0] #[.int .i64 0, .int .i64 0, .bool false, .bool false, .int .i64 0, .int .i64 0, .int .i64 0, .int .u32 0, .int .u32 0, .slice a8 0 ca8, .slice b8 0 cb8, .int .i64 0, .int .u32 0, .int .i64 0, .int .u32 0, .int .i64 0, .int .i64 0, .int .i64 0, .int .u32 0, .int .i64 0, .int .u32 0, .int .i64 0] HP.out HBR.out)
  have HBn := Aside0.mk (known_below (t := 37) #[.int .i64 0, .int .i64 0, .bool false, .bool false, .int .i64 0, .int .i64 0, .int .i64 0, .int .u32 0, .int .u32 0, .slice none 0 0, .slice none 0 0, .int .i64 0, .int .u32 0, .int .i64 0, .int .u32 0, .int .i64 0, .int .i64 0, .int .i64 0, .int .u32 0, .int .i64 0, .int .u32 0, .int .i64 0] #[.int .i64 0, .int .i64 0, .bool false, .bool false, .int .i64 0, .int .i64 0, .int .i64 0, .int .u32 0, .int .u32 0, .slice a8 0 ca8, .slice b8 0 cb8, .int .i64 0, .int .u32 0, .int .i64 0, .int .u32 0, .int .i64 0, .int .i64 0, .int .i64 0, .int .u32 0, .int .i64 0, .int .u32 0, .int .i64 0] HB.out HBR.out)
  have HOn := Aside0.mk (known_keep (t := 37) #[.int .i64 0, .int .i64 0, .bool false, .bool false, .int .i64 0, .int .i64 0, .int .i64 0, .int .u32 0, .int .u32 0, .slice none 0 0, .slice none 0 0, .int .i64 0, .int .u32 0, .int .i64 0, .int .u32 0, .int .i64 0, .int .i64 0, .int .i64 0, .int .u32 0, .int .i64 0, .int .u32 0, .int .i64 0] #[.int .i64 0, .int .i64 0, .bool false, .bool false, .int .i64 0, .int .i64 0, .int .i64 0, .int .u32 0, .int .u32 0, .slice a8 0 ca8, .slice b8 0 cb8, .int .i64 0, .int .u32 0, .int .i64 0, .int .u32 0, .int .i64 0, .int .i64 0, .int .i64 0, .int .u32 0, .int .i64 0, .int .u32 0, .int .i64 0] HO.out HBR.out (by decide))
  have H9n := Aside0.mk (known_keep (t := 37) #[.int .i64 0, .int .i64 0, .bool false, .bool false, .int .i64 0, .int .i64 0, .int .i64 0, .int .u32 0, .int .u32 0, .slice none 0 0, .slice none 0 0, .int .i64 0, .int .u32 0, .int .i64 0, .int .u32 0, .int .i64 0, .int .i64 0, .int .i64 0, .int .u32 0, .int .i64 0, .int .u32 0, .int .i64 0] #[.int .i64 0, .int .i64 0, .bool false, .bool false, .int .i64 0, .int .i64 0, .int .i64 0, .int .u32 0, .int .u32 0, .slice a8 0 ca8, .slice b8 0 cb8, .int .i64 0, .int .u32 0, .int .i64 0, .int .u32 0, .int .i64 0, .int .i64 0, .int .i64 0, .int .u32 0, .int .i64 0, .int .u32 0, .int .i64 0] H9.out HBR.out (by decide))
  have H10n := Aside0.mk (known_keep (t := 37) #[.int .i64 0, .int .i64 0, .bool false, .bool false, .int .i64 0, .int .i64 0, .int .i64 0, .int .u32 0, .int .u32 0, .slice none 0 0, .slice none 0 0, .int .i64 0, .int .u32 0, .int .i64 0, .int .u32 0, .int .i64 0, .int .i64 0, .int .i64 0, .int .u32 0, .int .i64 0, .int .u32 0, .int .i64 0] #[.int .i64 0, .int .i64 0, .bool false, .bool false, .int .i64 0, .int .i64 0, .int .i64 0, .int .u32 0, .int .u32 0, .slice a8 0 ca8, .slice b8 0 cb8, .int .i64 0, .int .u32 0, .int .i64 0, .int .u32 0, .int .i64 0, .int .i64 0, .int .i64 0, .int .u32 0, .int .i64 0, .int .u32 0, .int .i64 0] H10.out HBR.out (by decide))
  clear HP HB HBR HO H9 H10
  generalize ((wr8.alloc (.cells #[.int .i64 0, .int .i64 0, .bool false, .bool false, .int .i64 0, .int .i64 0, .int .i64 0, .int .u32 0, .int .u32 0, .slice none 0 0, .slice none 0 0, .int .i64 0, .int .u32 0, .int .i64 0, .int .u32 0, .int .i64 0, .int .i64 0, .int .i64 0, .int .u32 0, .int .i64 0, .int .u32 0, .int .i64 0] 37)).setRow wr8.heap.size #[.int .i64 0, .int .i64 0, .bool false, .bool false, .int .i64 0, .int .i64 0, .int .i64 0, .int .u32 0, .int .u32 0, .slice a8 0 ca8, .slice b8 0 cb8, .int .i64 0, .int .u32 0, .int .i64 0, .int .u32 0, .int .i64 0, .int .i64 0, .int .i64 0, .int .u32 0, .int .i64 0, .int .u32 0, .int .i64 0]) = x8 at HPn HBn HOn H9n H10n ⊢
  have HP := HPn
  have HB := HBn
  have HO := HOn
  have H9 := H9n
  have H10 := H10n
  clear HPn HBn HOn H9n H10n
  have hx := Kd.R_celln (0 : Int) HO.out 29 (by decide) (by decide)
  have hx1 : x8.cell? ⟨gb, 29, none⟩ = some (.int .u8 105) := hx.1
  have hx2 : x8.frozen? ⟨gb, 29, none⟩ = false := hx.2
  clear hx
  have hx3 : Go.bits .xor .u8 105 1 = 104 := by decide
  go_upto_region 13 with (fail)
  have HRZ := Aside0.mk (Kd.R_reads' (Kd.R_put HO.out 29 (104 : Int)).1)
  have HBZ := Aside0.mk (below_set (j := 29) (v := .int .u8 104) HB.out HGB.out)
  clear hx1 hx2 HO HB HP H9 H10 HRB
  have HC3 : Aside0 (Kd.C (Kd.int .u8) (x8.setCell ⟨gb, 29, none⟩ (.int .u8 104)) (some ⟨gb, 0, none⟩) ([69, 0, 0, 30, 0, 0, 0, 0, 64, 17, 96, 191, 10, 0, 0, 1, 8, 8, 8, 8, 3, 232, 0, 53, 0, 10, 121, 67, 104, 104] : List Int).length [69, 0, 0, 30, 0, 0, 0, 0, 64, 17, 96, 191, 10, 0, 0, 1, 8, 8, 8, 8, 3, 232, 0, 53, 0, 10, 121, 67, 104, 104]) := ⟨HRZ.out.2.2⟩
  have HL3 : Aside0 (([69, 0, 0, 30, 0, 0, 0, 0, 64, 17, 96, 191, 10, 0, 0, 1, 8, 8, 8, 8, 3, 232, 0, 53, 0, 10, 121, 67, 104, 104] : List Int).length ≤ cb) := ⟨HRZ.out.2.1⟩
  clear HRZ
  generalize (x8.setCell ⟨gb, 29, none⟩ (.int .u8 104)) = w9 at HBZ HC3 ⊢
  go_upto_region 14 with (first
    | (go_at_call 25; (refine (frame_Read.calls 100 (some ⟨gb, 0, none⟩) cb [69, 0, 0, 30, 0, 0, 0, 0, 64, 17, 96, 191, 10, 0, 0, 1, 8, 8, 8, 8, 3, 232, 0, 53, 0, 10, 121, 67, 104, 104] 0 0 false false 0 0 0 0 0 [] [] 0 0 0 0 0 0 0 0 0 0 0 2 w9 HC3.out HL3.out known_10).mono ?_); rintro e wr10 ⟨v9, v10, rfl, ho9, ho10, hb⟩; obtain ⟨a10, ca10, rfl⟩ := Kd.R_slice ho9; obtain ⟨b10, cb10, rfl⟩ := Kd.R_slice ho10; have HBR := Aside0.mk hb; clear hb ho9 ho10)
    | (refine wpList_store_row rfl 37 (.tmp 10) (.tmp 58) rfl wr10.heap.size #[.int .i64 0, .int .i64 0, .bool false, .bool false, .int .i64 0, .int .i64 0, .int .i64 0, .int .u32 0, .int .u32 0, .slice a10 0 ca10, .slice b10 0 cb10, .int .i64 0, .int .u32 0, .int .i64 0, .int .u32 0, .int .i64 0, .int .i64 0, .int .i64 0, .int .u32 0, .int .i64 0, .int .u32 0, .int .i64 0] (by rfl) (by rfl) 37 #[.int .i64 0, .int .i64 0, .bool false, .bool false, .int .i64 0, .int .i64 0, .int .i64 0, .int .u32 0, .int .u32 0, .slice none 0 0, .slice none 0 0, .int .i64 0, .int .u32 0, .int .i64 0, .int .u32 0, .int .i64 0, .int .i64 0, .int .i64 0, .int .u32 0, .int .i64 0, .int .u32 0, .int .i64 0] (by exact heap_alloc_new _ _) (by kernel_rfl) rfl (by kernel_rfl) ?_))
  have HB := Aside0.mk (known_below (t := 37) #[.int .i64 0, .int .i64 0, .bool false, .bool false, .int .i64 0, .int .i64 0, .int .i64 0, .int .u32 0, .int .u32 0, .slice none 0 0, .slice none 0 0, .int .i64 0, .int .u32 0, .int .i64 0, .int .u32 0, .int .i64 0, .int .i64 0, .int .i64 0, .int .u32 0, .int .i64 0, .int .u32 0, .int .i64 0] #[.int .i64 0, .int .i64 0, .bool false, .bool false, .int .i64 0, .int .i64 0, .int .i64 0, .int .u32 0, .int .u32 0, .slice a10 0 ca10, .slice b10 0 cb10, .int .i64 0, .int .u32 0, .int .i64 0, .int .u32 0, .int .i64 0, .int .i64 0, .int .i64 0, .int .u32 0, .int .i64 0, .int .u32 0, .int .i64 0] HBZ.out HBR.out)
  clear HBR HBZ HC3
  generalize ((wr10.alloc (.cells #[.int .i64 0, .int .i64 0, .bool false, .bool false, .int .i64 0, .int .i64 0, .int .i64 0, .int .u32 0, .int .u32 0, .slice none 0 0, .slice none 0 0, .int .i64 0, .int .u32 0, .int .i64 0, .int .u32 0, .int .i64 0, .int .i64 0, .int .i64 0, .int .u32 0, .int .i64 0, .int .u32 0, .int .i64 0] 37)).setRow wr10.heap.size #[.int .i64 0, .int .i64 0, .bool false, .bool false, .int .i64 0, .int .i64 0, .int .i64 0, .int .u32 0, .int .u32 0, .slice a10 0 ca10, .slice b10 0 cb10, .int .i64 0, .int .u32 0, .int .i64 0, .int .u32 0, .int .i64 0, .int .i64 0, .int .i64 0, .int .u32 0, .int .i64 0, .int .u32 0, .int .i64 0]) = x10 at HB ⊢
  go_wp2
  go_ret
  exact ⟨by first | rfl | (simp; done), by repeat (first | (with_reducible first | exact HB.out | apply pw_below_drewN | apply below_drew1) | exact HB.out)⟩
end Go.Proofs.Ytljnnhloinbjhaa.Pure

