/- OctetKnown: chapter 1's examples. No condition: it takes nothing. -/
--@ hand
import Derived.Test.YtdppnkgblklmmaaPureLibW
import Derived.Test.YtdppnkgblklmmaaPoctet
import Derived.Lib.SlBytesConst
namespace Go.Proofs.Ytdppnkgblklmmaa.Pure
open Go.RowKit Go.Proofs.Ytdppnkgblklmmaa.P Go.Proofs.YtdppnkgblklmmaaW.PrintWords Go.Proofs.YtdppnkgblklmmaaW.PrintLast
set_option linter.unusedVariables false
set_option linter.unusedSimpArgs false
theorem known_get1 : octet_Get.f [1, 2, 3] 2 2 = some (0, false) := by decide +kernel
theorem known_get2 : octet_Get.f [1] 0 0 = some (0, false) := by decide +kernel
theorem known_put : octet_Put.f 12 [1, 2, 3] 0 2 70000 = some ([17, 112, 3], true) := by decide +kernel
theorem known_same : bailiwickref1_Same.f 12 [17, 112, 3] [17, 112, 3] = some true := by decide +kernel
theorem known_sum : octet_Sum.f [[0, 1, 242, 3, 244, 245, 246, 247]] = some 56818 := by decide +kernel
theorem known_check : octet_Check.f [[0, 1, 242, 3, 244, 245, 246, 247]] = some 8717 := by decide +kernel
theorem known_sum0 : octet_Sum.f [] = some 0 := by decide +kernel
theorem known_update : octet_Update.f 12 56623 21845 12933 = some 0 := by decide +kernel
theorem known_crc : octet_Crc.f [49, 50, 51, 52, 53, 54, 55, 56, 57] = some 3421780262 := by decide +kernel
set_option maxHeartbeats 3200000 in
set_option maxRecDepth 100000 in
theorem OctetKnown (W : World) : Calls Try.prog 10 #[] W fun e w' => e = .returned (.bool true) ∧ Below W.heap.size W w' := by
  have H0 := Aside0.mk awake1
  have kc := fun (w : World) (C : Array Value) (n c : Nat) => Lib.run_convert_bytes_const (P := Try.prog) w 22 5 C n c Try.underlying22 Try.underlying5
  go_enter Try.func10, Try.ntmps10
  go_wp2_with (fail)
  ((with_reducible refine (bailiwicklaw1_awake.calls true _ H0.out).mono ?_); rintro e w1 ⟨rfl, hb⟩; have HB := Aside0.mk hb; clear hb)
  go_wp2_with (fail)
  (refine (octet_Get.calls _ _ [1, 2, 3] 2 2 0 false _ ?s1 ?s2 known_get1).mono ?_; (case s1 => exact C_block (heap_alloc_new _ _) (by decide)); (case s2 => decide); rintro e w2 ⟨rfl, hd⟩; have HB2 := Aside0.mk (below_step (below_alloc HB.out _) hd.below); clear hd HB)
  go_wp2_with (fail)
  (refine (octet_Get.calls _ _ [1] 0 0 0 false _ ?s1 ?s2 known_get2).mono ?_; (case s1 => exact C_block (heap_alloc_new _ _) (by decide)); (case s2 => decide); rintro e w3 ⟨rfl, hd⟩; have HB3 := Aside0.mk (below_step (below_alloc HB2.out _) hd.below); clear hd HB2)
  go_wp2_with (fail)
  (refine (octet_Put.calls 12 _ _ [1, 2, 3] 0 2 70000 _ _ _ ?s1 ?s2 known_put).mono ?_; (case s1 => exact C_block (heap_alloc_new _ _) (by decide)); (case s2 => decide); rintro e w4 ⟨v0, rfl, ho, hb⟩; have HB4 := Aside0.mk (below_step (below_alloc HB3.out _) hb); clear hb HB3; obtain ⟨Av, cv, rfl⟩ := Kd.R_slice ho; have HR := Aside0.mk (Kd.R_reads' ho).2.2; have HC := Aside0.mk (Kd.R_reads' ho).2.1; clear ho)
  go_wp2_with (fail)
  (refine (bailiwickref1_Same.calls 12 _ _ [17, 112, 3] _ _ [17, 112, 3] true _ ?s1 ?s2 ?s3 ?s4 known_same).mono ?_; (case s1 => exact Kd.C_alloc (Kd.C_alloc HR.out _) _); (case s2 => exact HC.out); (case s3 => exact C_block (blk_new2 _ _ _) (by decide)); (case s4 => decide); rintro e w5 ⟨rfl, hd⟩; have HB5 := Aside0.mk (below_step (below_alloc (below_alloc HB4.out _) _) hd.below); have HL := Aside0.mk (blk_below (blk_alloc (heap_alloc_new w4 (.cells #[.int .u8 0, .int .u8 1, .int .u8 242, .int .u8 3, .int .u8 244, .int .u8 245, .int .u8 246, .int .u8 247] 5)) _) hd.below); clear hd HB4 HR HC)
  go_wp2_with (fail)
  (refine (octet_Sum.calls _ _ [[0, 1, 242, 3, 244, 245, 246, 247]] _ _ ?s1 ?s2 known_sum).mono ?_; (case s1 => exact C_block1 (heap_alloc_new _ _) (by decide) (C_block (blk_alloc HL.out _) (by decide))); (case s2 => decide); rintro e w6 ⟨rfl, hb⟩; have HB6 := Aside0.mk (below_step (below_alloc HB5.out _) hb); have HL2 := Aside0.mk (blk_below (blk_alloc HL.out _) hb); clear hb HB5 HL)
  go_wp2_with (fail)
  (refine (octet_Check.calls _ _ [[0, 1, 242, 3, 244, 245, 246, 247]] _ _ ?s1 ?s2 known_check).mono ?_; (case s1 => exact C_block1 (heap_alloc_new _ _) (by decide) (C_block (blk_alloc HL2.out _) (by decide))); (case s2 => decide); rintro e w7 ⟨rfl, hb⟩; have HB7 := Aside0.mk (below_step (below_alloc HB6.out _) hb); clear hb HB6 HL2)
  go_wp2_with (fail)
  (refine (octet_Sum.calls _ _ [] _ _ ?s1 ?s2 known_sum0).mono ?_; (case s1 => exact C_none); (case s2 => decide); rintro e w8 ⟨rfl, hb⟩; have HB8 := Aside0.mk (below_step HB7.out hb); clear hb HB7)
  go_wp2_with (fail)
  (refine (octet_Update.calls 12 56623 21845 12933 _ _ known_update).mono ?_; rintro e w9 ⟨rfl, hd⟩; have HB9 := Aside0.mk (below_step HB8.out hd.below); clear hd HB8)
  go_wp2_with (fail)
  (refine (octet_Crc.calls _ _ [49, 50, 51, 52, 53, 54, 55, 56, 57] _ _ ?s1 ?s2 known_crc).mono ?_; (case s1 => exact C_block (heap_alloc_new _ _) (by decide)); (case s2 => decide); rintro e w10 ⟨rfl, hb⟩; have HB10 := Aside0.mk (below_step (below_alloc HB9.out _) hb); clear hb HB9)
  go_wp2
  go_ret
  exact ⟨by first | rfl | (simp; done), HB10.out⟩
end Go.Proofs.Ytdppnkgblklmmaa.Pure
