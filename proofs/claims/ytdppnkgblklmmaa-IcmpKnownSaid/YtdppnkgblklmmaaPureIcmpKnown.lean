/- IcmpKnown: chapter 5's examples. No condition: it takes nothing. -/
--@ hand
import Derived.Test.YtdppnkgblklmmaaPureLibW
import Derived.Test.YtdppnkgblklmmaaPureLibI
namespace Go.Proofs.Ytdppnkgblklmmaa.Pure
open Go.RowKit Go.Proofs.Ytdppnkgblklmmaa.P Go.Proofs.YtdppnkgblklmmaaW.PrintWords Go.Proofs.YtdppnkgblklmmaaW.PrintLast
set_option linter.unusedVariables false
set_option linter.unusedSimpArgs false
theorem ikind1 : icmp_Kind.f 8 0 65538 [] = some 3 := by decide +kernel
theorem inumber : icmp_Number.f 8 0 65538 [] = some 1 := by decide +kernel
theorem ikind2 : icmp_Kind.f 0 1 0 [] = some 0 := by decide +kernel
theorem ikind3 : icmp_Kind.f 11 9 0 [] = some 5 := by decide +kernel
theorem ikind4 : icmp_Kind.f 0 0 0 [] = some 4 := by decide +kernel
set_option maxHeartbeats 3200000 in
set_option maxRecDepth 100000 in
theorem IcmpKnown (W : World) : Calls Try.prog 18 #[] W fun e w' => e = .returned (.bool true) ∧ Below W.heap.size W w' := by
  have hu := Try.underlying66
  go_enter Try.func18, Try.ntmps18
  go_wp2_with (fail)
  ((refine (bailiwicklaw5_awake.calls 40 true _ (awake5 40 (by decide))).mono ?_); rintro e w1 ⟨rfl, hb⟩; have HB := Aside0.mk hb; clear hb)
  go_wp2_with (fail)
  (refine (icmp_Kind.calls 8 0 65538 _ _ [] 3 _ ?s1 ?s2 ikind1).mono ?_; (case s1 => exact Kd.C_nil _ _); (case s2 => decide); rintro e w2 ⟨rfl, hd⟩; have HB2 := Aside0.mk (below_step (below_alloc HB.out _) hd); have HW := Aside0.mk (blk_below (heap_alloc_new w1 (.cells #[.int .i64 8, .int .i64 0, .int .u32 65538, .slice none 0 0] 66)) hd); clear hd HB)
  have hc0 : w2.cell? ⟨w1.heap.size, 0, none⟩ = some (.int .i64 8) := (blk_cell HW.out 0).trans rfl
  have hc1 : w2.cell? ⟨w1.heap.size, 1, none⟩ = some (.int .i64 0) := (blk_cell HW.out 1).trans rfl
  have hc2 : w2.cell? ⟨w1.heap.size, 2, none⟩ = some (.int .u32 65538) := (blk_cell HW.out 2).trans rfl
  have hc3 : w2.cell? ⟨w1.heap.size, 3, none⟩ = some (.slice none 0 0) := (blk_cell HW.out 3).trans rfl
  go_wp2_with (fail)
  (refine (icmp_Number.calls 8 0 65538 _ _ [] 1 _ ?s1 ?s2 inumber).mono ?_; (case s1 => exact Kd.C_nil _ _); (case s2 => decide); rintro e w3 ⟨rfl, hd⟩; have HB3 := Aside0.mk (below_step HB2.out hd); clear hd HB2)
  go_wp2_with (fail)
  (refine (icmp_Kind.calls 0 1 0 _ _ [] 0 _ ?s1 ?s2 ikind2).mono ?_; (case s1 => exact Kd.C_nil _ _); (case s2 => decide); rintro e w4 ⟨rfl, hd⟩; have HB4 := Aside0.mk (below_step HB3.out hd); clear hd HB3)
  go_wp2_with (fail)
  (refine (icmp_Kind.calls 11 9 0 _ _ [] 5 _ ?s1 ?s2 ikind3).mono ?_; (case s1 => exact Kd.C_nil _ _); (case s2 => decide); rintro e w5 ⟨rfl, hd⟩; have HB5 := Aside0.mk (below_step HB4.out hd); clear hd HB4)
  go_wp2_with (fail)
  (refine (icmp_Kind.calls 0 0 0 _ _ [] 4 _ ?s1 ?s2 ikind4).mono ?_; (case s1 => exact Kd.C_nil _ _); (case s2 => decide); rintro e w6 ⟨rfl, hd⟩; have HB6 := Aside0.mk (below_step HB5.out hd); clear hd HB5)
  go_wp2
  go_ret
  exact ⟨by first | rfl | (simp; done), HB6.out⟩
end Go.Proofs.Ytdppnkgblklmmaa.Pure
