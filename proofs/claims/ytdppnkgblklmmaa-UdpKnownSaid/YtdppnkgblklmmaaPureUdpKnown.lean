/- UdpKnown: chapter 3's examples. No condition: it takes nothing. -/
--@ hand
import Derived.Test.YtdppnkgblklmmaaPureLibW
import Derived.Test.YtdppnkgblklmmaaPudp
import Derived.Test.YtdppnkgblklmmaaPbailiwicklaw3
import Derived.Test.YtdppnkgblklmmaaPbailiwickref3
import Derived.Lib.SlBytesConst
namespace Go.Proofs.Ytdppnkgblklmmaa.Pure
open Go.RowKit Go.Proofs.Ytdppnkgblklmmaa.P Go.Proofs.YtdppnkgblklmmaaW.PrintWords Go.Proofs.YtdppnkgblklmmaaW.PrintLast
set_option linter.unusedVariables false
set_option linter.unusedSimpArgs false
theorem uknown1 : udp_Parse.f 30 167772161 134744072 [3, 232, 0, 53, 0, 10, 121, 67, 104, 105] = some (1000, 53, false, [104, 105], 0) := by decide +kernel
theorem uknown2 : udp_Parse.f 30 167772161 134744073 [3, 232, 0, 53, 0, 10, 121, 67, 104, 105] = some (0, 0, false, [], 5) := by decide +kernel
theorem uknown3 : udp_Parse.f 30 167772161 134744072 ([3, 232, 0, 53, 0, 10, 121, 67, 104, 105].take (7 : Int).toNat) = some (0, 0, false, [], 2) := by decide +kernel
theorem uknown4 : bailiwickref3_SameDatagram.f 30 1000 53 false [104, 105] 1000 53 false [104, 105] = some true := by decide +kernel
set_option maxHeartbeats 3200000 in
set_option maxRecDepth 100000 in
theorem UdpKnown (W : World) : Calls Try.prog 14 #[] W fun e w' => e = .returned (.bool true) ∧ Below W.heap.size W w' := by
  have kc := fun (w : World) (C : Array Value) (n c : Nat) => Lib.run_convert_bytes_const (P := Try.prog) w 22 5 C n c Try.underlying22 Try.underlying5
  have hu := Try.underlying47
  go_enter Try.func14, Try.ntmps14
  go_wp2_with (fail)
  ((refine (bailiwicklaw3_awake.calls true _ rfl).mono ?_); rintro e w1 ⟨rfl, hb⟩; have HB := Aside0.mk hb; clear hb)
  go_wp2_with (fail)
  (refine (udp_Build.calls 30 167772161 134744072 1000 53 false _ _ [104, 105] _ _ _ ?s1 ?s2 bailiwicklaw3_awake.built).mono ?_; (case s1 => exact Kd.C_alloc (C_block (heap_alloc_new _ _) (by decide)) _); (case s2 => decide); rintro e w2 ⟨v0, rfl, ho, hb⟩; have HB2 := Aside0.mk (below_step (below_alloc (below_alloc HB.out _) _) hb); have HU := Aside0.mk (Kd.C_below (d := Kd.int .u8) (xs := [104, 105]) (A := some ⟨w1.heap.size, 0, none⟩) (n := 2) (Kd.C_alloc (C_block (heap_alloc_new _ _) (by decide)) _) hb); have HS := Aside0.mk (blk_below (blk_new2 w1 (.cells #[.int .u8 104, .int .u8 105] 5 (2, 3)) (.cells #[.int .i64 1000, .int .i64 53, .bool false, .slice (some ⟨w1.heap.size, 0, none⟩) 2 2] 47)) hb); clear hb HB; obtain ⟨Av, cv, rfl⟩ := Kd.R_slice ho; have HR := Aside0.mk (Kd.R_reads' ho).2.2; have HC := Aside0.mk (Kd.R_reads' ho).2.1; clear ho)
  obtain ⟨i0, hi, hz, hsz, hb⟩ := info_parts info5
  obtain ⟨hcut, hA, hC7⟩ := print_take_of (P := Try.prog) (Value.int .u8) 0 22 5 .i64 Try.underlying22 hi hsz Av cv [3, 232, 0, 53, 0, 10, 121, 67, 104, 105] 7 (by decide) (by decide) HC.out
  have HR7 : Aside0 (Kd.C (Kd.int .u8) w2 Av ([3, 232, 0, 53, 0, 10, 121, 67, 104, 105].take (7 : Int).toNat).length ([3, 232, 0, 53, 0, 10, 121, 67, 104, 105].take (7 : Int).toNat)) := Aside0.mk (Kd.C_of_reads (h1 := fun _ => rfl) (hA _ (Kd.reads_of_C HR.out)))
  have HC7 := Aside0.mk hC7
  clear hz hb hA hC7 hi hsz
  replace hcut : ∀ W : World, (Instr.slice 22 (.slice Av 10 cv) none (some (.int .i64 7)) none).run Try.prog W = .ok (.slice Av 7 cv) W := hcut
  go_wp2_with (fail)
  (refine (udp_Parse.calls 30 167772161 134744072 _ _ [3, 232, 0, 53, 0, 10, 121, 67, 104, 105] _ _ _ _ _ _ ?s1 ?s2 uknown1).mono ?_; (case s1 => exact HR.out); (case s2 => exact HC.out); rintro e w3 ⟨v0, rfl, ho, hb⟩; have HB3 := Aside0.mk (below_step HB2.out hb); have HS3 := Aside0.mk (blk_below HS.out hb); clear HS; have HU3 := Aside0.mk (Kd.C_below HU.out hb); have HR3 := Aside0.mk (Kd.C_below HR.out hb); have HR73 := Aside0.mk (Kd.C_below HR7.out hb); clear hb HB2 HU HR HR7; obtain ⟨A3, c3, rfl⟩ := Kd.R_slice ho; have HV := Aside0.mk (Kd.R_reads' ho).2.2; have HVC := Aside0.mk (Kd.R_reads' ho).2.1; clear ho)
  go_wp2_with (fail)
  (refine (udp_Parse.calls 30 167772161 134744073 _ _ [3, 232, 0, 53, 0, 10, 121, 67, 104, 105] _ _ _ _ _ _ ?s1 ?s2 uknown2).mono ?_; (case s1 => exact Kd.C_alloc HR3.out _); (case s2 => exact HC.out); rintro e w4 ⟨v4, rfl, ho, hb⟩; have HB4 := Aside0.mk (below_step (below_alloc HB3.out _) hb); have HS4 := Aside0.mk (blk_below (blk_alloc HS3.out _) hb); have HW4 := Aside0.mk (blk_below (heap_alloc_new w3 (.cells #[.int .i64 1000, .int .i64 53, .bool false, .slice A3 2 c3] 47)) hb); have HU4 := Aside0.mk (Kd.C_below (Kd.C_alloc HU3.out _) hb); have HR4 := Aside0.mk (Kd.C_below (Kd.C_alloc HR3.out _) hb); have HR74 := Aside0.mk (Kd.C_below (Kd.C_alloc HR73.out _) hb); have HV4 := Aside0.mk (Kd.C_below (Kd.C_alloc HV.out _) hb); obtain ⟨A4, c4, rfl⟩ := Kd.R_slice ho; clear hb HB3 HU3 HR3 HR73 HV ho HS3)
  go_wp2_with (fail)
  (refine (udp_Parse.calls 30 167772161 134744072 _ _ ([3, 232, 0, 53, 0, 10, 121, 67, 104, 105].take (7 : Int).toNat) _ _ _ _ _ _ ?s1 ?s2 uknown3).mono ?_; (case s1 => exact Kd.C_alloc HR74.out _); (case s2 => exact HC7.out); rintro e w5 ⟨v5, rfl, ho, hb⟩; have HB5 := Aside0.mk (below_step (below_alloc HB4.out _) hb); have HS5 := Aside0.mk (blk_below (blk_alloc HS4.out _) hb); have HW5 := Aside0.mk (blk_below (blk_alloc HW4.out _) hb); clear HS4 HW4; have HU5 := Aside0.mk (Kd.C_below (Kd.C_alloc HU4.out _) hb); have HR5 := Aside0.mk (Kd.C_below (Kd.C_alloc HR4.out _) hb); have HV5 := Aside0.mk (Kd.C_below (Kd.C_alloc HV4.out _) hb); obtain ⟨A5, c5, rfl⟩ := Kd.R_slice ho; clear hb HB4 HU4 HR4 HR74 HV4 ho)
  have hu0 : (w5.alloc (.cells #[.int .i64 0, .int .i64 0, .bool false, .slice A5 0 c5] 47)).cell? ⟨w1.heap.size + 1, 0, none⟩ = some (.int .i64 1000) := (blk_cell (blk_alloc HS5.out _) 0).trans rfl
  have hv0 : (w5.alloc (.cells #[.int .i64 0, .int .i64 0, .bool false, .slice A5 0 c5] 47)).cell? ⟨w3.heap.size, 0, none⟩ = some (.int .i64 1000) := (blk_cell (blk_alloc HW5.out _) 0).trans rfl
  have hu1 : (w5.alloc (.cells #[.int .i64 0, .int .i64 0, .bool false, .slice A5 0 c5] 47)).cell? ⟨w1.heap.size + 1, 1, none⟩ = some (.int .i64 53) := (blk_cell (blk_alloc HS5.out _) 1).trans rfl
  have hv1 : (w5.alloc (.cells #[.int .i64 0, .int .i64 0, .bool false, .slice A5 0 c5] 47)).cell? ⟨w3.heap.size, 1, none⟩ = some (.int .i64 53) := (blk_cell (blk_alloc HW5.out _) 1).trans rfl
  have hu2 : (w5.alloc (.cells #[.int .i64 0, .int .i64 0, .bool false, .slice A5 0 c5] 47)).cell? ⟨w1.heap.size + 1, 2, none⟩ = some (.bool false) := (blk_cell (blk_alloc HS5.out _) 2).trans rfl
  have hv2 : (w5.alloc (.cells #[.int .i64 0, .int .i64 0, .bool false, .slice A5 0 c5] 47)).cell? ⟨w3.heap.size, 2, none⟩ = some (.bool false) := (blk_cell (blk_alloc HW5.out _) 2).trans rfl
  have hu3 : (w5.alloc (.cells #[.int .i64 0, .int .i64 0, .bool false, .slice A5 0 c5] 47)).cell? ⟨w1.heap.size + 1, 3, none⟩ = some (.slice (some ⟨w1.heap.size, 0, none⟩) 2 2) := (blk_cell (blk_alloc HS5.out _) 3).trans rfl
  have hv3 : (w5.alloc (.cells #[.int .i64 0, .int .i64 0, .bool false, .slice A5 0 c5] 47)).cell? ⟨w3.heap.size, 3, none⟩ = some (.slice A3 2 c3) := (blk_cell (blk_alloc HW5.out _) 3).trans rfl
  go_wp2_with (fail)
  (refine (bailiwickref3_SameDatagram.calls 30 1000 53 false _ _ [104, 105] 1000 53 false _ _ [104, 105] true _ ?s1 ?s2 ?s3 ?s4 uknown4).mono ?_; (case s1 => exact Kd.C_alloc HU5.out _); (case s2 => decide); (case s3 => exact Kd.C_alloc HV5.out _); (case s4 => exact HVC.out); rintro e w6 ⟨rfl, hb⟩; have HB6 := Aside0.mk (below_step (below_alloc HB5.out _) hb); have HR6 := Aside0.mk (Kd.C_below (Kd.C_alloc HR5.out _) hb); clear hb HB5 HU5 HR5 HV5)
  obtain ⟨ad, e1, hx8⟩ := Kd.at_int HR6.out 8 (by decide) (by decide)
  cases e1
  obtain ⟨ad, e1, hx5⟩ := Kd.at_int HR6.out 5 (by decide) (by decide)
  cases e1
  simp only [Int.reduceToNat] at hx8 hx5
  replace hx8 : w6.cell? ⟨ad.block, ad.off + 8, none⟩ = some (.int .u8 104) := by (have e : ad.add 8 = ⟨ad.block, ad.off + 8, none⟩ := by go_simp); rw [← e]; exact hx8
  replace hx5 : w6.cell? ⟨ad.block, ad.off + 5, none⟩ = some (.int .u8 10) := by (have e : ad.add 5 = ⟨ad.block, ad.off + 5, none⟩ := by go_simp); rw [← e]; exact hx5
  go_wp2
  go_ret
  exact ⟨by first | rfl | (simp; done), HB6.out⟩
end Go.Proofs.Ytdppnkgblklmmaa.Pure
