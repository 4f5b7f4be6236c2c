-- Laid by a program (wip/tools/myprint.py) out of the translation. Not trusted: Lean checks it.
import Derived.Test.YtdppnkgblklmmaaP0
import Derived.Test.YtdppnkgblklmmaaPoctetmay
namespace Go.Proofs.Ytdppnkgblklmmaa.P
open Go.RowKit Go.Proofs.YtdppnkgblklmmaaW.PrintWords Go.Proofs.YtdppnkgblklmmaaW.PrintLast Go.Proofs.YtdppnkgblklmmaaW.PrintMore
attribute [local go_sem] max2_int min2_int max_two min_two max_three min_three max_four min_four   -- for this text's walks alone
set_option linter.unusedVariables false
set_option linter.unusedSimpArgs false

/-! ### octet_Get: function 23, by hand -/
def octet_Get.be (x : Int) (l : List Int) : Int := l.foldl (fun x c => Go.bits .or .u64 (IntKind.u64.wrap (x * 256)) (IntKind.u64.wrap c)) x
def octet_Get.f (l0 : List Int) (a1 a2 : Int) : Option (Int × Bool) := if 1 ≤ a2 ∧ a2 ≤ 8 ∧ 0 ≤ a1 ∧ a1 + a2 ≤ (l0.length : Int) then some (octet_Get.be 0 ((l0.take (a1 + a2).toNat).drop a1.toNat), true) else some (0, false)
theorem octet_Get.may_yes (l0 : List Int) (a1 a2 : Int) (hl : l0.length ≤ 9223372036854775807) (h : 1 ≤ a2 ∧ a2 ≤ 8 ∧ 0 ≤ a1 ∧ a1 + a2 ≤ (l0.length : Int)) : octet_may.f l0 a1 a2 = some true := by
  unfold octet_may.f
  rw [if_pos h.1, if_pos h.2.1, if_pos h.2.2.1, show wrap64 ((l0.length : Int) - a2) = (l0.length : Int) - a2 from by unfold wrap64; omega]
  simp; omega
theorem octet_Get.may_no (l0 : List Int) (a1 a2 : Int) (hl : l0.length ≤ 9223372036854775807) (h : ¬ (1 ≤ a2 ∧ a2 ≤ 8 ∧ 0 ≤ a1 ∧ a1 + a2 ≤ (l0.length : Int))) : octet_may.f l0 a1 a2 = some false := by
  unfold octet_may.f
  by_cases h1 : 1 ≤ a2
  · by_cases h2 : a2 ≤ 8
    · by_cases h3 : 0 ≤ a1
      · rw [if_pos h1, if_pos h2, if_pos h3, show wrap64 ((l0.length : Int) - a2) = (l0.length : Int) - a2 from by unfold wrap64; omega]
        simp; omega
      · rw [if_pos h1, if_pos h2, if_neg h3]
    · rw [if_pos h1, if_neg h2]
  · rw [if_neg h1]
theorem octet_Get.snoc (x : Int) (l : List Int) (i : Nat) (h : i < l.length) : octet_Get.be x (l.take (i + 1)) = Go.bits .or .u64 (IntKind.u64.wrap (octet_Get.be x (l.take i) * 256)) (IntKind.u64.wrap (rd l (i : Int))) := by
  unfold octet_Get.be
  rw [List.take_succ_eq_append_getElem h, List.foldl_append]
  simp [rd, h]
set_option maxHeartbeats 800000 in
set_option maxRecDepth 100000 in
theorem octet_Get.calls (A0 : Option Addr) (c0 : Nat) (l0 : List Int) (a1 : Int) (a2 : Int) (r1 : Int) (r2 : Bool) (w : World) (hr0 : Kd.C (Kd.int .u8) w A0 l0.length l0) (hc0 : l0.length ≤ c0) (h : octet_Get.f l0 a1 a2 = some (r1, r2)) :
    Calls Try.prog 23 #[.slice A0 l0.length c0, .int .i64 a1, .int .i64 a2] w fun e w' => e = .returned (.tuple #[.int .u64 r1, .bool r2]) ∧ Drawn0 w w' := by
  have HR0 := Aside0.mk hr0
  have HC0 := Aside0.mk hc0
  have HN := Aside0.mk hr0.2.1
  clear hr0 hc0
  by_cases hv : 1 ≤ a2 ∧ a2 ≤ 8 ∧ 0 ≤ a1 ∧ a1 + a2 ≤ (l0.length : Int)
  · have A4 := Aside0.mk (octet_Get.may_yes l0 a1 a2 HN.out hv)
    have H : some (octet_Get.be 0 ((l0.take (a1 + a2).toNat).drop a1.toNat), true) = some (r1, r2) := by unfold octet_Get.f at h; rw [if_pos hv] at h; exact h
    clear h
    simp only [Option.some.injEq, Prod.mk.injEq] at H
    obtain ⟨hr1, rfl⟩ := H
    obtain ⟨i0, hi, hz, hsz, hb⟩ := info_parts info5
    obtain ⟨A9, hcut, hA9, hC9⟩ := print_mid_of (P := Try.prog) (Value.int .u8) 0 22 5 .i64 .i64 Try.underlying22 hi hsz A0 c0 l0 a1 (a1 + a2) hv.2.2.1 (by omega) hv.2.2.2 HC0.out
    have HR := Aside0.mk (Kd.C_of_reads (h1 := fun _ => rfl) (hA9 _ (Kd.reads_of_C HR0.out)))
    have HC := Aside0.mk hC9
    have hw : Aside0 (wrap64 (a1 + a2) = a1 + a2) := ⟨by unfold wrap64; have := HN.out; omega⟩
    have hln : Aside0 (((l0.take (a1 + a2).toNat).drop a1.toNat).length = a2.toNat) := ⟨by rw [List.length_drop, List.length_take]; omega⟩
    have hv1 := hv.1
    have hv2 := hv.2.1
    have hv3 := hv.2.2.1
    clear hA9 hC9 hi hsz hz hb
    generalize (l0.take (a1 + a2).toNat).drop a1.toNat = l1 at *
    have Hr := Aside0.mk hr1
    rw [← hw.out] at hcut
    clear hr1 hv
    go_enter Try.func23, Try.ntmps23
    go_wp2_with (fail)
    ((with_reducible refine (octet_may.calls _ _ l0 a1 a2 true _ HR0.out HC0.out A4.out).mono ?_); rintro e w' ⟨rfl, ⟨nd, rfl⟩⟩)
    go_wp2_with (fail)
    go_loopg [8, 23] l1.length (fun kq v8 v23 w' => ∃ (i : Nat), v8 = .int .u64 (octet_Get.be 0 (l1.take i)) ∧ v23 = .int .i64 i ∧ Aside0 (i + kq = l1.length) ∧ Drawn0 w w')
    case atStart => exact ⟨0, rfl, rfl, ⟨by simp⟩, Drawn0.step (Drawn0.refl _) _⟩
    case round =>
      obtain ⟨i, rfl, rfl, HJ, ⟨m1, rfl⟩⟩ := hrel
      clear hcut hw
      by_cases c2 : i < l1.length
      · have c2b0 : decide (i < l1.length) = true := decide_eq_true c2
        obtain ⟨ad1, e2, hx1⟩ := Kd.at_int HR.out (i : Int) (by omega) (by omega)
        cases e2
        have HS := Aside0.mk (octet_Get.snoc 0 l1 i c2)
        generalize rd l1 (i : Int) = c at *
        simp only [Int.toNat_natCast] at hx1
        have hi8 : i < 8 := by have := hln.out; omega
        obtain ⟨g0, rfl⟩ : ∃ g0, gk = g0 + 1 := ⟨gk - 1, by have := HJ.out; omega⟩
        generalize octet_Get.be 0 (l1.take i) = x8 at *
        go_wp2
        go_roundg g0
        case measure => omega
        case rel => exact ⟨i + 1, by rw [HS.out], by go_num, ⟨by have := HJ.out; omega⟩, Drawn0.step (Drawn0.refl _) _⟩
      · have c2b0 : decide (i < l1.length) = false := decide_eq_false c2
        have HE : Aside0 (octet_Get.be 0 (l1.take i) = r1) := ⟨by rw [List.take_of_length_le (by omega)]; exact Hr.out⟩
        generalize octet_Get.be 0 (l1.take i) = x8 at *
        go_wp2
        go_ret2
        exact ⟨by (rw [HE.out]; rfl), Drawn0.step (Drawn0.refl _) _⟩
  · have A4 := Aside0.mk (octet_Get.may_no l0 a1 a2 HN.out hv)
    have H : some ((0 : Int), false) = some (r1, r2) := by unfold octet_Get.f at h; rw [if_neg hv] at h; exact h
    clear h hv
    simp only [Option.some.injEq, Prod.mk.injEq] at H
    obtain ⟨rfl, rfl⟩ := H
    go_enter Try.func23, Try.ntmps23
    go_wp2_with (fail)
    ((with_reducible refine (octet_may.calls _ _ l0 a1 a2 false _ HR0.out HC0.out A4.out).mono ?_); rintro e w' ⟨rfl, ⟨nd, rfl⟩⟩)
    go_wp2
    go_ret2
    exact ⟨rfl, Drawn0.step (Drawn0.refl _) _⟩

end Go.Proofs.Ytdppnkgblklmmaa.P
