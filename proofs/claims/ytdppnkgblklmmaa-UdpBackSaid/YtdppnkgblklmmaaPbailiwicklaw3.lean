-- Laid by a program (wip/tools/myprint.py) out of the translation. Not trusted: Lean checks it.
import Derived.Test.YtdppnkgblklmmaaP0
import Derived.Test.YtdppnkgblklmmaaPudp
import Derived.Lib.SlBytesConst
namespace Go.Proofs.Ytdppnkgblklmmaa.P
open Go.RowKit Go.Proofs.YtdppnkgblklmmaaW.PrintWords Go.Proofs.YtdppnkgblklmmaaW.PrintLast Go.Proofs.YtdppnkgblklmmaaW.PrintMore
attribute [local go_sem] max2_int min2_int max_two min_two max_three min_three max_four min_four   -- for this text's walks alone
set_option linter.unusedVariables false
set_option linter.unusedSimpArgs false

/-! ### bailiwicklaw3_awake: function 38, by hand -/
def bailiwicklaw3_awake.f : Option Bool := some true
theorem bailiwicklaw3_awake.built : udp_Build.f 30 167772161 134744072 1000 53 false [104, 105] = some ([3, 232, 0, 53, 0, 10, 121, 67, 104, 105], 0) := by decide +kernel
theorem bailiwicklaw3_awake.C_block {k : IntKind} {W : World} {g t : Nat} {fr : Nat × Nat} {l : List Int} (h : W.heap[g]? = some (.cells (l.map (Value.int k)).toArray t fr)) (hl : l.length ≤ 9223372036854775807) : Kd.C (Kd.int k) W (some ⟨g, 0, none⟩) l.length l := by
  refine Kd.C_of_reads (d := (0 : Int)) ⟨rfl, hl, fun _ => ⟨⟨g, 0, none⟩, rfl, fun j hj => ?_⟩⟩
  have e : (⟨g, 0, none⟩ : Addr).add j = ⟨g, j, none⟩ := by unfold Addr.add; split <;> simp_all
  rw [e, cell_of_row W g j _ t fr h]
  simp [hj]
set_option maxHeartbeats 3200000 in
set_option maxRecDepth 100000 in
theorem bailiwicklaw3_awake.calls (r : Bool) (w : World) (h : bailiwicklaw3_awake.f = some r) :
    Calls Try.prog 38 #[] w fun e w' => e = .returned (.bool r) ∧ Below w.heap.size w w' := by
  obtain rfl : true = r := Option.some.inj h
  clear h
  have kc := fun (w : World) (C : Array Value) (n c : Nat) => Lib.run_convert_bytes_const (P := Try.prog) w 22 5 C n c Try.underlying22 Try.underlying5
  have HB := Aside0.mk (Below.refl w.heap.size w)
  go_enter Try.func38, Try.ntmps38
  go_wp2_with (fail)
  (refine (udp_Build.calls 30 167772161 134744072 1000 53 false _ _ [104, 105] _ _ _ ?s1 ?s2 bailiwicklaw3_awake.built).mono ?_; (case s1 => exact bailiwicklaw3_awake.C_block (heap_alloc_new _ _) (by decide)); (case s2 => decide); rintro e w2 ⟨v0, rfl, ho, hb⟩; have HB2 := Aside0.mk (below_step (below_alloc HB.out _) hb); clear hb HB; obtain ⟨Av, cv, rfl⟩ := Kd.R_slice ho; have HR := Aside0.mk (Kd.R_reads' ho).2.2; clear ho)
  obtain ⟨ad, e1, hx0⟩ := Kd.at_int HR.out 0 (by decide) (by decide)
  cases e1
  obtain ⟨ad, e1, hx1⟩ := Kd.at_int HR.out 1 (by decide) (by decide)
  cases e1
  simp only [Int.reduceToNat] at hx0 hx1
  replace hx0 : w2.cell? ad = some (.int .u8 3) := by (have e : ad.add 0 = ad := by go_simp); rw [← e]; exact hx0
  replace hx1 : w2.cell? ⟨ad.block, ad.off + 1, none⟩ = some (.int .u8 232) := by (have e : ad.add 1 = ⟨ad.block, ad.off + 1, none⟩ := by go_simp); rw [← e]; exact hx1
  go_wp2
  go_ret
  exact ⟨by first | rfl | (simp; done), HB2.out⟩

end Go.Proofs.Ytdppnkgblklmmaa.P
