-- Laid by a program (wip/tools/mkrow.py): the row of the law bailiwicklaw5_IcmpBack, out of what is proved of it. Not trusted: Lean checks it.
import Derived.Test.YtdppnkgblklmmaaRows
import Derived.Test.YtdppnkgblklmmaaPureIcmpBack
import Derived.Test.YtdppnkgblklmmaaOpen
import Derived.WalkKit
import Derived.ProofKit
import Derived.OpenShut
import Derived.ShutString
import Derived.ChangeOld
import Derived.Below
import Derived.SizedLaws
namespace Go.Proofs.Ytdppnkgblklmmaa.icmpBack
open Go.ChangeShapes Go.WideShapes Go.ChangeAt Go.RowKit Go.Proofs.YtdppnkgblklmmaaW.PrintWords Go.Proofs.Ytdppnkgblklmmaa.Opn
open Go.ChangeMaps (open_string shut_string)
set_option linter.unusedVariables false
theorem own : ownKnob Try.prog.godebug = none := by kernel_rfl
theorem laidOut : laidOutB Try.prog = true := by kernel_rfl
theorem o66 : Opens Try.prog 66 Go.Proofs.Ytdppnkgblklmmaa.P.k66 (fun x => ((Lit.int .i64 x.f0).wf = true ∧ (Lit.int .i64 x.f1).wf = true ∧ (Lit.int .u32 x.f2).wf = true ∧ (x.f3.length ≤ maxLen ∧ x.f3.length * 1 ≤ 140737488351232 ∧ ∀ a_ ∈ x.f3, (Lit.int .u8 a_).wf = true))) := opens_struct (P := Try.prog) (f := (fun x : Go.Proofs.Ytdppnkgblklmmaa.P.S66 => (x.f0, x.f1, x.f2, x.f3))) Try.underlying66 rfl (opensF_cons (P := Try.prog) rfl (opens_int (P := Try.prog) (t := 3) (q := .i64) Try.underlying3) (by kernel_rfl) (opensF_cons (P := Try.prog) rfl (opens_int (P := Try.prog) (t := 3) (q := .i64) Try.underlying3) (by kernel_rfl) (opensF_cons (P := Try.prog) rfl (opens_int (P := Try.prog) (t := 43) (q := .u32) Try.underlying43) (by kernel_rfl) (opensF_one (P := Try.prog) rfl (opens_slice (P := Try.prog) (t := 22) (e := 5) (b := 1) Try.underlying22 (opens_int (P := Try.prog) (t := 5) (q := .u8) Try.underlying5) (by kernel_rfl) (by kernel_rfl)) (by kernel_rfl))))) (by kernel_rfl) (fun ⟨a0, a1, a2, a3⟩ => ⟨⟨a0, a1, a2, a3⟩, rfl⟩)
set_option maxRecDepth 100000 in
theorem lifted (os : Os) (started : os.Started) (H : Type) (enc : TypeId × Value → H) :
    ReturnsInHanded {} Try.checked os 21 .any (Rows.icmpBackSpec.pre6 enc Try.prog Try.f21 Rows.icmpBackRow.domain false) (Rows.icmpBackSpec.post enc Try.prog Try.f21 false true false false) := by
  refine returnsInHanded_of_change_sized (C := Try.checked) own started (by kernel_rfl) Try.func21
    (ChangeSpec.witness6 (enc := enc) (C := Try.checked) false ⟨#[], #[.agg #[.int .i64 0, .int .i64 0, .int .u32 0, .slice none 0 0], .int .i64 0], []⟩ 8 (by kernel_rfl) (by kernel_rfl) (by kernel_rfl) (by kernel_rfl)) ?_
  intro W base args ds gs before hval0 hW hcnd hsz0 _
  have hsz : (DataW.weightsEach Try.prog (Try.f21.params.toList ++ Rows.icmpBackSpec.plain.varTypes Try.prog) (ds ++ gs)).all (· ≤ reachBytes) = true := hsz0
  have hval : ∀ (j : Nat) t v, Try.f21.params[j]? = some t → args[j]? = some v → Value.okWide Try.prog W .any base t v := hval0
  have hW' := hW
  obtain ⟨p, q, hA0, hV, rfl, hfz, hnd⟩ := hW
  have hA : DataW.TrodAll enc Try.prog W 0 (fun _ => true) true Try.f21.params.toList args.toList ds p := hA0
  rw [Try.params21] at hA hval hsz
  obtain ⟨v0, vs0, d0, ds0, p0, q0, hargs, rfl, rfl, h0, rr0⟩ := trodAll_cons hA
  obtain ⟨v1, vs1, d1, ds1, p1, q1, rfl, rfl, rfl, h1, rr1⟩ := trodAll_cons rr0
  obtain ⟨rfl, rfl, rfl⟩ := trodAll_nil rr1
  obtain rfl : args = #[v0, v1] := by cases args; simp_all
  obtain ⟨rfl, rfl⟩ := trodVars_none hV
  have k0 := h0
  have lt0 : ∀ x ∈ p0, x.block < W.heap.size := by obtain ⟨m, hm⟩ := k0; exact DataW.trod_lt m _ _ _ hm
  obtain ⟨m0, hm0⟩ := h0
  obtain ⟨x0, hK0, hB0⟩ := o66 enc W m0 _ _ hm0 (weights_of hsz (j := 0) rfl rfl)
  obtain ⟨cs0, rfl⟩ := okWide_agg Try.underlying66 (hval 0 66 v0 rfl rfl)
  obtain ⟨A0_3, c0_3, hcs0, hL0_3, hC0_3⟩ := Go.Proofs.Ytdppnkgblklmmaa.P.k66_open hK0
  obtain rfl := arr_of hcs0
  have hB0' : ((Lit.int .i64 x0.f0).wf = true ∧ (Lit.int .i64 x0.f1).wf = true ∧ (Lit.int .u32 x0.f2).wf = true ∧ (x0.f3.length ≤ maxLen ∧ x0.f3.length * 1 ≤ 140737488351232 ∧ ∀ a_ ∈ x0.f3, (Lit.int .u8 a_).wf = true)) := hB0
  obtain ⟨a1, rfl, rfl, rfl, w1⟩ := open_int Try.underlying3 (hval 1 3 v1 rfl rfl) h1
  clear hA0 hval0 hsz0 hsz
  obtain ⟨k, hk⟩ := Pure.IcmpBack x0.f0 x0.f1 x0.f2 x0.f3 a1 (hB0'.1) (hB0'.2.1) (hB0'.2.2.1) (hB0'.2.2.2) w1
  refine (Go.Proofs.Ytdppnkgblklmmaa.P.bailiwicklaw5_IcmpBack.calls k x0.f0 x0.f1 x0.f2 _ _ x0.f3 a1 true W hC0_3 hL0_3 hk).mono ?_
  rintro e W' ⟨he, hd⟩
  have bel : Below W.heap.size W W' := hd
  subst he
  exact ⟨_, rfl, _, _, _, [], _, [], hW', trodAll_mk1 (shut_bool Try.underlying4 _), (trodAll_cons_mk (Below.trod laidOut (by kernel_rfl) (of_decide_eq_true (by kernel_rfl)) k0 bel lt0) (trodAll_cons_mk (shut_int Try.underlying3 w1) trodAll_mk0)), rfl, bel.frame _, fun h => by cases h⟩
theorem over : Rows.icmpBackRow.holds Try.pinned (OpenSpec.ofChange Rows.icmpBackSpec) :=
  OpenClaim.holds_of_wide 21 Try.f21 rfl rfl rfl rfl rfl rfl rfl ⟨rfl, rfl, rfl, rfl, rfl⟩ rfl rfl rfl rfl rfl (by kernel_rfl) Try.func21 (by kernel_rfl)
    (of_decide_eq_true (by kernel_rfl)) (by unfold Func.isWrapper; first | (rw [if_pos (by decide +kernel)]; kernel_rfl) | (rw [if_neg (by decide +kernel)]; exact ⟨rfl, rfl⟩))
    (fun os started H enc _ => lifted os started H enc)
theorem proved : Rows.IcmpBackSaid := over
#print axioms proved
end Go.Proofs.Ytdppnkgblklmmaa.icmpBack
namespace Go.Proofs.Ytdppnkgblklmmaa
/-- The row, under a short name, for the claim. -/
theorem icmpBack_holds : Rows.IcmpBackSaid := icmpBack.proved
end Go.Proofs.Ytdppnkgblklmmaa
