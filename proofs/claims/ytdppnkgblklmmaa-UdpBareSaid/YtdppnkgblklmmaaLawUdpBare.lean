-- Laid by a program (wip/tools/mkrow.py): the row of the law bailiwicklaw3_UdpBare, out of what is proved of it. Not trusted: Lean checks it.
import Derived.Test.YtdppnkgblklmmaaRows
import Derived.Test.YtdppnkgblklmmaaPureUdpBare
import Derived.Test.YtdppnkgblklmmaaOpen
import Derived.WalkKit
import Derived.ProofKit
import Derived.OpenShut
import Derived.ShutString
import Derived.ChangeOld
import Derived.Below
import Derived.SizedLaws
namespace Go.Proofs.Ytdppnkgblklmmaa.udpBare
open Go.ChangeShapes Go.WideShapes Go.ChangeAt Go.RowKit Go.Proofs.YtdppnkgblklmmaaW.PrintWords Go.Proofs.Ytdppnkgblklmmaa.Opn
open Go.ChangeMaps (open_string shut_string)
set_option linter.unusedVariables false
theorem own : ownKnob Try.prog.godebug = none := by kernel_rfl
theorem laidOut : laidOutB Try.prog = true := by kernel_rfl
theorem o47 : Opens Try.prog 47 Go.Proofs.Ytdppnkgblklmmaa.P.k47 (fun x => ((Lit.int .i64 x.f0).wf = true ∧ (Lit.int .i64 x.f1).wf = true ∧ True ∧ (x.f3.length ≤ maxLen ∧ x.f3.length * 1 ≤ 140737488351232 ∧ ∀ a_ ∈ x.f3, (Lit.int .u8 a_).wf = true))) := opens_struct (P := Try.prog) (f := (fun x : Go.Proofs.Ytdppnkgblklmmaa.P.S47 => (x.f0, x.f1, x.f2, x.f3))) Try.underlying47 rfl (opensF_cons (P := Try.prog) rfl (opens_int (P := Try.prog) (t := 3) (q := .i64) Try.underlying3) (by kernel_rfl) (opensF_cons (P := Try.prog) rfl (opens_int (P := Try.prog) (t := 3) (q := .i64) Try.underlying3) (by kernel_rfl) (opensF_cons (P := Try.prog) rfl (opens_bool (P := Try.prog) (t := 4) Try.underlying4) (by kernel_rfl) (opensF_one (P := Try.prog) rfl (opens_slice (P := Try.prog) (t := 22) (e := 5) (b := 1) Try.underlying22 (opens_int (P := Try.prog) (t := 5) (q := .u8) Try.underlying5) (by kernel_rfl) (by kernel_rfl)) (by kernel_rfl))))) (by kernel_rfl) (fun ⟨a0, a1, a2, a3⟩ => ⟨⟨a0, a1, a2, a3⟩, rfl⟩)
theorem o49 : Opens Try.prog 49 Go.Proofs.Ytdppnkgblklmmaa.P.k49 (fun x => ((Lit.int .u32 x.f0).wf = true ∧ (Lit.int .u32 x.f1).wf = true ∧ ((Lit.int .i64 x.f2.f0).wf = true ∧ (Lit.int .i64 x.f2.f1).wf = true ∧ True ∧ (x.f2.f3.length ≤ maxLen ∧ x.f2.f3.length * 1 ≤ 140737488351232 ∧ ∀ a_ ∈ x.f2.f3, (Lit.int .u8 a_).wf = true)))) := opens_struct (P := Try.prog) (f := (fun x : Go.Proofs.Ytdppnkgblklmmaa.P.S49 => (x.f0, x.f1, x.f2))) Try.underlying49 rfl (opensF_cons (P := Try.prog) rfl (opens_int (P := Try.prog) (t := 43) (q := .u32) Try.underlying43) (by kernel_rfl) (opensF_cons (P := Try.prog) rfl (opens_int (P := Try.prog) (t := 43) (q := .u32) Try.underlying43) (by kernel_rfl) (opensF_one (P := Try.prog) rfl o47 (by kernel_rfl)))) (by kernel_rfl) (fun ⟨a0, a1, a2⟩ => ⟨⟨a0, a1, a2⟩, rfl⟩)
set_option maxRecDepth 100000 in
theorem lifted (os : Os) (started : os.Started) (H : Type) (enc : TypeId × Value → H) :
    ReturnsInHanded {} Try.checked os 13 .any (Rows.udpBareSpec.pre6 enc Try.prog Try.f13 Rows.udpBareRow.domain false) (Rows.udpBareSpec.post enc Try.prog Try.f13 false true false false) := by
  refine returnsInHanded_of_change_sized (C := Try.checked) own started (by kernel_rfl) Try.func13
    (ChangeSpec.witness6 (enc := enc) (C := Try.checked) false ⟨#[], #[.agg #[.int .u32 0, .int .u32 0, .int .i64 0, .int .i64 0, .bool false, .slice none 0 0]], []⟩ 8 (by kernel_rfl) (by kernel_rfl) (by kernel_rfl) (by kernel_rfl)) ?_
  intro W base args ds gs before hval0 hW hcnd hsz0 _
  have hsz : (DataW.weightsEach Try.prog (Try.f13.params.toList ++ Rows.udpBareSpec.plain.varTypes Try.prog) (ds ++ gs)).all (· ≤ reachBytes) = true := hsz0
  have hval : ∀ (j : Nat) t v, Try.f13.params[j]? = some t → args[j]? = some v → Value.okWide Try.prog W .any base t v := hval0
  have hW' := hW
  obtain ⟨p, q, hA0, hV, rfl, hfz, hnd⟩ := hW
  have hA : DataW.TrodAll enc Try.prog W 0 (fun _ => true) true Try.f13.params.toList args.toList ds p := hA0
  rw [Try.params13] at hA hval hsz
  obtain ⟨v0, vs0, d0, ds0, p0, q0, hargs, rfl, rfl, h0, rr0⟩ := trodAll_cons hA
  obtain ⟨rfl, rfl, rfl⟩ := trodAll_nil rr0
  obtain rfl : args = #[v0] := by cases args; simp_all
  obtain ⟨rfl, rfl⟩ := trodVars_none hV
  have k0 := h0
  have lt0 : ∀ x ∈ p0, x.block < W.heap.size := by obtain ⟨m, hm⟩ := k0; exact DataW.trod_lt m _ _ _ hm
  obtain ⟨m0, hm0⟩ := h0
  obtain ⟨x0, hK0, hB0⟩ := o49 enc W m0 _ _ hm0 (weights_of hsz (j := 0) rfl rfl)
  obtain ⟨cs0, rfl⟩ := okWide_agg Try.underlying49 (hval 0 49 v0 rfl rfl)
  obtain ⟨A0_5, c0_5, hcs0, hL0_5, hC0_5⟩ := Go.Proofs.Ytdppnkgblklmmaa.P.k49_open hK0
  obtain rfl := arr_of hcs0
  have hB0' : ((Lit.int .u32 x0.f0).wf = true ∧ (Lit.int .u32 x0.f1).wf = true ∧ ((Lit.int .i64 x0.f2.f0).wf = true ∧ (Lit.int .i64 x0.f2.f1).wf = true ∧ True ∧ (x0.f2.f3.length ≤ maxLen ∧ x0.f2.f3.length * 1 ≤ 140737488351232 ∧ ∀ a_ ∈ x0.f2.f3, (Lit.int .u8 a_).wf = true))) := hB0
  clear hA0 hval0 hsz0 hsz
  obtain ⟨k, hk⟩ := Pure.UdpBare x0.f0 x0.f1 x0.f2.f0 x0.f2.f1 x0.f2.f2 x0.f2.f3 (hB0'.1) (hB0'.2.1) (hB0'.2.2.1) (hB0'.2.2.2.1) (hB0'.2.2.2.2.2)
  refine (Go.Proofs.Ytdppnkgblklmmaa.P.bailiwicklaw3_UdpBare.calls k x0.f0 x0.f1 x0.f2.f0 x0.f2.f1 x0.f2.f2 _ _ x0.f2.f3 true W hC0_5 hL0_5 hk).mono ?_
  rintro e W' ⟨he, hd⟩
  have bel : Below W.heap.size W W' := hd
  subst he
  exact ⟨_, rfl, _, _, _, [], _, [], hW', trodAll_mk1 (shut_bool Try.underlying4 _), (trodAll_cons_mk (Below.trod laidOut (by kernel_rfl) (of_decide_eq_true (by kernel_rfl)) k0 bel lt0) trodAll_mk0), rfl, bel.frame _, fun h => by cases h⟩
theorem over : Rows.udpBareRow.holds Try.pinned (OpenSpec.ofChange Rows.udpBareSpec) :=
  OpenClaim.holds_of_wide 13 Try.f13 rfl rfl rfl rfl rfl rfl rfl ⟨rfl, rfl, rfl, rfl, rfl⟩ rfl rfl rfl rfl rfl (by kernel_rfl) Try.func13 (by kernel_rfl)
    (of_decide_eq_true (by kernel_rfl)) (by unfold Func.isWrapper; first | (rw [if_pos (by decide +kernel)]; kernel_rfl) | (rw [if_neg (by decide +kernel)]; exact ⟨rfl, rfl⟩))
    (fun os started H enc _ => lifted os started H enc)
theorem proved : Rows.UdpBareSaid := over
#print axioms proved
end Go.Proofs.Ytdppnkgblklmmaa.udpBare
namespace Go.Proofs.Ytdppnkgblklmmaa
/-- The row, under a short name, for the claim. -/
theorem udpBare_holds : Rows.UdpBareSaid := udpBare.proved
end Go.Proofs.Ytdppnkgblklmmaa
