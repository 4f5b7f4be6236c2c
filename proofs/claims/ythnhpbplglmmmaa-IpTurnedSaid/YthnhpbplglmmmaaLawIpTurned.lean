-- Laid by a program (wip/tools/mkrow.py): the row of the law bailiwicklaw2_IpTurned, out of what is proved of it. Not trusted: Lean checks it.
import Derived.Test.YthnhpbplglmmmaaRows
import Derived.Test.YthnhpbplglmmmaaPureIpTurned
import Derived.Test.YthnhpbplglmmmaaOpen
import Derived.WalkKit
import Derived.ProofKit
import Derived.OpenShut
import Derived.ShutString
import Derived.ChangeOld
import Derived.Below
import Derived.SizedLaws
namespace Go.Proofs.Ythnhpbplglmmmaa.ipTurned
open Go.ChangeShapes Go.WideShapes Go.ChangeAt Go.RowKit Go.Proofs.YthnhpbplglmmmaaW.PrintWords Go.Proofs.Ythnhpbplglmmmaa.Opn
open Go.ChangeMaps (open_string shut_string)
set_option linter.unusedVariables false
theorem own : ownKnob Try.prog.godebug = none := by kernel_rfl
theorem laidOut : laidOutB Try.prog = true := by kernel_rfl
theorem o25 : Opens Try.prog 25 Go.Proofs.Ythnhpbplglmmmaa.P.k25 (fun x => ((Lit.int .i64 x.f0).wf = true ∧ (Lit.int .i64 x.f1).wf = true ∧ True ∧ True ∧ (Lit.int .i64 x.f4).wf = true ∧ (Lit.int .i64 x.f5).wf = true ∧ (Lit.int .i64 x.f6).wf = true ∧ (Lit.int .u32 x.f7).wf = true ∧ (Lit.int .u32 x.f8).wf = true ∧ (x.f9.length ≤ maxLen ∧ x.f9.length * 1 ≤ 140737488351232 ∧ ∀ a_ ∈ x.f9, (Lit.int .u8 a_).wf = true) ∧ (x.f10.length ≤ maxLen ∧ x.f10.length * 1 ≤ 140737488351232 ∧ ∀ a_ ∈ x.f10, (Lit.int .u8 a_).wf = true))) := opens_struct (P := Try.prog) (f := (fun x : Go.Proofs.Ythnhpbplglmmmaa.P.S25 => (x.f0, x.f1, x.f2, x.f3, x.f4, x.f5, x.f6, x.f7, x.f8, x.f9, x.f10))) Try.underlying25 rfl (opensF_cons (P := Try.prog) rfl (opens_int (P := Try.prog) (t := 3) (q := .i64) Try.underlying3) (by kernel_rfl) (opensF_cons (P := Try.prog) rfl (opens_int (P := Try.prog) (t := 3) (q := .i64) Try.underlying3) (by kernel_rfl) (opensF_cons (P := Try.prog) rfl (opens_bool (P := Try.prog) (t := 4) Try.underlying4) (by kernel_rfl) (opensF_cons (P := Try.prog) rfl (opens_bool (P := Try.prog) (t := 4) Try.underlying4) (by kernel_rfl) (opensF_cons (P := Try.prog) rfl (opens_int (P := Try.prog) (t := 3) (q := .i64) Try.underlying3) (by kernel_rfl) (opensF_cons (P := Try.prog) rfl (opens_int (P := Try.prog) (t := 3) (q := .i64) Try.underlying3) (by kernel_rfl) (opensF_cons (P := Try.prog) rfl (opens_int (P := Try.prog) (t := 3) (q := .i64) Try.underlying3) (by kernel_rfl) (opensF_cons (P := Try.prog) rfl (opens_int (P := Try.prog) (t := 22) (q := .u32) Try.underlying22) (by kernel_rfl) (opensF_cons (P := Try.prog) rfl (opens_int (P := Try.prog) (t := 22) (q := .u32) Try.underlying22) (by kernel_rfl) (opensF_cons (P := Try.prog) rfl (opens_slice (P := Try.prog) (t := 23) (e := 5) (b := 1) Try.underlying23 (opens_int (P := Try.prog) (t := 5) (q := .u8) Try.underlying5) (by kernel_rfl) (by kernel_rfl)) (by kernel_rfl) (opensF_one (P := Try.prog) rfl (opens_slice (P := Try.prog) (t := 23) (e := 5) (b := 1) Try.underlying23 (opens_int (P := Try.prog) (t := 5) (q := .u8) Try.underlying5) (by kernel_rfl) (by kernel_rfl)) (by kernel_rfl)))))))))))) (by kernel_rfl) (fun ⟨a0, a1, a2, a3, a4, a5, a6, a7, a8, a9, a10⟩ => ⟨⟨a0, a1, a2, a3, a4, a5, a6, a7, a8, a9, a10⟩, rfl⟩)
set_option maxRecDepth 100000 in
theorem lifted (os : Os) (started : os.Started) (H : Type) (enc : TypeId × Value → H) :
    ReturnsInHanded {} Try.checked os 7 .any (Rows.ipTurnedSpec.pre6 enc Try.prog Try.f7 Rows.ipTurnedRow.domain false) (Rows.ipTurnedSpec.post enc Try.prog Try.f7 false true false false) := by
  refine returnsInHanded_of_change_sized (C := Try.checked) own started (by kernel_rfl) Try.func7
    (ChangeSpec.witness6 (enc := enc) (C := Try.checked) false ⟨#[], #[.agg #[.int .i64 0, .int .i64 0, .bool false, .bool false, .int .i64 0, .int .i64 0, .int .i64 0, .int .u32 0, .int .u32 0, .slice none 0 0, .slice none 0 0], .int .i64 0], []⟩ 8 (by kernel_rfl) (by kernel_rfl) (by kernel_rfl) (by kernel_rfl)) ?_
  intro W base args ds gs before hval0 hW hcnd hsz0 _
  have hsz : (DataW.weightsEach Try.prog (Try.f7.params.toList ++ Rows.ipTurnedSpec.plain.varTypes Try.prog) (ds ++ gs)).all (· ≤ reachBytes) = true := hsz0
  have hval : ∀ (j : Nat) t v, Try.f7.params[j]? = some t → args[j]? = some v → Value.okWide Try.prog W .any base t v := hval0
  have hW' := hW
  obtain ⟨p, q, hA0, hV, rfl, hfz, hnd⟩ := hW
  have hA : DataW.TrodAll enc Try.prog W 0 (fun _ => true) true Try.f7.params.toList args.toList ds p := hA0
  rw [Try.params7] at hA hval hsz
  obtain ⟨v0, vs0, d0, ds0, p0, q0, hargs, rfl, rfl, h0, rr0⟩ := trodAll_cons hA
  obtain ⟨v1, vs1, d1, ds1, p1, q1, rfl, rfl, rfl, h1, rr1⟩ := trodAll_cons rr0
  obtain ⟨rfl, rfl, rfl⟩ := trodAll_nil rr1
  obtain rfl : args = #[v0, v1] := by cases args; simp_all
  obtain ⟨rfl, rfl⟩ := trodVars_none hV
  have k0 := h0
  have lt0 : ∀ x ∈ p0, x.block < W.heap.size := by obtain ⟨m, hm⟩ := k0; exact DataW.trod_lt m _ _ _ hm
  obtain ⟨m0, hm0⟩ := h0
  obtain ⟨x0, hK0, hB0⟩ := o25 enc W m0 _ _ hm0 (weights_of hsz (j := 0) rfl rfl)
  obtain ⟨cs0, rfl⟩ := okWide_agg Try.underlying25 (hval 0 25 v0 rfl rfl)
  obtain ⟨A0_9, c0_9, A0_10, c0_10, hcs0, hL0_9, hC0_9, hL0_10, hC0_10⟩ := Go.Proofs.Ythnhpbplglmmmaa.P.k25_open hK0
  obtain rfl := arr_of hcs0
  have hB0' : ((Lit.int .i64 x0.f0).wf = true ∧ (Lit.int .i64 x0.f1).wf = true ∧ True ∧ True ∧ (Lit.int .i64 x0.f4).wf = true ∧ (Lit.int .i64 x0.f5).wf = true ∧ (Lit.int .i64 x0.f6).wf = true ∧ (Lit.int .u32 x0.f7).wf = true ∧ (Lit.int .u32 x0.f8).wf = true ∧ (x0.f9.length ≤ maxLen ∧ x0.f9.length * 1 ≤ 140737488351232 ∧ ∀ a_ ∈ x0.f9, (Lit.int .u8 a_).wf = true) ∧ (x0.f10.length ≤ maxLen ∧ x0.f10.length * 1 ≤ 140737488351232 ∧ ∀ a_ ∈ x0.f10, (Lit.int .u8 a_).wf = true)) := hB0
  obtain ⟨a1, rfl, rfl, rfl, w1⟩ := open_int Try.underlying3 (hval 1 3 v1 rfl rfl) h1
  clear hA0 hval0 hsz0 hsz
  obtain ⟨k, hk⟩ := Pure.IpTurned x0.f0 x0.f1 x0.f2 x0.f3 x0.f4 x0.f5 x0.f6 x0.f7 x0.f8 x0.f9 x0.f10 a1 (hB0'.1) (hB0'.2.1) (hB0'.2.2.2.2.1) (hB0'.2.2.2.2.2.1) (hB0'.2.2.2.2.2.2.1) (hB0'.2.2.2.2.2.2.2.1) (hB0'.2.2.2.2.2.2.2.2.1) (hB0'.2.2.2.2.2.2.2.2.2.1) (hB0'.2.2.2.2.2.2.2.2.2.2) w1
  refine (Go.Proofs.Ythnhpbplglmmmaa.P.bailiwicklaw2_IpTurned.calls k x0.f0 x0.f1 x0.f2 x0.f3 x0.f4 x0.f5 x0.f6 x0.f7 x0.f8 _ _ x0.f9 _ _ x0.f10 a1 true rfl W hC0_9 hL0_9 hC0_10 hL0_10 hk).mono ?_
  rintro e W' ⟨he, hd⟩
  have bel : Below W.heap.size W W' := hd
  subst he
  exact ⟨_, rfl, _, _, _, [], _, [], hW', trodAll_mk1 (shut_bool Try.underlying4 _), (trodAll_cons_mk (Below.trod laidOut (by kernel_rfl) (of_decide_eq_true (by kernel_rfl)) k0 bel lt0) (trodAll_cons_mk (shut_int Try.underlying3 w1) trodAll_mk0)), rfl, bel.frame _, fun h => by cases h⟩
theorem over : Rows.ipTurnedRow.holds Try.pinned (OpenSpec.ofChange Rows.ipTurnedSpec) :=
  OpenClaim.holds_of_wide 7 Try.f7 rfl rfl rfl rfl rfl rfl rfl ⟨rfl, rfl, rfl, rfl, rfl⟩ rfl rfl rfl rfl rfl (by kernel_rfl) Try.func7 (by kernel_rfl)
    (of_decide_eq_true (by kernel_rfl)) (by unfold Func.isWrapper; first | (rw [if_pos (by decide +kernel)]; kernel_rfl) | (rw [if_neg (by decide +kernel)]; exact ⟨rfl, rfl⟩))
    (fun os started H enc _ => lifted os started H enc)
theorem proved : Rows.IpTurnedSaid := over
#print axioms proved
end Go.Proofs.Ythnhpbplglmmmaa.ipTurned
namespace Go.Proofs.Ythnhpbplglmmmaa
/-- The row, under a short name, for the claim. -/
theorem ipTurned_holds : Rows.IpTurnedSaid := ipTurned.proved
end Go.Proofs.Ythnhpbplglmmmaa
