-- Laid by a program (wip/tools/mkrow.py): the row of the law bailiwicklaw6_FrameQuotes, out of what is proved of it. Not trusted: Lean checks it.
import Derived.Test.YtljnnhloinbjhaaRows
import Derived.Test.YtljnnhloinbjhaaPureFrameQuotes
import Derived.Test.YtljnnhloinbjhaaOpen
import Derived.Test.YtljnnhloinbjhaaHeavy
import Derived.WalkKit
import Derived.ProofKit
import Derived.OpenShut
import Derived.ShutString
import Derived.ChangeOld
import Derived.Below
import Derived.SizedLaws
namespace Go.Proofs.Ytljnnhloinbjhaa.frameQuotes
open Go.ChangeShapes Go.WideShapes Go.ChangeAt Go.RowKit Go.Proofs.YtljnnhloinbjhaaW.PrintWords Go.Proofs.Ytljnnhloinbjhaa.Opn
open Go.ChangeMaps (open_string shut_string)
set_option linter.unusedVariables false
theorem own : ownKnob Try.prog.godebug = none := by kernel_rfl
theorem laidOut : laidOutB Try.prog = true := by kernel_rfl
set_option maxRecDepth 100000 in
theorem lifted (os : Os) (started : os.Started) (H : Type) (enc : TypeId × Value → H) :
    ReturnsInHanded {} Try.checked os 5 .any (Rows.frameQuotesSpec.pre6 enc Try.prog Try.f5 Rows.frameQuotesRow.domain false) (Rows.frameQuotesSpec.post enc Try.prog Try.f5 false true false false) := by
  refine returnsInHanded_of_change_sized (C := Try.checked) own started (by kernel_rfl) Try.func5
    (ChangeSpec.witness6 (enc := enc) (C := Try.checked) false ⟨#[], #[.slice none 0 0], []⟩ 8 (by kernel_rfl) (by kernel_rfl) (by kernel_rfl) (by kernel_rfl)) ?_
  intro W base args ds gs before hval0 hW hcnd hsz0 _
  have hsz : (DataW.weightsEach Try.prog (Try.f5.params.toList ++ Rows.frameQuotesSpec.plain.varTypes Try.prog) (ds ++ gs)).all (· ≤ reachBytes) = true := hsz0
  have hval : ∀ (j : Nat) t v, Try.f5.params[j]? = some t → args[j]? = some v → Value.okWide Try.prog W .any base t v := hval0
  have hW' := hW
  obtain ⟨p, q, hA0, hV, rfl, hfz, hnd⟩ := hW
  have hA : DataW.TrodAll enc Try.prog W 0 (fun _ => true) true Try.f5.params.toList args.toList ds p := hA0
  rw [Try.params5] at hA hval hsz
  obtain ⟨v0, vs0, d0, ds0, p0, q0, hargs, rfl, rfl, h0, rr0⟩ := trodAll_cons hA
  obtain ⟨rfl, rfl, rfl⟩ := trodAll_nil rr0
  obtain rfl : args = #[v0] := by cases args; simp_all
  obtain ⟨rfl, rfl⟩ := trodVars_none hV
  have k0 := h0
  have lt0 : ∀ x ∈ p0, x.block < W.heap.size := by obtain ⟨m, hm⟩ := k0; exact DataW.trod_lt m _ _ _ hm
  obtain ⟨m0, hm0⟩ := h0
  obtain ⟨x0, hK0, hB0⟩ := (opens_slice (P := Try.prog) (t := 23) (e := 5) (b := 1) Try.underlying23 (opens_int (P := Try.prog) (t := 5) (q := .u8) Try.underlying5) (by kernel_rfl) (by kernel_rfl)) enc W m0 _ _ hm0 (weights_of hsz (j := 0) rfl rfl)
  obtain ⟨a_, len_, cap_, rfl⟩ := okWide_slice Try.underlying23 (hval 0 23 v0 rfl rfl)
  obtain ⟨A0, c0, hcs0, hL0, hC0⟩ := hK0
  simp only [Value.cells, List.cons.injEq, Value.slice.injEq, and_true] at hcs0
  obtain ⟨rfl, rfl, rfl⟩ := hcs0
  clear hA0 hval0 hsz0 hsz
  obtain ⟨k, hk⟩ := Pure.FrameQuotes x0 hB0
  refine (Go.Proofs.Ytljnnhloinbjhaa.P.bailiwicklaw6_FrameQuotes.calls k _ _ x0 true rfl W hC0 hL0 hk).mono ?_
  rintro e W' ⟨he, hd⟩
  have bel : Below W.heap.size W W' := hd
  subst he
  exact ⟨_, rfl, _, _, _, [], _, [], hW', trodAll_mk1 (shut_bool Try.underlying4 _), (trodAll_cons_mk (Below.trod laidOut (by kernel_rfl) (of_decide_eq_true (by kernel_rfl)) k0 bel lt0) trodAll_mk0), rfl, bel.frame _, fun h => by cases h⟩
set_option maxRecDepth 100000 in
theorem over : Rows.frameQuotesRow.holds Try.pinned (OpenSpec.ofChange Rows.frameQuotesSpec) :=
  OpenClaim.holds_of_wide 5 Try.f5 rfl rfl rfl rfl rfl rfl rfl ⟨rfl, rfl, rfl, rfl, rfl⟩ rfl rfl rfl rfl rfl (by kernel_rfl) Try.func5 (by unfold joinedFacts; refine hv_both (hv_both (hv_both (hv_both (hv_both (hv_both (hv_both (hv_both (hv_both (hv_both (hv_both (hv_both (hv_both (hv_both (hv_both (hv_both (hv_both (hv_both (hv_both (hv_both (hv_both (hv_both (hv_both (hv_both (hv_both (hv_both (hv_both (hv_both (hv_both (hv_both (hv_both ?_ ?_) ?_) ?_) ?_) ?_) ?_) ?_) ?_) ?_) ?_) ?_) ?_) ?_) ?_) ?_) ?_) ?_) ?_) ?_) ?_) ?_) ?_) ?_) ?_) ?_) ?_) ?_) ?_) ?_) ?_) ?_; all_goals first | with_reducible exact hv_enter | ((with_reducible refine hv_make ?_); rfl) | ((with_reducible refine hv_lifts ?_); rfl) | as_aux_lemma => kernel_rfl)
    (of_decide_eq_true (by kernel_rfl)) (by unfold Func.isWrapper; first | (rw [if_pos (by decide +kernel)]; kernel_rfl) | (rw [if_neg (by decide +kernel)]; exact ⟨rfl, rfl⟩))
    (fun os started H enc _ => lifted os started H enc)
theorem proved : Rows.FrameQuotesSaid := over
#print axioms proved
end Go.Proofs.Ytljnnhloinbjhaa.frameQuotes
namespace Go.Proofs.Ytljnnhloinbjhaa
/-- The row, under a short name, for the claim. -/
theorem frameQuotes_holds : Rows.FrameQuotesSaid := frameQuotes.proved
end Go.Proofs.Ytljnnhloinbjhaa
