-- Laid by a program (wip/tools/mkrow.py): the row of the law bailiwicklaw23_LineBack, out of what is proved of it. Not trusted: Lean checks it.
import Derived.Test.YtnbanjbhjjhkdaaDoorRows
import Derived.Test.YtnbanjbhjjhkdaaDoorPureLineBack
import Derived.Test.YtnbanjbhjjhkdaaDoorOpen
import Derived.Test.YtnbanjbhjjhkdaaDoorDoorKit
import Derived.Test.YtnbanjbhjjhkdaaDoorTie
import Derived.Test.YtnbanjbhjjhkdaaDoorCards
import Derived.WalkKit
import Derived.ProofKit
import Derived.OpenShut
import Derived.ShutString
import Derived.ChangeOld
import Derived.Below
import Derived.SizedLaws
import Derived.SevenTiedAt
namespace Go.Proofs.YtnbanjbhjjhkdaaDoor.lineBack
open Go.ChangeShapes Go.WideShapes Go.ChangeAt Go.RowKit Go.Proofs.YtnbanjbhjjhkdaaDoorW.PrintWords Go.Proofs.YtnbanjbhjjhkdaaDoor.Opn
open Go.ChangeMaps (open_string shut_string)
set_option linter.unusedVariables false
theorem own : ownKnob Tryd.prog.godebug = none := by kernel_rfl
theorem laidOut : laidOutB Tryd.prog = true := by kernel_rfl
theorem o24 : Opens Tryd.prog 24 Go.Proofs.YtnbanjbhjjhkdaaDoor.P.k24 (fun x => ((Lit.int .u32 x.f0).wf = true ∧ (Lit.int .i64 x.f1).wf = true)) := opens_struct (P := Tryd.prog) (f := (fun x : Go.Proofs.YtnbanjbhjjhkdaaDoor.P.S24 => (x.f0, x.f1))) Tryd.underlying24 rfl (opensF_cons (P := Tryd.prog) rfl (opens_int (P := Tryd.prog) (t := 22) (q := .u32) Tryd.underlying22) (by kernel_rfl) (opensF_one (P := Tryd.prog) rfl (opens_int (P := Tryd.prog) (t := 3) (q := .i64) Tryd.underlying3) (by kernel_rfl))) (by kernel_rfl) (fun ⟨a0, a1⟩ => ⟨⟨a0, a1⟩, rfl⟩)
set_option maxRecDepth 100000 in
theorem lifted (os : Os) (started : os.Started) (H : Type) (enc : TypeId × Value → H) :
    ReturnsInHanded {} Tryd.checked os 6 .any (fun w args => (Rows.lineBackSpec.pre enc Tryd.prog Tryd.f6 Rows.lineBackRow.domain false w args ∧ laidMetH Tryd.prog Rows.lineBackRow.laid w) ∧ sizedMet enc Tryd.prog Tryd.f6 (OpenSpec.ofChange Rows.lineBackSpec) false w args) (Rows.lineBackSpec.post enc Tryd.prog Tryd.f6 false true false false) := by
  refine DoorKit.change_laid (C := Tryd.checked) (X := fun w _ => laidMetH Tryd.prog Rows.lineBackRow.laid w) (fun _ _ _ hh h => h.of_heap hh) own started (by kernel_rfl) Tryd.func6
    (ChangeSpec.witness_shaped (enc := enc) (C := Tryd.checked) (os := os) (X := fun w _ => laidMetH Tryd.prog Rows.lineBackRow.laid w) false (DoorKit.laidWorld os) #[.slice none 0 0, .agg #[.int .u32 0, .int .i64 0]] 8 (World.laidAll_os _ _ _) (DoorKit.laid_shape _ _) (by kernel_rfl) (by kernel_rfl) (by kernel_rfl) (DoorKit.laid_met _ _)) ?_
  intro W base args ds gs before hval0 hW hcnd hsz0 hL hsh _
  have ht := DoorKit.tab_of_laid hL
  obtain ⟨ml, hml⟩ := DoorKit.len_of_shape hsh
  have hsz : (DataW.weightsEach Tryd.prog (Tryd.f6.params.toList ++ Rows.lineBackSpec.plain.varTypes Tryd.prog) (ds ++ gs)).all (· ≤ reachBytes) = true := hsz0
  have hval : ∀ (j : Nat) t v, Tryd.f6.params[j]? = some t → args[j]? = some v → Value.okWide Tryd.prog W .any base t v := hval0
  have hW' := hW
  obtain ⟨p, q, hA0, hV, rfl, hfz, hnd⟩ := hW
  have hA : DataW.TrodAll enc Tryd.prog W 0 (fun _ => true) true Tryd.f6.params.toList args.toList ds p := hA0
  rw [Tryd.params6] at hA hval hsz
  obtain ⟨v0, vs0, d0, ds0, p0, q0, hargs, rfl, rfl, h0, rr0⟩ := trodAll_cons hA
  obtain ⟨v1, vs1, d1, ds1, p1, q1, rfl, rfl, rfl, h1, rr1⟩ := trodAll_cons rr0
  obtain ⟨rfl, rfl, rfl⟩ := trodAll_nil rr1
  obtain rfl : args = #[v0, v1] := by cases args; simp_all
  obtain ⟨rfl, rfl⟩ := trodVars_none hV
  have k0 := h0
  have lt0 : ∀ x ∈ p0, x.block < W.heap.size := by obtain ⟨m, hm⟩ := k0; exact DataW.trod_lt m _ _ _ hm
  obtain ⟨m0, hm0⟩ := h0
  obtain ⟨x0, hK0, hB0⟩ := (opens_slice (P := Tryd.prog) (t := 32) (e := 5) (b := 1) Tryd.underlying32 (opens_int (P := Tryd.prog) (t := 5) (q := .u8) Tryd.underlying5) (by kernel_rfl) (by kernel_rfl)) enc W m0 _ _ hm0 (weights_of hsz (j := 0) rfl rfl)
  obtain ⟨a_, len_, cap_, rfl⟩ := okWide_slice Tryd.underlying32 (hval 0 32 v0 rfl rfl)
  obtain ⟨A0, c0, hcs0, hL0, hC0⟩ := hK0
  simp only [Value.cells, List.cons.injEq, Value.slice.injEq, and_true] at hcs0
  obtain ⟨rfl, rfl, rfl⟩ := hcs0
  have k1 := h1
  have lt1 : ∀ x ∈ p1, x.block < W.heap.size := by obtain ⟨m, hm⟩ := k1; exact DataW.trod_lt m _ _ _ hm
  obtain ⟨m1, hm1⟩ := h1
  obtain ⟨x1, hK1, hB1⟩ := o24 enc W m1 _ _ hm1 (weights_of hsz (j := 1) rfl rfl)
  obtain ⟨cs1, rfl⟩ := okWide_agg Tryd.underlying24 (hval 1 24 v1 rfl rfl)
  have hcs1 := Go.Proofs.YtnbanjbhjjhkdaaDoor.P.k24_open hK1
  obtain rfl := arr_of hcs1
  have hB1' : ((Lit.int .u32 x1.f0).wf = true ∧ (Lit.int .i64 x1.f1).wf = true) := hB1
  clear hA0 hval0 hsz0 hsz
  refine (Pure.LineBack _ _ x0 x1.f0 x1.f1 ml W ht hml hC0 hL0 hB0 (hB1'.1) (hB1'.2)).mono fun e W' ⟨he, bel⟩ => ?_
  subst he
  exact ⟨_, rfl, _, _, _, [], _, [], hW', trodAll_mk1 (shut_bool Tryd.underlying4 _), (trodAll_cons_mk (Below.trod laidOut (by kernel_rfl) (of_decide_eq_true (by kernel_rfl)) k0 bel lt0) (trodAll_cons_mk (Below.trod laidOut (by kernel_rfl) (of_decide_eq_true (by kernel_rfl)) k1 bel lt1) trodAll_mk0)), rfl, bel.frame _, fun h => by cases h⟩
theorem over : Rows.lineBackRow.holds Tryd.pinned (OpenSpec.ofChange Rows.lineBackSpec) :=
  OpenClaim.holds_of_wide 6 Tryd.f6 rfl rfl rfl rfl rfl rfl rfl ⟨rfl, rfl, rfl, rfl, rfl⟩ rfl rfl rfl rfl rfl (by kernel_rfl) Tryd.func6 (by kernel_rfl)
    (of_decide_eq_true (by kernel_rfl)) (by unfold Func.isWrapper; first | (rw [if_pos (by decide +kernel)]; kernel_rfl) | (rw [if_neg (by decide +kernel)]; exact ⟨rfl, rfl⟩))
    (fun os started H enc _ => lifted os started H enc)
theorem proved : Rows.LineBackSaid := over
#print axioms proved
end Go.Proofs.YtnbanjbhjjhkdaaDoor.lineBack
namespace Go.Proofs.YtnbanjbhjjhkdaaDoor
/-- The row, under a short name, for the claim. -/
theorem lineBack_holds : Rows.LineBackSaid := lineBack.proved
end Go.Proofs.YtnbanjbhjjhkdaaDoor
namespace Go.Proofs.YtnbanjbhjjhkdaaDoor
open Go Go.RowKit
theorem lineBack_card : Rows.LineBackCardSaid :=
  Claim7.holds_tied_plain_at .later [] [.data, .data, .data, .data, .pinned] true (true, "4cf98723bd7a27a039f18af8ece87c743e032efe5d9c6d5bb65ccd8dd5a6766f") true
    lineBack_holds (fun _ h => by cases h) (by kernel_rfl) (fun _ h => by cases h) lineBack_row_tie rfl ⟨rfl, rfl⟩ (by kernel_rfl) rfl
    (fun f fn hf hfn => by
      obtain rfl : f = 6 := Option.some.inj ((show Tryd.prog.funcNamed "bailiwick/bailiwicklaw23.LineBack" = some 6 by kernel_rfl).symm.trans hf) |>.symm
      obtain rfl : fn = Tryd.f6 := (Option.some.inj (Tryd.func6.symm.trans hfn)).symm
      exact ⟨by kernel_rfl, fun j t ht => by
        rw [Tryd.params6] at ht
        have hm : t ∈ [32, 24] := by simpa using Array.mem_of_getElem? ht
        have hall : ([32, 24].all fun u => !Tryd.prog.wantsStandIn u) = true := by kernel_rfl
        exact (show Tryd.prog.wantsStandIn t = false by simpa using List.all_eq_true.1 hall t hm)⟩)
    (by kernel_rfl)
#print axioms lineBack_card
end Go.Proofs.YtnbanjbhjjhkdaaDoor
