-- Laid by a program (wip/tools/mkrow.py): the row of the law bailiwicklaw23_LineKnown, out of what is proved of it. Not trusted: Lean checks it.
import Derived.Test.YtnbanjbhjjhkdaaDoorRows
import Derived.Test.YtnbanjbhjjhkdaaDoorPureLineKnown
import Derived.Test.YtnbanjbhjjhkdaaDoorOpen
import Derived.Test.YtnbanjbhjjhkdaaDoorDoorKit
import Derived.Test.YtnbanjbhjjhkdaaDoorTie
import Derived.Test.YtnbanjbhjjhkdaaDoorCards
import Derived.WalkKit
import Derived.ProofKit
import Derived.OpenShut
import Derived.ShutString
import Derived.ChangeOld
import Derived.Below
import Derived.SizedLaws
import Derived.SevenTiedAt
namespace Go.Proofs.YtnbanjbhjjhkdaaDoor.lineKnown
open Go.ChangeShapes Go.WideShapes Go.ChangeAt Go.RowKit Go.Proofs.YtnbanjbhjjhkdaaDoorW.PrintWords Go.Proofs.YtnbanjbhjjhkdaaDoor.Opn
open Go.ChangeMaps (open_string shut_string)
set_option linter.unusedVariables false
theorem own : ownKnob Tryd.prog.godebug = none := by kernel_rfl
theorem laidOut : laidOutB Tryd.prog = true := by kernel_rfl
set_option maxRecDepth 100000 in
theorem lifted (os : Os) (started : os.Started) (H : Type) (enc : TypeId × Value → H) :
    ReturnsInHanded {} Tryd.checked os 4 .any (fun w args => (Rows.lineKnownSpec.pre enc Tryd.prog Tryd.f4 Rows.lineKnownRow.domain false w args ∧ laidMetH Tryd.prog Rows.lineKnownRow.laid w) ∧ sizedMet enc Tryd.prog Tryd.f4 (OpenSpec.ofChange Rows.lineKnownSpec) false w args) (Rows.lineKnownSpec.post enc Tryd.prog Tryd.f4 false true false false) := by
  refine DoorKit.change_laid (C := Tryd.checked) (X := fun w _ => laidMetH Tryd.prog Rows.lineKnownRow.laid w) (fun _ _ _ hh h => h.of_heap hh) own started (by kernel_rfl) Tryd.func4
    (ChangeSpec.witness_shaped (enc := enc) (C := Tryd.checked) (os := os) (X := fun w _ => laidMetH Tryd.prog Rows.lineKnownRow.laid w) false (DoorKit.laidWorld os) #[] 8 (World.laidAll_os _ _ _) (DoorKit.laid_shape _ _) (by kernel_rfl) (by kernel_rfl) (by kernel_rfl) (DoorKit.laid_met _ _)) ?_
  intro W base args ds gs before hval0 hW hcnd hsz0 hL hsh _
  have ht := DoorKit.tab_of_laid hL
  obtain ⟨ml, hml⟩ := DoorKit.len_of_shape hsh
  have hsz : (DataW.weightsEach Tryd.prog (Tryd.f4.params.toList ++ Rows.lineKnownSpec.plain.varTypes Tryd.prog) (ds ++ gs)).all (· ≤ reachBytes) = true := hsz0
  have hval : ∀ (j : Nat) t v, Tryd.f4.params[j]? = some t → args[j]? = some v → Value.okWide Tryd.prog W .any base t v := hval0
  have hW' := hW
  obtain ⟨p, q, hA0, hV, rfl, hfz, hnd⟩ := hW
  have hA : DataW.TrodAll enc Tryd.prog W 0 (fun _ => true) true Tryd.f4.params.toList args.toList ds p := hA0
  rw [Tryd.params4] at hA hval hsz
  obtain ⟨rfl, rfl, rfl⟩ := trodAll_none hA
  obtain ⟨rfl, rfl⟩ := trodVars_none hV
  clear hA0 hval0 hsz0 hsz
  refine (Pure.LineKnown  ml W ht hml  ).mono fun e W' ⟨he, bel⟩ => ?_
  subst he
  exact ⟨_, rfl, _, _, _, [], _, [], hW', trodAll_mk1 (shut_bool Tryd.underlying4 _), trodAll_mk0, rfl, bel.frame _, fun h => by cases h⟩
theorem over : Rows.lineKnownRow.holds Tryd.pinned (OpenSpec.ofChange Rows.lineKnownSpec) :=
  OpenClaim.holds_of_wide 4 Tryd.f4 rfl rfl rfl rfl rfl rfl rfl ⟨rfl, rfl, rfl, rfl, rfl⟩ rfl rfl rfl rfl rfl (by kernel_rfl) Tryd.func4 (by kernel_rfl)
    (of_decide_eq_true (by kernel_rfl)) (by unfold Func.isWrapper; first | (rw [if_pos (by decide +kernel)]; kernel_rfl) | (rw [if_neg (by decide +kernel)]; exact ⟨rfl, rfl⟩))
    (fun os started H enc _ => lifted os started H enc)
theorem proved : Rows.LineKnownSaid := over
#print axioms proved
end Go.Proofs.YtnbanjbhjjhkdaaDoor.lineKnown
namespace Go.Proofs.YtnbanjbhjjhkdaaDoor
/-- The row, under a short name, for the claim. -/
theorem lineKnown_holds : Rows.LineKnownSaid := lineKnown.proved
end Go.Proofs.YtnbanjbhjjhkdaaDoor
namespace Go.Proofs.YtnbanjbhjjhkdaaDoor
open Go Go.RowKit
theorem lineKnown_card : Rows.LineKnownCardSaid :=
  Claim7.holds_tied_plain_at .later [] [.data, .data, .data, .data, .pinned] true (true, "4cf98723bd7a27a039f18af8ece87c743e032efe5d9c6d5bb65ccd8dd5a6766f") true
    lineKnown_holds (fun _ h => by cases h) (by kernel_rfl) (fun _ h => by cases h) lineKnown_row_tie rfl ⟨rfl, rfl⟩ (by kernel_rfl) rfl
    (fun f fn hf hfn => by
      obtain rfl : f = 4 := Option.some.inj ((show Tryd.prog.funcNamed "bailiwick/bailiwicklaw23.LineKnown" = some 4 by kernel_rfl).symm.trans hf) |>.symm
      obtain rfl : fn = Tryd.f4 := (Option.some.inj (Tryd.func4.symm.trans hfn)).symm
      exact ⟨by kernel_rfl, fun j t ht => by
        rw [Tryd.params4] at ht
        simp at ht⟩)
    (by kernel_rfl)
#print axioms lineKnown_card
end Go.Proofs.YtnbanjbhjjhkdaaDoor
