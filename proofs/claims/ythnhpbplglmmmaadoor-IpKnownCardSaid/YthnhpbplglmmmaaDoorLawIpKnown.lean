-- Laid by a program (wip/tools/mkrow.py): the row of the law bailiwicklaw2_IpKnown, out of what is proved of it. Not trusted: Lean checks it.
import Derived.Test.YthnhpbplglmmmaaDoorRows
import Derived.Test.YthnhpbplglmmmaaDoorPureIpKnown
import Derived.Test.YthnhpbplglmmmaaDoorOpen
import Derived.Test.YthnhpbplglmmmaaDoorDoorKit
import Derived.Test.YthnhpbplglmmmaaDoorTie
import Derived.Test.YthnhpbplglmmmaaDoorCards
import Derived.WalkKit
import Derived.ProofKit
import Derived.OpenShut
import Derived.ShutString
import Derived.ChangeOld
import Derived.Below
import Derived.SizedLaws
import Derived.SevenTiedAt
namespace Go.Proofs.YthnhpbplglmmmaaDoor.ipKnown
open Go.ChangeShapes Go.WideShapes Go.ChangeAt Go.RowKit Go.Proofs.YthnhpbplglmmmaaDoorW.PrintWords Go.Proofs.YthnhpbplglmmmaaDoor.Opn
open Go.ChangeMaps (open_string shut_string)
set_option linter.unusedVariables false
theorem own : ownKnob Tryd.prog.godebug = none := by kernel_rfl
theorem laidOut : laidOutB Tryd.prog = true := by kernel_rfl
set_option maxRecDepth 100000 in
theorem lifted (os : Os) (started : os.Started) (H : Type) (enc : TypeId × Value → H) :
    ReturnsInHanded {} Tryd.checked os 5 .any (fun w args => (Rows.ipKnownSpec.pre enc Tryd.prog Tryd.f5 Rows.ipKnownRow.domain false w args ∧ laidMetH Tryd.prog Rows.ipKnownRow.laid w) ∧ sizedMet enc Tryd.prog Tryd.f5 (OpenSpec.ofChange Rows.ipKnownSpec) false w args) (Rows.ipKnownSpec.post enc Tryd.prog Tryd.f5 false true false false) := by
  refine DoorKit.change_laid (C := Tryd.checked) (X := fun w _ => laidMetH Tryd.prog Rows.ipKnownRow.laid w) (fun _ _ _ hh h => h.of_heap hh) own started (by kernel_rfl) Tryd.func5
    (ChangeSpec.witness_shaped (enc := enc) (C := Tryd.checked) (os := os) (X := fun w _ => laidMetH Tryd.prog Rows.ipKnownRow.laid w) false (DoorKit.laidWorld os) #[] 8 (World.laidAll_os _ _ _) (DoorKit.laid_shape _ _) (by kernel_rfl) (by kernel_rfl) (by kernel_rfl) (DoorKit.laid_met _ _)) ?_
  intro W base args ds gs before hval0 hW hcnd hsz0 hL hsh _
  have ht := DoorKit.tab_of_laid hL
  obtain ⟨ml, hml⟩ := DoorKit.len_of_shape hsh
  have her := DoorKit.errs_of_laid hL
  have hsz : (DataW.weightsEach Tryd.prog (Tryd.f5.params.toList ++ Rows.ipKnownSpec.plain.varTypes Tryd.prog) (ds ++ gs)).all (· ≤ reachBytes) = true := hsz0
  have hval : ∀ (j : Nat) t v, Tryd.f5.params[j]? = some t → args[j]? = some v → Value.okWide Tryd.prog W .any base t v := hval0
  have hW' := hW
  obtain ⟨p, q, hA0, hV, rfl, hfz, hnd⟩ := hW
  have hA : DataW.TrodAll enc Tryd.prog W 0 (fun _ => true) true Tryd.f5.params.toList args.toList ds p := hA0
  rw [Tryd.params5] at hA hval hsz
  obtain ⟨rfl, rfl, rfl⟩ := trodAll_none hA
  obtain ⟨rfl, rfl⟩ := trodVars_none hV
  clear hA0 hval0 hsz0 hsz
  refine (Pure.IpKnown  ml W ht hml her  ).mono fun e W' ⟨he, bel⟩ => ?_
  subst he
  exact ⟨_, rfl, _, _, _, [], _, [], hW', trodAll_mk1 (shut_bool Tryd.underlying4 _), trodAll_mk0, rfl, bel.frame _, fun h => by cases h⟩
theorem over : Rows.ipKnownRow.holds Tryd.pinned (OpenSpec.ofChange Rows.ipKnownSpec) :=
  OpenClaim.holds_of_wide 5 Tryd.f5 rfl rfl rfl rfl rfl rfl rfl ⟨rfl, rfl, rfl, rfl, rfl⟩ rfl rfl rfl rfl rfl (by kernel_rfl) Tryd.func5 (by kernel_rfl)
    (of_decide_eq_true (by kernel_rfl)) (by unfold Func.isWrapper; first | (rw [if_pos (by decide +kernel)]; kernel_rfl) | (rw [if_neg (by decide +kernel)]; exact ⟨rfl, rfl⟩))
    (fun os started H enc _ => lifted os started H enc)
theorem proved : Rows.IpKnownSaid := over
#print axioms proved
end Go.Proofs.YthnhpbplglmmmaaDoor.ipKnown
namespace Go.Proofs.YthnhpbplglmmmaaDoor
/-- The row, under a short name, for the claim. -/
theorem ipKnown_holds : Rows.IpKnownSaid := ipKnown.proved
end Go.Proofs.YthnhpbplglmmmaaDoor
namespace Go.Proofs.YthnhpbplglmmmaaDoor
open Go Go.RowKit
theorem ipKnown_card : Rows.IpKnownCardSaid :=
  Claim7.holds_tied_plain_at .later [] [.data, .data, .data, .data, .sentinel, .sentinel, .pinned] true (true, "6359c3c161ca2825ba27de2189e06a5afa14a43acaf1719eebc5f00a6e816183") true
    ipKnown_holds (fun _ h => by cases h) (by kernel_rfl) (fun _ h => by cases h) ipKnown_row_tie rfl ⟨rfl, rfl⟩ (by kernel_rfl) rfl
    (fun f fn hf hfn => by
      obtain rfl : f = 5 := Option.some.inj ((show Tryd.prog.funcNamed "bailiwick/bailiwicklaw2.IpKnown" = some 5 by kernel_rfl).symm.trans hf) |>.symm
      obtain rfl : fn = Tryd.f5 := (Option.some.inj (Tryd.func5.symm.trans hfn)).symm
      exact ⟨by kernel_rfl, fun j t ht => by
        rw [Tryd.params5] at ht
        simp at ht⟩)
    (by kernel_rfl)
#print axioms ipKnown_card
end Go.Proofs.YthnhpbplglmmmaaDoor
