/- FrameProtos: the protocol of each kind is the document's. No condition but that the kind is an int. -/
import Derived.Test.YtljnnhloinbjhaaPframe
import Derived.Test.YtljnnhloinbjhaaPbailiwickref6Proto
import Derived.Test.YtljnnhloinbjhaaPureLibF
import Derived.Test.YtljnnhloinbjhaaPbailiwicklaw6FrameProtos
namespace Go.Proofs.Ytljnnhloinbjhaa.Pure
open Go.RowKit Go.Proofs.Ytljnnhloinbjhaa.P Go.Proofs.YtljnnhloinbjhaaW.PrintWords Go.Proofs.YtljnnhloinbjhaaW.PrintLast
set_option linter.unusedVariables false
set_option linter.unusedSimpArgs false
theorem proto6 (a0 : Int) : ∃ r, frame_Proto.f a0 = some r ∧ bailiwickref6_Proto.f a0 = some r := by
  unfold frame_Proto.f bailiwickref6_Proto.f
  repeat' split
  all_goals first | exact ⟨_, rfl, rfl⟩ | (exfalso; omega)
theorem FrameProtos : bailiwicklaw6_FrameProtos.Pure := by
  intro a0 _
  obtain ⟨r, h1, h2⟩ := proto6 a0
  unfold bailiwicklaw6_FrameProtos.f
  rw [awake6, Option.bind_some, if_pos rfl, h1, Option.bind_some, h2, Option.bind_some]
  simp
end Go.Proofs.Ytljnnhloinbjhaa.Pure
