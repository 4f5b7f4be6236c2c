/- FrameQuotes: what any bytes quote is what the document says, or they are no quote. For at most 100000 bytes. -/
import Derived.Test.YtljnnhloinbjhaaPureLibF
import Derived.Test.YtljnnhloinbjhaaPureLibFQ
import Derived.Test.YtljnnhloinbjhaaPbailiwicklaw6FrameQuotes
namespace Go.Proofs.Ytljnnhloinbjhaa.Pure
open Go.RowKit Go.Proofs.Ytljnnhloinbjhaa.P Go.Proofs.YtljnnhloinbjhaaW.PrintWords Go.Proofs.YtljnnhloinbjhaaW.PrintLast
set_option linter.unusedVariables false
set_option linter.unusedSimpArgs false
theorem FrameQuotes : bailiwicklaw6_FrameQuotes.Pure := by
  intro l0 ⟨h1, h2, h3⟩
  refine ⟨60, ?_⟩
  have hb : Bytes l0 := bytes_of h3
  unfold bailiwicklaw6_FrameQuotes.f
  rw [awake6, Option.bind_some, if_pos rfl]
  by_cases c : (l0.length : Int) > 100000
  · rw [if_pos c]
  rw [if_neg c, fquote_frame l0 hb, Option.bind_some, fquote_ref l0 hb (by omega) 60 (by decide), Option.bind_some, if_pos (by simp)]
  simp
end Go.Proofs.Ytljnnhloinbjhaa.Pure
