/- Chapter 6's first sentence. No statement of its own. -/
import Derived.Test.YtljnnhloinbjhaaPbailiwicklaw6
namespace Go.Proofs.Ytljnnhloinbjhaa.Pure
open Go.RowKit Go.Proofs.Ytljnnhloinbjhaa.P Go.Proofs.YtljnnhloinbjhaaW.PrintWords Go.Proofs.YtljnnhloinbjhaaW.PrintLast
set_option linter.unusedVariables false
set_option linter.unusedSimpArgs false
theorem awake6 : bailiwicklaw6_awake.f = some true := rfl
end Go.Proofs.Ytljnnhloinbjhaa.Pure
