/- Regions of tcp.Build, each walked once: the two appends, the check, the two stores. No statement of its own. -/
import Derived.Test.YtljnnhloinbjhaaPureWHand
import Derived.Test.YtljnnhloinbjhaaPoctet
import Derived.Test.YtljnnhloinbjhaaPudp
namespace Go.Proofs.Ytljnnhloinbjhaa.P
open Go.RowKit Go.Proofs.YtljnnhloinbjhaaW.PrintWords Go.Proofs.YtljnnhloinbjhaaW.PrintLast Go.Proofs.YtljnnhloinbjhaaW.PrintMore
set_option linter.unusedVariables false
set_option linter.unusedSimpArgs false
end Go.Proofs.Ytljnnhloinbjhaa.P
