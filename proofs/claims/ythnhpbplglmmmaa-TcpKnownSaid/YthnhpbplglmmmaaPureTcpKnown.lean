/- TcpKnown: chapter 4's examples. No condition. -/
import Derived.Test.YthnhpbplglmmmaaPureLibT
import Derived.Test.YthnhpbplglmmmaaPbailiwicklaw4TcpKnown
namespace Go.Proofs.Ythnhpbplglmmmaa.Pure
open Go.RowKit Go.Proofs.Ythnhpbplglmmmaa.P Go.Proofs.YthnhpbplglmmmaaW.PrintWords Go.Proofs.YthnhpbplglmmmaaW.PrintLast
set_option linter.unusedVariables false
set_option linter.unusedSimpArgs false
theorem TcpKnown : bailiwicklaw4_TcpKnown.Pure := ⟨100, by decide +kernel⟩
end Go.Proofs.Ythnhpbplglmmmaa.Pure
