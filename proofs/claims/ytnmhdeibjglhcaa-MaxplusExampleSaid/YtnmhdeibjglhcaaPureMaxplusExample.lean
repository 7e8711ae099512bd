/- The example: one closed case. -/
import Derived.Test.YtnmhdeibjglhcaaXAllx20
set_option linter.unusedVariables false
namespace Go.Proofs.Ytnmhdeibjglhcaa.Pure
open Go.RowKit Go.Proofs.Ytnmhdeibjglhcaa.XAll Go.Proofs.YtnmhdeibjglhcaaW.PrintWords Go.Proofs.YtnmhdeibjglhcaaW.PrintLast Go.Proofs.YtnmhdeibjglhcaaW.PrintMore
theorem MaxplusExample : railplanlaw33_MaxplusExample.Pure := ⟨60, by decide +kernel⟩
end Go.Proofs.Ytnmhdeibjglhcaa.Pure
