/- The example of the chapter on running times holds. -/
import Derived.Test.YtfnpoalffpnllaaXDynamicsExamplesx4
import Derived.Test.YtfnpoalffpnllaaDynMath
import Derived.OpenShut
set_option linter.unusedVariables false
set_option linter.unusedSimpArgs false
set_option linter.unusedSectionVars false
namespace Go.Proofs.Ytfnpoalffpnllaa.Pure
open Go.RowKit Go.Proofs.Ytfnpoalffpnllaa.XDynamicsExamples Go.Proofs.YtfnpoalffpnllaaW.PrintWords Go.Proofs.YtfnpoalffpnllaaW.PrintLast Go.Proofs.YtfnpoalffpnllaaW.PrintMore Go.Proofs.Ytfnpoalffpnllaa.DynMath

theorem DynamicsExamples : railplanlaw6_DynamicsExamples.Pure := ⟨100, by decide +kernel⟩

end Go.Proofs.Ytfnpoalffpnllaa.Pure
