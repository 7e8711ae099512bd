/- The example of chapter 17: one closed case. -/
import Derived.Test.YtpioelilfhkfdaaXAllx36
set_option linter.unusedVariables false
namespace Go.Proofs.Ytpioelilfhkfdaa.Pure
open Go.RowKit Go.Proofs.Ytpioelilfhkfdaa.XAll Go.Proofs.YtpioelilfhkfdaaW.PrintWords Go.Proofs.YtpioelilfhkfdaaW.PrintLast
theorem SearchExamples : railplanlaw17_SearchExamples.Pure := ⟨60, by decide +kernel⟩
end Go.Proofs.Ytpioelilfhkfdaa.Pure
