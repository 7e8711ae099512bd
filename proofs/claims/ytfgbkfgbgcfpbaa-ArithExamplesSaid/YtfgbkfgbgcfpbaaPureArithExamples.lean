/- The examples of the chapter on arithmetic hold. -/
import Derived.Test.YtfgbkfgbgcfpbaaPArithExamplesx1
import Derived.OpenShut
namespace Go.Proofs.Ytfgbkfgbgcfpbaa.Pure
open Go.RowKit Go.Proofs.Ytfgbkfgbgcfpbaa.PArithExamples Go.Proofs.YtfgbkfgbgcfpbaaW.PrintWords Go.Proofs.YtfgbkfgbgcfpbaaW.PrintLast

theorem ArithExamples : railplanlaw1_ArithExamples.Pure := ⟨64, by decide +kernel⟩

end Go.Proofs.Ytfgbkfgbgcfpbaa.Pure
