/- Words and walks of this claim: PureRunsSteps. -/
import Derived.Test.YtjkhdldgmkkhjaaHLRSteps
set_option linter.unusedVariables false
set_option linter.unusedSimpArgs false
set_option linter.unnecessarySimpa false
namespace Go.Proofs.Ytjkhdldgmkkhjaa.Pure
open Go.Proofs.Ytjkhdldgmkkhjaa.P
theorem RunsSteps:canopylaw4_RunsSteps.Pure:=trivial
end Go.Proofs.Ytjkhdldgmkkhjaa.Pure
