/- Words and walks of this claim: PureRunsNorm. -/
import Derived.Test.YtjkhdldgmkkhjaaJLRNorm
set_option linter.unusedVariables false
set_option linter.unusedSimpArgs false
set_option linter.unnecessarySimpa false
namespace Go.Proofs.Ytjkhdldgmkkhjaa.Pure
open Go.Proofs.Ytjkhdldgmkkhjaa.P
theorem RunsNorm:canopylaw4_RunsNorm.Pure:=trivial
end Go.Proofs.Ytjkhdldgmkkhjaa.Pure
