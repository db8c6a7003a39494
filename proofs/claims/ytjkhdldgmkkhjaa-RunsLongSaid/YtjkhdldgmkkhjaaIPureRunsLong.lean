/- Words and walks of this claim: PureRunsLong. -/
import Derived.Test.YtjkhdldgmkkhjaaILRLong
set_option linter.unusedVariables false
set_option linter.unusedSimpArgs false
set_option linter.unnecessarySimpa false
namespace Go.Proofs.Ytjkhdldgmkkhjaa.Pure
open Go.Proofs.Ytjkhdldgmkkhjaa.P
theorem RunsLong:canopylaw4_RunsLong.Pure:=trivial
end Go.Proofs.Ytjkhdldgmkkhjaa.Pure
