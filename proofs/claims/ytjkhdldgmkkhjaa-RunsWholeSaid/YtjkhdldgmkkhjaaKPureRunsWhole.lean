/- Words and walks of this claim: PureRunsWhole. -/
import Derived.Test.YtjkhdldgmkkhjaaKLRWhole
set_option linter.unusedVariables false
set_option linter.unusedSimpArgs false
set_option linter.unnecessarySimpa false
namespace Go.Proofs.Ytjkhdldgmkkhjaa.Pure
open Go.Proofs.Ytjkhdldgmkkhjaa.P
theorem RunsWhole:canopylaw4_RunsWhole.Pure:=trivial
end Go.Proofs.Ytjkhdldgmkkhjaa.Pure
