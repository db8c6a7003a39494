/- Words and walks of this claim: PureRunsOwn. -/
import Derived.Test.YtjkhdldgmkkhjaaGLROwn
set_option linter.unusedVariables false
set_option linter.unusedSimpArgs false
set_option linter.unnecessarySimpa false
namespace Go.Proofs.Ytjkhdldgmkkhjaa.Pure
open Go.Proofs.Ytjkhdldgmkkhjaa.P
theorem RunsOwn:canopylaw4_RunsOwn.Pure:=trivial
end Go.Proofs.Ytjkhdldgmkkhjaa.Pure
