/- Words and walks of this claim: PureAutoTrims. -/
import Derived.Test.YtejpijgfpbcibaaGreatRLTrims
set_option linter.unusedVariables false
set_option linter.unusedSimpArgs false
set_option linter.unnecessarySimpa false
namespace Go.Proofs.YtejpijgfpbcibaaGreat.Pure
open Go.RowKit Go.Proofs.YtejpijgfpbcibaaGreat.P Go.Proofs.YtejpijgfpbcibaaGreatW.PrintWords Go.Proofs.YtejpijgfpbcibaaGreatW.PrintLast
theorem AutoTrims:canopylaw3_AutoTrims.Pure:=trivial
end Go.Proofs.YtejpijgfpbcibaaGreat.Pure
