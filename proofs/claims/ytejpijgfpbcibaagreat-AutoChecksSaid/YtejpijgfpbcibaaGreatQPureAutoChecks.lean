/- Words and walks of this claim: PureAutoChecks. -/
import Derived.Test.YtejpijgfpbcibaaGreatQLChecks
namespace Go.Proofs.YtejpijgfpbcibaaGreat.Pure
open Go.Proofs.YtejpijgfpbcibaaGreat.P
theorem AutoChecks : canopylaw3_AutoChecks.Pure := trivial
end Go.Proofs.YtejpijgfpbcibaaGreat.Pure
