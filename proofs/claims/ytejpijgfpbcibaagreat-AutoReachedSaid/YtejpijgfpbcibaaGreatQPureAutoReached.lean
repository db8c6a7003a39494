/- Words and walks of this claim: PureAutoReached. -/
import Derived.Test.YtejpijgfpbcibaaGreatQLReached
namespace Go.Proofs.YtejpijgfpbcibaaGreat.Pure
open Go.Proofs.YtejpijgfpbcibaaGreat.P
theorem AutoReached : canopylaw3_AutoReached.Pure := trivial
end Go.Proofs.YtejpijgfpbcibaaGreat.Pure
