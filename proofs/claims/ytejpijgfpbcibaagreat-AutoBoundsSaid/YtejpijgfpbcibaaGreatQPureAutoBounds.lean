/- Words and walks of this claim: PureAutoBounds. -/
import Derived.Test.YtejpijgfpbcibaaGreatQLBounds
namespace Go.Proofs.YtejpijgfpbcibaaGreat.Pure
open Go.Proofs.YtejpijgfpbcibaaGreat.P
theorem AutoBounds : canopylaw3_AutoBounds.Pure := trivial
end Go.Proofs.YtejpijgfpbcibaaGreat.Pure
