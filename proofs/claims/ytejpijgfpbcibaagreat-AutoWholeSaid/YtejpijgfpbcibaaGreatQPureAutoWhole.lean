/- Words and walks of this claim: PureAutoWhole. -/
import Derived.Test.YtejpijgfpbcibaaGreatQLWhole
namespace Go.Proofs.YtejpijgfpbcibaaGreat.Pure
open Go.Proofs.YtejpijgfpbcibaaGreat.P
theorem AutoWhole : canopylaw3_AutoWhole.Pure := trivial
end Go.Proofs.YtejpijgfpbcibaaGreat.Pure
