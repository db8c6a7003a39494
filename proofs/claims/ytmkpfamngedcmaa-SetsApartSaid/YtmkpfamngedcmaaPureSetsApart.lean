/- SetsApart is walked by hand: nothing is left to say. -/
import Derived.Test.YtmkpfamngedcmaaLApart
namespace Go.Proofs.Ytmkpfamngedcmaa.Pure
open Go.Proofs.Ytmkpfamngedcmaa.P
theorem SetsApart : canopylaw2_SetsApart.Pure := trivial
end Go.Proofs.Ytmkpfamngedcmaa.Pure
