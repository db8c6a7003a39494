/- SetsNumbers is walked by hand: nothing is left to say. -/
import Derived.Test.YtmkpfamngedcmaaLNumbers
namespace Go.Proofs.Ytmkpfamngedcmaa.Pure
open Go.Proofs.Ytmkpfamngedcmaa.P
theorem SetsNumbers : canopylaw2_SetsNumbers.Pure := trivial
end Go.Proofs.Ytmkpfamngedcmaa.Pure
