/- SetsOrders is walked by hand: nothing is left to say. -/
import Derived.Test.YtmkpfamngedcmaaLOrders
namespace Go.Proofs.Ytmkpfamngedcmaa.Pure
open Go.Proofs.Ytmkpfamngedcmaa.P
theorem SetsOrders : canopylaw2_SetsOrders.Pure := trivial
end Go.Proofs.Ytmkpfamngedcmaa.Pure
