/- SetsKeeps is walked by hand: nothing is left to say. -/
import Derived.Test.YtmkpfamngedcmaaLKeeps
namespace Go.Proofs.Ytmkpfamngedcmaa.Pure
open Go.Proofs.Ytmkpfamngedcmaa.P
theorem SetsKeeps : canopylaw2_SetsKeeps.Pure := trivial
end Go.Proofs.Ytmkpfamngedcmaa.Pure
