/- SetsTables is walked by hand: nothing is left to say. -/
import Derived.Test.YtmkpfamngedcmaaLTables
namespace Go.Proofs.Ytmkpfamngedcmaa.Pure
open Go.Proofs.Ytmkpfamngedcmaa.P
theorem SetsTables : canopylaw2_SetsTables.Pure := trivial
end Go.Proofs.Ytmkpfamngedcmaa.Pure
