/- Words and walks of this claim: MFar. -/
import Derived.Test.YtjkhdldgmkkhjaaGWWords
set_option linter.unusedVariables false
set_option linter.unusedSimpArgs false
set_option linter.unnecessarySimpa false
namespace Go.Proofs.Ytjkhdldgmkkhjaa.M
open Go.RowKit Go.Proofs.YtjkhdldgmkkhjaaW.PrintWords
theorem sq3 {α:Type} : (∀(l:List α) (i:Nat) (a:α),l.toArray.setIfInBounds i a=(l.set i a).toArray)∧(∀(x a:α) (l:List α),(a :: l).set 0 x=x :: l)∧(∀(x a:α) (l:List α) (i:Nat),(a :: l).set (i+1) x=a :: l.set i x):=
 ⟨fun l i a=>List.setIfInBounds_toArray l i a,fun x a l=>List.set_cons_zero,fun x a l i=>List.set_cons_succ⟩
end Go.Proofs.Ytjkhdldgmkkhjaa.M
