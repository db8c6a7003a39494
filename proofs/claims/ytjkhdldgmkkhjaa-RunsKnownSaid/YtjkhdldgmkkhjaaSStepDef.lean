/- runs.Start, runs.Step: what they compute: the places of a machine. -/
import Derived.Test.YtjkhdldgmkkhjaaSOrder
import Derived.Test.YtjkhdldgmkkhjaaSTakesDef
set_option linter.unusedVariables false
set_option linter.unusedSimpArgs false
set_option linter.unnecessarySimpa false
namespace Go.Proofs.Ytjkhdldgmkkhjaa.P
open Go.RowKit Go.Sort Go.Shelf Go.Proofs.YtjkhdldgmkkhjaaW.PrintWords Go.Proofs.YtjkhdldgmkkhjaaW.PrintLast Go.Proofs.YtjkhdldgmkkhjaaW.PrintMore Go.Proofs.Ytjkhdldgmkkhjaa.M

abbrev TAt := S48
theorem totalAt : TotalCmp cmpAt := TotalCmp.or totalInt totalList (fun x : TAt => x.f0) (fun x : TAt => x.f1) (fun x y h1 h2 => by cases x; cases y; simp at h1 h2; rw [h1, h2])
def innerL (l6 : List TInner) (x : TAt) (sym : Int) : List TAt := (l6.filter fun r => decide (r.f0 = x.f0 ∧ r.f1 = sym)).map fun r => ⟨r.f2, x.f1⟩
def openL (l4 : List TOpen) (x : TAt) (sym : Int) : List TAt := (l4.filter fun r => decide (r.f0 = x.f0 ∧ r.f1 = sym)).map fun r => ⟨r.f2, r.f3 :: x.f1⟩
def closeL (l5 : List TClose) (x : TAt) (sym : Int) : List TAt := (l5.filter fun r => decide (r.f0 = x.f0 ∧ r.f1 = sym ∧ r.f2 = x.f1.headD 0)).map fun r => ⟨r.f3, x.f1.tail⟩
def moveL (os : List TOpen) (cs : List TClose) (is : List TInner) (kind sym : Int) (x : TAt) : List TAt := if kind = 1 then openL os x sym else if kind = 2 then closeL cs x sym else innerL is x sym
def stepL (l : List TSym) (os : List TOpen) (cs : List TClose) (is : List TInner) (at_ : List TAt) (sym : Int) : List TAt :=
  if 0 ≤ sym ∧ sym < l.length then onceC cmpAt (at_.flatMap (moveL os cs is (rd_T46 l sym).f1 sym)) else []
def stepOk (os : List TOpen) (cs : List TClose) (is : List TInner) (at_ : List TAt) : Prop := (at_.length + 1) * (os.length + cs.length + is.length + 1) ≤ 100000000 ∧ ∀ x ∈ at_, x.f1.length ≤ 10000000
instance (os : List TOpen) (cs : List TClose) (is : List TInner) (at_ : List TAt) : Decidable (stepOk os cs is at_) := by unfold stepOk; infer_instance
def runs_Step.f (l0 : List TSym) (a1_0 a1_1 : Int) (l1_2 l1_3 : List Int) (l1_4 : List TOpen) (l1_5 : List TClose) (l1_6 : List TInner) (l2 : List TAt) (a3 : Int) : Option (List TAt) :=
  if stepOk l1_4 l1_5 l1_6 l2 then some (stepL l0 l1_4 l1_5 l1_6 l2 a3) else none
def startL (init : List Int) : List TAt := onceC cmpAt (init.map fun s => ⟨s, []⟩)
def runs_Start.f (a0_0 a0_1 : Int) (l0_2 l0_3 : List Int) (l0_4 : List TOpen) (l0_5 : List TClose) (l0_6 : List TInner) : Option (List TAt) := if l0_2.length ≤ 1000000 then some (startL l0_2) else none
end Go.Proofs.Ytjkhdldgmkkhjaa.P
