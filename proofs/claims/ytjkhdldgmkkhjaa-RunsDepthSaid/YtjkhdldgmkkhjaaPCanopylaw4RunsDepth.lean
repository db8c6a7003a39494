-- Written by wip/tools/prn.py (a program of this claim's author), which runs the kit's printer: not by hand.
import Derived.Test.YtjkhdldgmkkhjaaP0
import Derived.Test.YtjkhdldgmkkhjaaPCanopylaw1Syms
import Derived.Test.YtjkhdldgmkkhjaaPCanopylaw3Make
import Derived.Test.YtjkhdldgmkkhjaaPCanopylaw4Few
import Derived.Test.YtjkhdldgmkkhjaaPCanopylaw1Word
import Derived.Test.YtjkhdldgmkkhjaaSKnown
import Derived.Test.YtjkhdldgmkkhjaaSStart
import Derived.Test.YtjkhdldgmkkhjaaSStep
namespace Go.Proofs.Ytjkhdldgmkkhjaa.P
open Go.RowKit Go.Proofs.YtjkhdldgmkkhjaaW.PrintWords Go.Proofs.YtjkhdldgmkkhjaaW.PrintLast Go.Proofs.YtjkhdldgmkkhjaaW.PrintMore
attribute [local go_sem] max2_int min2_int max_two min_two max_three min_three max_four min_four   -- for this text's walks alone
set_option linter.unusedVariables false
set_option linter.unusedSimpArgs false

abbrev bzd0 : Array Bool := #[false, false, false, false, false, false, false, false, false, false, false, false, false, false, false, false, false, false, false, false, false, false, false, false, false, false, false, false, false, false, false, false, false, false, false, false, false, false, false, false, false, false, false, false]
abbrev bzd1 : Array Bool := #[true, false, false, false, false, false, false, false, false, false, false, false, false, false, false, false, false, false, false, false, false, false, false, false, false, false, false, false, false, false, false, false, false, false, false, false, false, false, false, false, false, false, false, false]
abbrev bzd2 : Array Bool := #[true, true, false, false, false, false, false, false, false, false, false, false, false, false, false, false, false, false, false, false, false, false, false, false, false, false, false, false, false, false, false, false, false, false, false, false, false, false, false, false, false, false, false, false]
abbrev bzd3 : Array Bool := #[true, true, true, false, false, false, false, false, false, false, false, false, false, false, false, false, false, false, false, false, false, false, false, false, false, false, false, false, false, false, false, false, false, false, false, false, false, false, false, false, false, false, false, false]
abbrev bzd4 : Array Bool := #[true, true, true, true, false, false, false, false, false, false, false, false, false, false, false, false, false, false, false, false, false, false, false, false, false, false, false, false, false, false, false, false, false, false, false, false, false, false, false, false, false, false, false, false]
abbrev bzd5 : Array Bool := #[true, true, true, true, false, false, true, false, false, false, false, false, false, false, false, false, false, false, false, false, false, false, false, false, false, false, false, false, false, false, false, false, false, false, false, false, false, false, false, false, false, false, false, false]
abbrev bzd6 : Array Bool := #[true, true, true, true, true, false, true, false, false, false, false, false, false, false, false, false, false, false, false, false, false, false, false, false, false, false, false, false, false, false, false, false, false, false, false, false, false, false, false, false, false, false, false, false]
abbrev bzd7 : Array Bool := #[true, true, true, true, true, true, true, false, false, false, false, false, false, false, false, false, false, false, false, false, false, false, false, false, false, false, false, false, false, false, false, false, false, false, false, false, false, false, false, false, false, false, false, false]
abbrev bzd8 : Array Bool := #[true, true, true, true, true, true, true, true, false, false, false, false, false, false, false, false, false, false, false, false, false, false, false, false, false, false, false, false, false, false, false, false, false, false, false, false, false, false, false, false, false, false, false, false]
abbrev bzd9 : Array Bool := #[true, true, true, true, true, true, true, true, true, false, false, false, false, false, false, false, false, false, false, false, false, false, false, false, false, false, false, false, false, false, false, false, false, false, false, false, false, false, false, false, false, false, false, false]
abbrev bzd10 : Array Bool := #[true, true, true, true, true, true, true, true, true, true, false, false, false, false, false, false, false, false, false, false, false, false, false, false, false, false, false, false, false, false, false, false, false, false, false, false, false, false, false, false, false, false, false, false]
abbrev bzd11 : Array Bool := #[true, true, true, true, true, true, true, true, true, true, true, false, false, false, false, false, false, false, false, false, false, false, false, false, false, false, false, false, false, false, false, false, false, false, false, false, false, false, false, false, false, false, false, false]
abbrev bzd12 : Array Bool := #[true, true, true, true, true, true, true, true, true, true, true, true, false, false, false, false, false, false, false, false, false, false, false, false, false, false, false, false, false, false, false, false, false, false, false, false, false, false, false, false, false, false, false, false]
abbrev bzd13 : Array Bool := #[true, true, true, true, true, true, true, true, true, true, true, true, true, false, false, false, false, false, false, false, false, false, false, false, false, false, false, false, false, false, false, false, false, false, false, false, false, false, false, false, false, false, false, false]
abbrev bzd14 : Array Bool := #[true, true, true, true, true, true, true, true, true, true, true, true, true, true, false, false, false, false, false, false, false, false, false, false, false, false, false, false, false, false, false, false, false, false, false, false, false, false, false, false, false, false, false, false]
abbrev bzd15 : Array Bool := #[true, true, true, true, true, true, true, true, true, true, true, true, true, true, true, false, false, false, false, false, false, false, false, false, false, false, false, false, false, false, false, false, false, false, false, false, false, false, false, false, false, false, false, false]
abbrev bzd16 : Array Bool := #[true, true, true, true, true, true, true, true, true, true, true, true, true, true, true, true, false, false, false, false, false, false, false, false, false, false, false, false, false, false, false, false, false, false, false, false, false, false, false, false, false, false, false, false]
abbrev bzd17 : Array Bool := #[true, true, true, true, true, true, true, true, true, true, true, true, true, true, true, true, true, false, false, false, false, false, false, false, false, false, false, false, false, false, false, false, false, false, false, false, false, false, false, false, false, false, false, false]
abbrev bzd18 : Array Bool := #[true, true, true, true, true, true, true, true, true, true, true, true, true, true, true, true, true, true, false, false, false, false, false, false, false, false, false, false, false, false, false, false, false, false, false, false, false, false, false, false, false, false, false, false]
abbrev bzd19 : Array Bool := #[true, true, true, true, true, true, true, true, true, true, true, true, true, true, true, true, true, true, true, false, false, false, false, false, false, false, false, false, false, false, false, false, false, false, false, false, false, false, false, false, false, false, false, false]
abbrev bzd20 : Array Bool := #[true, true, true, true, true, true, true, true, true, true, true, true, true, true, true, true, true, true, true, true, false, false, false, false, false, false, false, false, false, false, false, false, false, false, false, false, false, false, false, false, false, false, false, false]
abbrev bzd21 : Array Bool := #[true, true, true, true, true, true, true, true, true, true, true, true, true, true, true, true, true, true, true, true, true, false, false, false, false, false, false, false, false, false, false, false, false, false, false, false, false, false, false, false, false, false, false, false]
abbrev bzd22 : Array Bool := #[true, true, true, true, true, true, true, true, true, true, true, true, true, true, true, true, true, true, true, true, true, true, false, false, false, false, false, false, false, false, false, false, false, false, false, false, false, false, false, false, false, false, false, false]
abbrev bzd23 : Array Bool := #[true, true, true, true, true, true, true, true, true, true, true, true, true, true, true, true, true, true, true, true, true, true, true, false, false, false, false, false, false, false, false, false, false, false, false, false, false, false, false, false, false, false, false, false]
abbrev bzd24 : Array Bool := #[true, true, true, true, true, true, true, true, true, true, true, true, true, true, true, true, true, true, true, true, true, true, true, true, false, false, false, false, false, false, false, false, false, false, false, false, false, false, false, false, false, false, false, false]
abbrev bzd25 : Array Bool := #[true, true, true, true, true, true, true, true, true, true, true, true, true, true, true, true, true, true, true, true, true, true, true, true, true, false, false, false, false, false, false, false, false, false, false, false, false, false, false, false, false, false, false, false]
abbrev bzd26 : Array Bool := #[true, true, true, true, true, true, true, true, true, true, true, true, true, true, true, true, true, true, true, true, true, true, true, true, true, true, false, false, false, false, false, false, false, false, false, false, false, false, false, false, false, false, false, false]
abbrev bzd27 : Array Bool := #[true, true, true, true, true, true, true, true, true, true, true, true, true, true, true, true, true, true, true, true, true, true, true, true, true, true, true, false, false, false, false, false, false, false, false, false, false, false, false, false, false, false, false, false]
abbrev bzd28 : Array Bool := #[true, true, true, true, true, true, true, true, true, true, true, true, true, true, true, true, true, true, true, true, true, true, true, true, true, true, true, true, false, false, false, false, false, false, false, false, false, false, false, false, false, false, false, false]
abbrev bzd29 : Array Bool := #[true, true, true, true, true, true, true, true, true, true, true, true, true, true, true, true, true, true, true, true, true, true, true, true, true, true, true, true, true, false, false, false, false, false, false, false, false, false, false, false, false, false, false, false]
abbrev bzd30 : Array Bool := #[true, true, true, true, true, true, true, true, true, true, true, true, true, true, true, true, true, true, true, true, true, true, true, true, true, true, true, true, true, true, false, false, false, false, false, false, false, false, false, false, false, false, false, false]
abbrev bzd31 : Array Bool := #[true, true, true, true, true, true, true, true, true, true, true, true, true, true, true, true, true, true, true, true, true, true, true, true, true, true, true, true, true, true, true, false, false, false, false, false, false, false, false, false, false, false, false, false]
abbrev bzd32 : Array Bool := #[true, true, true, true, true, true, true, true, true, true, true, true, true, true, true, true, true, true, true, true, true, true, true, true, true, true, true, true, true, true, true, true, false, false, false, false, false, false, false, false, false, false, false, false]
abbrev bzd33 : Array Bool := #[true, true, true, true, true, true, true, true, true, true, true, true, true, true, true, true, true, true, true, true, true, true, true, true, true, true, true, true, true, true, true, true, true, false, false, false, false, false, false, false, false, false, false, false]
abbrev bzd34 : Array Bool := #[true, true, true, true, true, true, true, true, true, true, true, true, true, true, true, true, true, true, true, true, true, true, true, true, true, true, true, true, true, true, true, true, true, true, false, false, false, false, false, false, false, false, false, false]
abbrev bzd35 : Array Bool := #[true, true, true, true, true, true, true, true, true, true, true, true, true, true, true, true, true, true, true, true, true, true, true, true, true, true, true, true, true, true, true, true, true, true, true, false, false, false, false, false, false, false, false, false]
abbrev bzd36 : Array Bool := #[true, true, true, true, true, true, true, true, true, true, true, true, true, true, true, true, true, true, true, true, true, true, true, true, true, true, true, true, true, true, true, true, true, true, true, true, false, false, false, false, false, false, false, false]
abbrev bzd37 : Array Bool := #[true, true, true, true, true, true, true, true, true, true, true, true, true, true, true, true, true, true, true, true, true, true, true, true, true, true, true, true, true, true, true, true, true, true, true, true, true, false, false, false, false, false, false, false]
abbrev bzd38 : Array Bool := #[true, true, true, true, true, true, true, true, true, true, true, true, true, true, true, true, true, true, true, true, true, true, true, true, true, true, true, true, true, true, true, true, true, true, true, true, true, true, false, false, false, false, false, false]
abbrev bzd39 : Array Bool := #[true, true, true, true, true, true, true, true, true, true, true, true, true, true, true, true, true, true, true, true, true, true, true, true, true, true, true, true, true, true, true, true, true, true, true, true, true, true, true, false, false, false, false, false]
abbrev bzd40 : Array Bool := #[true, true, true, true, true, true, true, true, true, true, true, true, true, true, true, true, true, true, true, true, true, true, true, true, true, true, true, true, true, true, true, true, true, true, true, true, true, true, true, true, false, false, false, false]
abbrev bzd41 : Array Bool := #[true, true, true, true, true, true, true, true, true, true, true, true, true, true, true, true, true, true, true, true, true, true, true, true, true, true, true, true, true, true, true, true, true, true, true, true, true, true, true, true, true, false, false, false]
abbrev bzd42 : Array Bool := #[true, true, true, true, true, true, true, true, true, true, true, true, true, true, true, true, true, true, true, true, true, true, true, true, true, true, true, true, true, true, true, true, true, true, true, true, true, true, true, true, true, true, false, false]
abbrev bzd43 : Array Bool := #[true, true, true, true, true, true, true, true, true, true, true, true, true, true, true, true, true, true, true, true, true, true, true, true, true, true, true, true, true, true, true, true, true, true, true, true, true, true, true, true, true, true, true, false]
abbrev bzd44 : Array Bool := #[true, true, true, true, true, true, true, true, true, true, true, true, true, true, true, true, true, true, true, true, true, true, true, true, true, true, true, true, true, true, true, true, true, true, true, true, true, true, true, true, true, true, true, true]
abbrev bzd45 : Array Bool := #[true, true, true, true, true, true, true, true, true, true, true, true, true, true, true, true, true, true, true, true, true, false, true, false, false, false, false, false, false, false, false, false, false, false, false, false, false, false, false, false, false, false, false, false]
abbrev bzd46 : Array Bool := #[true, true, true, true, true, true, true, true, true, true, true, true, true, true, true, true, true, true, true, true, true, true, true, true, true, true, true, true, true, true, true, true, true, true, true, false, true, false, false, false, false, false, false, false]
abbrev bzd47 : Array Bool := #[true, true, true, true, true, true, true, true, true, true, true, true, true, true, true, true, true, true, true, true, true, true, true, true, true, true, true, true, true, true, true, true, true, true, true, false, true, true, false, false, false, false, false, false]
abbrev bzd48 : Array Bool := #[true, true, true, true, true, true, true, true, true, true, true, true, true, true, true, true, true, true, true, true, true, true, true, true, true, true, true, true, true, true, true, true, true, true, true, false, true, true, true, false, false, false, false, false]
abbrev bzd49 : Array Bool := #[true, true, true, true, true, true, true, true, true, true, true, true, true, true, true, true, true, true, true, true, true, true, true, true, true, true, true, true, true, true, true, true, true, true, true, false, true, true, true, true, false, false, false, false]
/-! ### canopylaw4_RunsDepth: function 5 -/
mutual
def canopylaw4_RunsDepth.l0 : Nat → List (S46) → List Int → List (S48) → Int → Int → Int → Int → List Int → List Int → List (S52) → List (S54) → List (S56) → Option (Bool)
 | 0, _, _, _, _, _, _, _, _, _, _, _, _ => none
 | k + 1, x9, x11, x12, x13, x14, x414000, x414001, x414002, x414003, x414004, x414005, x414006 => if x14 < (x11.length : Int) then (if 0 ≤ x14 then ((runs_Step.f x9 x414000 x414001 x414002 x414003 x414004 x414005 x414006 x12 (rd x11 x14)).bind fun t424 => (if 0 ≤ (rd x11 x14) then (if (rd x11 x14) < (x9.length : Int) then (if ((rd_T46 x9 (rd x11 x14)).f1) = 1 then (canopylaw4_RunsDepth.j1 k x9 x11 t424 (wrap64 (x13 + 1)) x14 x414000 x414001 x414002 x414003 x414004 x414005 x414006) else (if ((rd_T46 x9 (rd x11 x14)).f1) = 2 then (canopylaw4_RunsDepth.j1 k x9 x11 t424 (mx (wrap64 (x13 - 1)) 0) x14 x414000 x414001 x414002 x414003 x414004 x414005 x414006) else (canopylaw4_RunsDepth.j1 k x9 x11 t424 x13 x14 x414000 x414001 x414002 x414003 x414004 x414005 x414006))) else (none)) else (none))) else (none)) else (some true)
def canopylaw4_RunsDepth.j1 : Nat → List (S46) → List Int → List (S48) → Int → Int → Int → Int → List Int → List Int → List (S52) → List (S54) → List (S56) → Option (Bool)
 | 0, _, _, _, _, _, _, _, _, _, _, _, _ => none
 | k + 1, x9, x11, x12, x13, x14, x414000, x414001, x414002, x414003, x414004, x414005, x414006 => canopylaw4_RunsDepth.l1 k x9 x11 x12 x13 x14 0 x414000 x414001 x414002 x414003 x414004 x414005 x414006
def canopylaw4_RunsDepth.l1 : Nat → List (S46) → List Int → List (S48) → Int → Int → Int → Int → Int → List Int → List Int → List (S52) → List (S54) → List (S56) → Option (Bool)
 | 0, _, _, _, _, _, _, _, _, _, _, _, _, _ => none
 | k + 1, x9, x11, x12, x13, x14, x15, x414000, x414001, x414002, x414003, x414004, x414005, x414006 => if x15 < (x12.length : Int) then (if 0 ≤ x15 then (if (((rd_T48 x12 x15).f1).length : Int) = x13 then (if ((rd_T48 x12 x15).f0) < 0 then (some false) else (if ((rd_T48 x12 x15).f0) ≥ x414000 then (some false) else (if x15 > 0 then (if 0 ≤ (wrap64 (x15 - 1)) then (if (wrap64 (x15 - 1)) < (x12.length : Int) then (if ((rd_T48 x12 (wrap64 (x15 - 1))).f0) > ((rd_T48 x12 x15).f0) then (some false) else (canopylaw4_RunsDepth.l1 k x9 x11 x12 x13 x14 (wrap64 (x15 + 1)) x414000 x414001 x414002 x414003 x414004 x414005 x414006)) else (none)) else (none)) else (canopylaw4_RunsDepth.l1 k x9 x11 x12 x13 x14 (wrap64 (x15 + 1)) x414000 x414001 x414002 x414003 x414004 x414005 x414006)))) else (some false)) else (none)) else (canopylaw4_RunsDepth.l0 k x9 x11 x12 x13 (wrap64 (x14 + 1)) x414000 x414001 x414002 x414003 x414004 x414005 x414006)
end
def canopylaw4_RunsDepth.f (k : Nat) (a0 : Int) (a1 : Int) (l2 : List Int) (l3 : List Int) : Option (Bool) := (canopylaw4_known.f).bind fun t392 => (if t392 = true then ((canopylaw1_Syms.f a0 l2).bind fun t393 => ((canopylaw3_Make.f k t393 a1 l2 4).bind fun bt396 => ((canopylaw1_Word.f k t393 l3 12).bind fun t414 => ((canopylaw4_few.f k t393 t414 5).bind fun t417 => ((runs_Start.f bt396.1 bt396.2.1 bt396.2.2.1 bt396.2.2.2.1 bt396.2.2.2.2.1 bt396.2.2.2.2.2.1 bt396.2.2.2.2.2.2).bind fun t420 => (canopylaw4_RunsDepth.l0 k t393 t417 t420 0 0 bt396.1 bt396.2.1 bt396.2.2.1 bt396.2.2.2.1 bt396.2.2.2.2.1 bt396.2.2.2.2.2.1 bt396.2.2.2.2.2.2)))))) else (some false))
theorem canopylaw4_RunsDepth.mono_l : ∀ k, (∀ y0 y1 y2 y3 y4 y5 y6 y7 y8 y9 y10 y11, LeO (canopylaw4_RunsDepth.l0 k y0 y1 y2 y3 y4 y5 y6 y7 y8 y9 y10 y11) (canopylaw4_RunsDepth.l0 (k + 1) y0 y1 y2 y3 y4 y5 y6 y7 y8 y9 y10 y11)) ∧ (∀ y0 y1 y2 y3 y4 y5 y6 y7 y8 y9 y10 y11, LeO (canopylaw4_RunsDepth.j1 k y0 y1 y2 y3 y4 y5 y6 y7 y8 y9 y10 y11) (canopylaw4_RunsDepth.j1 (k + 1) y0 y1 y2 y3 y4 y5 y6 y7 y8 y9 y10 y11)) ∧ (∀ y0 y1 y2 y3 y4 y5 y6 y7 y8 y9 y10 y11 y12, LeO (canopylaw4_RunsDepth.l1 k y0 y1 y2 y3 y4 y5 y6 y7 y8 y9 y10 y11 y12) (canopylaw4_RunsDepth.l1 (k + 1) y0 y1 y2 y3 y4 y5 y6 y7 y8 y9 y10 y11 y12))
 | 0 => ⟨fun _ _ _ _ _ _ _ _ _ _ _ _ r h => by simp [canopylaw4_RunsDepth.l0] at h, fun _ _ _ _ _ _ _ _ _ _ _ _ r h => by simp [canopylaw4_RunsDepth.j1] at h, fun _ _ _ _ _ _ _ _ _ _ _ _ _ r h => by simp [canopylaw4_RunsDepth.l1] at h⟩
 | k + 1 => by
  obtain ⟨ih0, ih1, ih2⟩ := canopylaw4_RunsDepth.mono_l k
  refine ⟨?_, ?_, ?_⟩
  ·intro y0 y1 y2 y3 y4 y5 y6 y7 y8 y9 y10 y11
   unfold canopylaw4_RunsDepth.l0
   repeat' first
   | (with_reducible exact ih0 _ _ _ _ _ _ _ _ _ _ _ _)
   | (with_reducible exact ih1 _ _ _ _ _ _ _ _ _ _ _ _)
   | (with_reducible exact ih2 _ _ _ _ _ _ _ _ _ _ _ _ _)
   | (with_reducible exact canopylaw1_Word.mono _ _ _ _)
   | (with_reducible exact canopylaw3_Make.mono _ _ _ _ _)
   | (with_reducible exact canopylaw4_few.mono _ _ _ _)
   | (with_reducible exact LeO.refl _)
   | (with_reducible exact LeO.none _)
   | (with_reducible refine LeO.ite ?_ ?_)
   | (with_reducible refine LeO.bind ?_ (fun _ => ?_))
   | exact ih0 _ _ _ _ _ _ _ _ _ _ _ _
   | exact ih1 _ _ _ _ _ _ _ _ _ _ _ _
   | exact ih2 _ _ _ _ _ _ _ _ _ _ _ _ _
   | exact canopylaw1_Word.mono _ _ _ _
   | exact canopylaw3_Make.mono _ _ _ _ _
   | exact canopylaw4_few.mono _ _ _ _
   | exact LeO.none _
   | refine LeO.ite ?_ ?_
   | refine LeO.bind ?_ (fun _ => ?_)
  ·intro y0 y1 y2 y3 y4 y5 y6 y7 y8 y9 y10 y11
   unfold canopylaw4_RunsDepth.j1
   repeat' first
   | (with_reducible exact ih0 _ _ _ _ _ _ _ _ _ _ _ _)
   | (with_reducible exact ih1 _ _ _ _ _ _ _ _ _ _ _ _)
   | (with_reducible exact ih2 _ _ _ _ _ _ _ _ _ _ _ _ _)
   | (with_reducible exact canopylaw1_Word.mono _ _ _ _)
   | (with_reducible exact canopylaw3_Make.mono _ _ _ _ _)
   | (with_reducible exact canopylaw4_few.mono _ _ _ _)
   | (with_reducible exact LeO.refl _)
   | (with_reducible exact LeO.none _)
   | (with_reducible refine LeO.ite ?_ ?_)
   | (with_reducible refine LeO.bind ?_ (fun _ => ?_))
   | exact ih0 _ _ _ _ _ _ _ _ _ _ _ _
   | exact ih1 _ _ _ _ _ _ _ _ _ _ _ _
   | exact ih2 _ _ _ _ _ _ _ _ _ _ _ _ _
   | exact canopylaw1_Word.mono _ _ _ _
   | exact canopylaw3_Make.mono _ _ _ _ _
   | exact canopylaw4_few.mono _ _ _ _
   | exact LeO.none _
   | refine LeO.ite ?_ ?_
   | refine LeO.bind ?_ (fun _ => ?_)
  ·intro y0 y1 y2 y3 y4 y5 y6 y7 y8 y9 y10 y11 y12
   unfold canopylaw4_RunsDepth.l1
   repeat' first
   | (with_reducible exact ih0 _ _ _ _ _ _ _ _ _ _ _ _)
   | (with_reducible exact ih1 _ _ _ _ _ _ _ _ _ _ _ _)
   | (with_reducible exact ih2 _ _ _ _ _ _ _ _ _ _ _ _ _)
   | (with_reducible exact canopylaw1_Word.mono _ _ _ _)
   | (with_reducible exact canopylaw3_Make.mono _ _ _ _ _)
   | (with_reducible exact canopylaw4_few.mono _ _ _ _)
   | (with_reducible exact LeO.refl _)
   | (with_reducible exact LeO.none _)
   | (with_reducible refine LeO.ite ?_ ?_)
   | (with_reducible refine LeO.bind ?_ (fun _ => ?_))
   | exact ih0 _ _ _ _ _ _ _ _ _ _ _ _
   | exact ih1 _ _ _ _ _ _ _ _ _ _ _ _
   | exact ih2 _ _ _ _ _ _ _ _ _ _ _ _ _
   | exact canopylaw1_Word.mono _ _ _ _
   | exact canopylaw3_Make.mono _ _ _ _ _
   | exact canopylaw4_few.mono _ _ _ _
   | exact LeO.none _
   | refine LeO.ite ?_ ?_
   | refine LeO.bind ?_ (fun _ => ?_)
theorem canopylaw4_RunsDepth.mono : ∀ a0 a1 a2 a3 k, LeO (canopylaw4_RunsDepth.f k a0 a1 a2 a3) (canopylaw4_RunsDepth.f (k + 1) a0 a1 a2 a3) := by
 intro a0 a1 a2 a3 k
 obtain ⟨ih0, ih1, ih2⟩ := canopylaw4_RunsDepth.mono_l k
 unfold canopylaw4_RunsDepth.f
 repeat' first
   | (with_reducible exact ih0 _ _ _ _ _ _ _ _ _ _ _ _)
   | (with_reducible exact ih1 _ _ _ _ _ _ _ _ _ _ _ _)
   | (with_reducible exact ih2 _ _ _ _ _ _ _ _ _ _ _ _ _)
   | (with_reducible exact canopylaw1_Word.mono _ _ _ _)
   | (with_reducible exact canopylaw3_Make.mono _ _ _ _ _)
   | (with_reducible exact canopylaw4_few.mono _ _ _ _)
   | (with_reducible exact LeO.refl _)
   | (with_reducible exact LeO.none _)
   | (with_reducible refine LeO.ite ?_ ?_)
   | (with_reducible refine LeO.bind ?_ (fun _ => ?_))
   | exact ih0 _ _ _ _ _ _ _ _ _ _ _ _
   | exact ih1 _ _ _ _ _ _ _ _ _ _ _ _
   | exact ih2 _ _ _ _ _ _ _ _ _ _ _ _ _
   | exact canopylaw1_Word.mono _ _ _ _
   | exact canopylaw3_Make.mono _ _ _ _ _
   | exact canopylaw4_few.mono _ _ _ _
   | exact LeO.none _
   | refine LeO.ite ?_ ?_
   | refine LeO.bind ?_ (fun _ => ?_)
def canopylaw4_RunsDepth.T11 : Bool × List (List Nat × List Nat) := (true, [([], []), ([], []), ([], []), ([], []), ([], []), ([3, 4], [3, 4]), ([5], [5]), ([0, 1, 2, 6], [0, 1, 2, 6]), ([7, 7, 0, 1, 2, 3, 4, 5, 6, 7], [2, 7])])
def canopylaw4_RunsDepth.B11 : List Nat := [0, 0, 0, 0, 0, 24, 56, 127, 255]
theorem canopylaw4_RunsDepth.tab11 : rtab .any (opsOf Try.f5 11) = canopylaw4_RunsDepth.T11 := by kernel_rfl
theorem canopylaw4_RunsDepth.bits11 : waitsOk canopylaw4_RunsDepth.T11.2 canopylaw4_RunsDepth.B11 = true := by kernel_rfl
def canopylaw4_RunsDepth.T20 : Bool × List (List Nat × List Nat) := (true, [([], []), ([], []), ([0, 1], [0, 1]), ([2], [2]), ([3], [3]), ([4], [4]), ([], []), ([5, 6], [5, 6]), ([7], [7]), ([8], [8]), ([8], [8]), ([9, 10, 8], [8, 9, 10]), ([11, 8], [8, 11]), ([12, 8], [8, 12]), ([13, 8], [8, 13]), ([8, 14], [8, 14]), ([15, 8], [15]), ([16], [16]), ([16], [16]), ([17, 18, 16], [16, 17, 18]), ([19, 16], [16, 19]), ([20, 16], [16, 20]), ([16], [16]), ([22, 16], [16, 22]), ([21, 23, 16], [16, 21, 23]), ([16, 24], [16, 24]), ([25, 16], [25]), ([26], [26]), ([27, 26], [26, 27]), ([28, 26, 26], [26, 28]), ([29], [29]), ([29], [29]), ([31, 29], [29, 31]), ([30, 32, 29], [29, 30, 32]), ([33, 29], [29, 33]), ([34, 29], [29, 34]), ([29], [29]), ([29], [29]), ([36, 37, 29], [29, 36, 37]), ([38, 29], [29, 38]), ([39, 29], [29, 39]), ([35, 40, 29], [29, 35, 40]), ([29, 41, 26], [26, 29, 41]), ([26, 42], [26, 42])])
def canopylaw4_RunsDepth.B20 : List Nat := [0, 0, 3, 7, 15, 31, 0, 127, 255, 511, 511, 2047, 4095, 8191, 16383, 32767, 65535, 131071, 131071, 524287, 1048575, 2097151, 131071, 4325375, 16777215, 33554431, 67108863, 134217727, 268435455, 536870911, 1073741823, 1073741823, 3221225471, 8589934591, 17179869183, 34359738367, 1073741823, 1073741823, 207232172031, 482110078975, 1031865892863, 2199023255551, 4398046511103, 8796093022207]
theorem canopylaw4_RunsDepth.tab20 : rtab .any (opsOf Try.f5 20) = canopylaw4_RunsDepth.T20 := by kernel_rfl
theorem canopylaw4_RunsDepth.bits20 : waitsOk canopylaw4_RunsDepth.T20.2 canopylaw4_RunsDepth.B20 = true := by kernel_rfl
set_option maxHeartbeats 8000000 in
set_option maxRecDepth 100000 in
theorem canopylaw4_RunsDepth.calls (k : Nat) (a0 : Int) (a1 : Int) (A2 : Option Addr) (c2 : Nat) (l2 : List Int) (A3 : Option Addr) (c3 : Nat) (l3 : List Int) (r : Bool) (w : World) (hr2 : Kd.C (Kd.int .i64) w A2 l2.length l2) (hc2 : l2.length ≤ c2) (hr3 : Kd.C (Kd.int .i64) w A3 l3.length l3) (hc3 : l3.length ≤ c3) (h : canopylaw4_RunsDepth.f k a0 a1 l2 l3 = some r) :
  Calls Try.prog 5 #[.int .i64 a0, .int .i64 a1, .slice A2 l2.length c2, .slice A3 l3.length c3] w fun e w' => e = .returned (.bool r) ∧ Below w.heap.size w w' := by
 have hu30 := Try.underlying30
 have HR2 := Aside0.mk hr2
 have HC2 := Aside0.mk hc2
 clear hr2 hc2
 have HR3 := Aside0.mk hr3
 have HC3 := Aside0.mk hc3
 clear hr3 hc3
 have HB := Aside0.mk (Below.refl w.heap.size w)
 have H : ((canopylaw4_known.f).bind fun t392 => (if t392 = true then ((canopylaw1_Syms.f a0 l2).bind fun t393 => ((canopylaw3_Make.f k t393 a1 l2 4).bind fun bt396 => ((canopylaw1_Word.f k t393 l3 12).bind fun t414 => ((canopylaw4_few.f k t393 t414 5).bind fun t417 => ((runs_Start.f bt396.1 bt396.2.1 bt396.2.2.1 bt396.2.2.2.1 bt396.2.2.2.2.1 bt396.2.2.2.2.2.1 bt396.2.2.2.2.2.2).bind fun t420 => (canopylaw4_RunsDepth.l0 k t393 t417 t420 0 0 bt396.1 bt396.2.1 bt396.2.2.1 bt396.2.2.2.1 bt396.2.2.2.2.1 bt396.2.2.2.2.2.1 bt396.2.2.2.2.2.2)))))) else (some false))) = some r := h
 clear h
 replace H := Option.bind_eq_some_iff.mp H
 obtain ⟨t392, A50, H⟩ := H
 replace H : (if t392 = true then ((canopylaw1_Syms.f a0 l2).bind fun t393 => ((canopylaw3_Make.f k t393 a1 l2 4).bind fun bt396 => ((canopylaw1_Word.f k t393 l3 12).bind fun t414 => ((canopylaw4_few.f k t393 t414 5).bind fun t417 => ((runs_Start.f bt396.1 bt396.2.1 bt396.2.2.1 bt396.2.2.2.1 bt396.2.2.2.2.1 bt396.2.2.2.2.2.1 bt396.2.2.2.2.2.2).bind fun t420 => (canopylaw4_RunsDepth.l0 k t393 t417 t420 0 0 bt396.1 bt396.2.1 bt396.2.2.1 bt396.2.2.2.1 bt396.2.2.2.2.1 bt396.2.2.2.2.2.1 bt396.2.2.2.2.2.2)))))) else (some false)) = some r := H
 have A5 := Aside0.mk A50
 clear A50
 by_cases c6 : t392 = true
 ·subst c6
  have H1 : ((canopylaw1_Syms.f a0 l2).bind fun t393 => ((canopylaw3_Make.f k t393 a1 l2 4).bind fun bt396 => ((canopylaw1_Word.f k t393 l3 12).bind fun t414 => ((canopylaw4_few.f k t393 t414 5).bind fun t417 => ((runs_Start.f bt396.1 bt396.2.1 bt396.2.2.1 bt396.2.2.2.1 bt396.2.2.2.2.1 bt396.2.2.2.2.2.1 bt396.2.2.2.2.2.2).bind fun t420 => (canopylaw4_RunsDepth.l0 k t393 t417 t420 0 0 bt396.1 bt396.2.1 bt396.2.2.1 bt396.2.2.2.1 bt396.2.2.2.2.1 bt396.2.2.2.2.2.1 bt396.2.2.2.2.2.2)))))) = some r := by rw [if_pos rfl] at H; exact H
  clear H
  have H := H1
  clear H1
  replace H := Option.bind_eq_some_iff.mp H
  obtain ⟨t393, A70, H⟩ := H
  replace H : ((canopylaw3_Make.f k t393 a1 l2 4).bind fun bt396 => ((canopylaw1_Word.f k t393 l3 12).bind fun t414 => ((canopylaw4_few.f k t393 t414 5).bind fun t417 => ((runs_Start.f bt396.1 bt396.2.1 bt396.2.2.1 bt396.2.2.2.1 bt396.2.2.2.2.1 bt396.2.2.2.2.2.1 bt396.2.2.2.2.2.2).bind fun t420 => (canopylaw4_RunsDepth.l0 k t393 t417 t420 0 0 bt396.1 bt396.2.1 bt396.2.2.1 bt396.2.2.2.1 bt396.2.2.2.2.1 bt396.2.2.2.2.2.1 bt396.2.2.2.2.2.2))))) = some r := H
  have A7 := Aside0.mk A70
  clear A70
  replace H := Option.bind_eq_some_iff.mp H
  obtain ⟨⟨t396, t397, t398, t401, t404, t407, t410⟩, A80, H⟩ := H
  replace H : ((canopylaw1_Word.f k t393 l3 12).bind fun t414 => ((canopylaw4_few.f k t393 t414 5).bind fun t417 => ((runs_Start.f t396 t397 t398 t401 t404 t407 t410).bind fun t420 => (canopylaw4_RunsDepth.l0 k t393 t417 t420 0 0 t396 t397 t398 t401 t404 t407 t410)))) = some r := H
  have A8 := Aside0.mk A80
  clear A80
  replace H := Option.bind_eq_some_iff.mp H
  obtain ⟨t414, A90, H⟩ := H
  replace H : ((canopylaw4_few.f k t393 t414 5).bind fun t417 => ((runs_Start.f t396 t397 t398 t401 t404 t407 t410).bind fun t420 => (canopylaw4_RunsDepth.l0 k t393 t417 t420 0 0 t396 t397 t398 t401 t404 t407 t410))) = some r := H
  have A9 := Aside0.mk A90
  clear A90
  replace H := Option.bind_eq_some_iff.mp H
  obtain ⟨t417, A100, H⟩ := H
  replace H : ((runs_Start.f t396 t397 t398 t401 t404 t407 t410).bind fun t420 => (canopylaw4_RunsDepth.l0 k t393 t417 t420 0 0 t396 t397 t398 t401 t404 t407 t410)) = some r := H
  have A10 := Aside0.mk A100
  clear A100
  replace H := Option.bind_eq_some_iff.mp H
  obtain ⟨t420, A110, H⟩ := H
  replace H : (canopylaw4_RunsDepth.l0 k t393 t417 t420 0 0 t396 t397 t398 t401 t404 t407 t410) = some r := H
  have A11 := Aside0.mk A110
  clear A110
  have H' := Aside0.mk H
  clear H
  go_enter Try.func5, Try.ntmps5
  go_wp2_with (first | ((with_reducible refine gate_callee (f := 12) rfl ?_); refine goesL_ (some 16) rfl rfl Try.func12 (by kernel_rfl) rfl #[] rfl (by (try simp only [List.map_toArray, List.map_cons, List.map_nil]); first | done | rfl | (simp only [List.length_drop, List.length_take]; rfl)) ?_; (with_reducible refine (canopylaw4_known.calls  true _ A5.out).mono ?_); rintro e w12 ⟨rfl, hb⟩; refine ⟨_, rfl, ?_⟩; have n0_ := Aside0.mk (below_step (by repeat (first | (with_reducible first | exact HB.out | apply below_alloc | apply pw_below_drewN | apply below_drew1) | exact HB.out)) hb); clear HB; have HB := n0_; clear n0_; (try clear hb); (try clear hb2); (try clear hk); (try clear hi)) | ((with_reducible refine gate_callee (f := 13) rfl ?_); refine goesL_ (some 20) rfl rfl Try.func13 (by kernel_rfl) rfl #[.int .i64 a0, .slice A2 l2.length c2] rfl (by (try simp only [List.map_toArray, List.map_cons, List.map_nil]); first | done | rfl | (simp only [List.length_drop, List.length_take]; rfl)) ?_; (with_reducible refine (canopylaw1_Syms.calls a0 _ _ l2 t393 _ ?side1 ?side2 A7.out).mono ?_); (case side1 => repeat (first | exact (Kd.C_below HR2.out HB.out) | (with_reducible refine Kd.C_alloc ?_ _) | (with_reducible refine Kd.C_drewN ?_ _) | (with_reducible refine Kd.C_drew ?_))); (case side2 => exact HC2.out); rintro e w13 ⟨v394, rfl, ho0, hb⟩; refine ⟨_, rfl, ?_⟩; have n0_ := Aside0.mk (Kd.R_lower ho0 (below_size (by repeat (first | (with_reducible first | exact HB.out | apply below_alloc | apply pw_below_drewN | apply below_drew1) | exact HB.out)))); have n1_ := Aside0.mk (below_step (by repeat (first | (with_reducible first | exact HB.out | apply below_alloc | apply pw_below_drewN | apply below_drew1) | exact HB.out)) hb); clear HB; have HO395 := n0_; have HB := n1_; clear n0_ n1_; (try clear hb); (try clear hb2); (try clear hk); (try clear hi); (try clear ho0); obtain ⟨Ao14, co14, eo14⟩ := Kd.R_slice HO395.out; subst eo14) | ((with_reducible refine gate_callee (f := 14) rfl ?_); refine goesL_ (some 24) rfl rfl Try.func14 (by kernel_rfl) rfl #[.slice Ao14 t393.length co14, .int .i64 a1, .slice A2 l2.length c2, .int .i64 4] rfl (by (try simp only [List.map_toArray, List.map_cons, List.map_nil]); first | done | rfl | (simp only [List.length_drop, List.length_take]; rfl)) ?_; (with_reducible refine (canopylaw3_Make.calls k _ _ t393 a1 _ _ l2 4 t396 t397 t398 t401 t404 t407 t410 _ ?side1 ?side2 ?side3 ?side4 A8.out).mono ?_); (case side1 => repeat (first | exact (Kd.R_reads' HO395.out).2.2 | (with_reducible refine Kd.C_alloc ?_ _) | (with_reducible refine Kd.C_drewN ?_ _) | (with_reducible refine Kd.C_drew ?_))); (case side2 => exact (Kd.R_reads' HO395.out).2.1); (case side3 => repeat (first | exact (Kd.C_below HR2.out HB.out) | (with_reducible refine Kd.C_alloc ?_ _) | (with_reducible refine Kd.C_drewN ?_ _) | (with_reducible refine Kd.C_drew ?_))); (case side4 => exact HC2.out); rintro e w15 ⟨v399, v402, v405, v408, v411, rfl, ho0, ho1, ho2, ho3, ho4, hb⟩; refine ⟨_, rfl, ?_⟩; have n0_ := Aside0.mk (Kd.R_below (by (with_reducible repeat (first | apply Kd.R_alloc | apply Kd.R_drewN | apply Kd.R_drew)); exact HO395.out) hb); have n1_ := Aside0.mk (Kd.R_lower ho0 (below_size (by repeat (first | (with_reducible first | exact HB.out | apply below_alloc | apply pw_below_drewN | apply below_drew1) | exact HB.out)))); have n2_ := Aside0.mk (Kd.R_lower ho1 (below_size (by repeat (first | (with_reducible first | exact HB.out | apply below_alloc | apply pw_below_drewN | apply below_drew1) | exact HB.out)))); have n3_ := Aside0.mk (Kd.R_lower ho2 (below_size (by repeat (first | (with_reducible first | exact HB.out | apply below_alloc | apply pw_below_drewN | apply below_drew1) | exact HB.out)))); have n4_ := Aside0.mk (Kd.R_lower ho3 (below_size (by repeat (first | (with_reducible first | exact HB.out | apply below_alloc | apply pw_below_drewN | apply below_drew1) | exact HB.out)))); have n5_ := Aside0.mk (Kd.R_lower ho4 (below_size (by repeat (first | (with_reducible first | exact HB.out | apply below_alloc | apply pw_below_drewN | apply below_drew1) | exact HB.out)))); have n6_ := Aside0.mk (below_step (by repeat (first | (with_reducible first | exact HB.out | apply below_alloc | apply pw_below_drewN | apply below_drew1) | exact HB.out)) hb); clear HO395; clear HB; have HO395 := n0_; have HO400 := n1_; have HO403 := n2_; have HO406 := n3_; have HO409 := n4_; have HO412 := n5_; have HB := n6_; clear n0_ n1_ n2_ n3_ n4_ n5_ n6_; (try clear hb); (try clear hb2); (try clear hk); (try clear hi); (try clear ho0); (try clear ho1); (try clear ho2); (try clear ho3); (try clear ho4)) | ((with_reducible refine gate_dst (N := 10) rfl ?_); refine box_event ?hg (N := 10) ?hd (cs := #[.int .i64 0, .int .i64 0, .slice none 0 0, .slice none 0 0, .slice none 0 0, .slice none 0 0, .slice none 0 0]) (t := 30) ?hr ?_; (case hd => rfl); (case hg => rfl); (case hr => first | (go_simp; done) | (go_simp; rfl)); intro gb413 hg w16 hbox hb; have n0_ := Aside0.mk (Kd.R_below (by (with_reducible repeat (first | apply Kd.R_alloc | apply Kd.R_drewN | apply Kd.R_drew)); exact HO395.out) hb); have n1_ := Aside0.mk (Kd.R_below (by (with_reducible repeat (first | apply Kd.R_alloc | apply Kd.R_drewN | apply Kd.R_drew)); exact HO400.out) hb); have n2_ := Aside0.mk (Kd.R_below (by (with_reducible repeat (first | apply Kd.R_alloc | apply Kd.R_drewN | apply Kd.R_drew)); exact HO403.out) hb); have n3_ := Aside0.mk (Kd.R_below (by (with_reducible repeat (first | apply Kd.R_alloc | apply Kd.R_drewN | apply Kd.R_drew)); exact HO406.out) hb); have n4_ := Aside0.mk (Kd.R_below (by (with_reducible repeat (first | apply Kd.R_alloc | apply Kd.R_drewN | apply Kd.R_drew)); exact HO409.out) hb); have n5_ := Aside0.mk (Kd.R_below (by (with_reducible repeat (first | apply Kd.R_alloc | apply Kd.R_drewN | apply Kd.R_drew)); exact HO412.out) hb); have n6_ := Aside0.mk (below_step (by repeat (first | (with_reducible first | exact HB.out | apply below_alloc | apply pw_below_drewN | apply below_drew1) | exact HB.out)) hb); have n7_ := Aside0.mk (hbox); have n8_ := Aside0.mk ((by rw [hg]; exact (below_size (by repeat (first | (with_reducible first | exact HB.out | apply below_alloc | apply pw_below_drewN | apply below_drew1) | exact HB.out))) : w.heap.size ≤ gb413)); have n9_ := Aside0.mk ((by rw [hg]; exact (below_size (by repeat (first | (with_reducible first | exact HB.out | apply below_alloc | apply pw_below_drewN | apply below_drew1) | exact HB.out))) : w.heap.size ≤ gb413)); clear HO395; clear HO400; clear HO403; clear HO406; clear HO409; clear HO412; clear HB; have HO395 := n0_; have HO400 := n1_; have HO403 := n2_; have HO406 := n3_; have HO409 := n4_; have HO412 := n5_; have HB := n6_; have BK413 := n7_; have GW413 := n8_; have GE413 := n9_; clear n0_ n1_ n2_ n3_ n4_ n5_ n6_ n7_ n8_ n9_; clear hb hbox hg; have hcz17_0 : w16.cell? ⟨gb413, 0, none⟩ = some (.int .i64 0) := (blk_cell BK413.out 0).trans rfl; have hcz17_1 : w16.cell? ⟨gb413, 1, none⟩ = some (.int .i64 0) := (blk_cell BK413.out 1).trans rfl; have hcz17_2 : w16.cell? ⟨gb413, 2, none⟩ = some (.slice none 0 0) := (blk_cell BK413.out 2).trans rfl; have hcz17_3 : w16.cell? ⟨gb413, 3, none⟩ = some (.slice none 0 0) := (blk_cell BK413.out 3).trans rfl; have hcz17_4 : w16.cell? ⟨gb413, 4, none⟩ = some (.slice none 0 0) := (blk_cell BK413.out 4).trans rfl; have hcz17_5 : w16.cell? ⟨gb413, 5, none⟩ = some (.slice none 0 0) := (blk_cell BK413.out 5).trans rfl; have hcz17_6 : w16.cell? ⟨gb413, 6, none⟩ = some (.slice none 0 0) := (blk_cell BK413.out 6).trans rfl; have hfz17_0 := blk_frozen BK413.out 0; have hfz17_1 := blk_frozen BK413.out 1; have hfz17_2 := blk_frozen BK413.out 2; have hfz17_3 := blk_frozen BK413.out 3; have hfz17_4 := blk_frozen BK413.out 4; have hfz17_5 := blk_frozen BK413.out 5; have hfz17_6 := blk_frozen BK413.out 6; obtain ⟨Ao18, co18, eo18⟩ := Kd.R_slice HO400.out; subst eo18; obtain ⟨Ao19, co19, eo19⟩ := Kd.R_slice HO403.out; subst eo19; obtain ⟨Ao20, co20, eo20⟩ := Kd.R_slice HO406.out; subst eo20; obtain ⟨Ao21, co21, eo21⟩ := Kd.R_slice HO409.out; subst eo21; obtain ⟨Ao22, co22, eo22⟩ := Kd.R_slice HO412.out; subst eo22) | ((with_reducible refine gate_callee (f := 16) rfl ?_); refine goesL_ (some 28) rfl rfl Try.func16 (by kernel_rfl) rfl #[.slice Ao14 t393.length co14, .slice A3 l3.length c3, .int .i64 12] rfl (by (try simp only [List.map_toArray, List.map_cons, List.map_nil]); first | done | rfl | (simp only [List.length_drop, List.length_take]; rfl)) ?_; (with_reducible refine (canopylaw1_Word.calls k _ _ t393 _ _ l3 12 t414 _ ?side1 ?side2 ?side3 ?side4 A9.out).mono ?_); (case side1 => refine (Kd.R_reads' (e := 46) (base := w.heap.size) (ok := fun k_ => True) (n := t393.length) (c := co14) ?_).2.2; exact (by (with_reducible repeat (first | apply Kd.R_alloc | apply Kd.R_drewN | apply Kd.R_drew)); exact (Kd.R_mono (Kd.R_far (p := ⟨gb413, 6, none⟩) (Kd.R_far (p := ⟨gb413, 5, none⟩) (Kd.R_far (p := ⟨gb413, 4, none⟩) (Kd.R_far (p := ⟨gb413, 3, none⟩) (Kd.R_far (p := ⟨gb413, 2, none⟩) (Kd.R_far (p := ⟨gb413, 1, none⟩) (Kd.R_far (p := ⟨gb413, 0, none⟩) (Kd.R_types HO395.out BK413.out (by decide)) (fun _ hk => hk.2) (.int .i64 t396)) (fun _ hk => hk.2) (.int .i64 t397)) (fun _ hk => hk.2) (.slice Ao18 t398.length co18)) (fun _ hk => hk.2) (.slice Ao19 t401.length co19)) (fun _ hk => hk.2) (.slice Ao20 t404.length co20)) (fun _ hk => hk.2) (.slice Ao21 t407.length co21)) (fun _ hk => hk.2) (.slice Ao22 t410.length co22)) (fun _ h_ => h_.1)))); (case side2 => exact (Kd.R_reads' HO395.out).2.1); (case side3 => exact Kd.C_below HR3.out (by repeat (first | (with_reducible first | exact HB.out | apply below_alloc | apply pw_below_drewN | apply below_drew1 | refine below_set ?_ GE413.out) | exact HB.out))); (case side4 => exact HC3.out); rintro e w23 ⟨v415, rfl, ho0, hb⟩; refine ⟨_, rfl, ?_⟩; have n0_ := Aside0.mk (Kd.R_below (by (with_reducible repeat (first | apply Kd.R_alloc | apply Kd.R_drewN | apply Kd.R_drew)); exact (Kd.R_mono (Kd.R_far (p := ⟨gb413, 6, none⟩) (Kd.R_far (p := ⟨gb413, 5, none⟩) (Kd.R_far (p := ⟨gb413, 4, none⟩) (Kd.R_far (p := ⟨gb413, 3, none⟩) (Kd.R_far (p := ⟨gb413, 2, none⟩) (Kd.R_far (p := ⟨gb413, 1, none⟩) (Kd.R_far (p := ⟨gb413, 0, none⟩) (Kd.R_types HO395.out BK413.out (by decide)) (fun _ hk => hk.2) (.int .i64 t396)) (fun _ hk => hk.2) (.int .i64 t397)) (fun _ hk => hk.2) (.slice Ao18 t398.length co18)) (fun _ hk => hk.2) (.slice Ao19 t401.length co19)) (fun _ hk => hk.2) (.slice Ao20 t404.length co20)) (fun _ hk => hk.2) (.slice Ao21 t407.length co21)) (fun _ hk => hk.2) (.slice Ao22 t410.length co22)) (fun _ h_ => h_.1))) hb); have n1_ := Aside0.mk (Kd.R_elder' (by (with_reducible repeat (first | apply Kd.R_alloc | apply Kd.R_drewN | apply Kd.R_drew)); exact (Kd.R_mono (Kd.R_far (p := ⟨gb413, 6, none⟩) (Kd.R_far (p := ⟨gb413, 5, none⟩) (Kd.R_far (p := ⟨gb413, 4, none⟩) (Kd.R_far (p := ⟨gb413, 3, none⟩) (Kd.R_far (p := ⟨gb413, 2, none⟩) (Kd.R_far (p := ⟨gb413, 1, none⟩) (Kd.R_far (p := ⟨gb413, 0, none⟩) (Kd.R_types HO400.out BK413.out (by decide)) (fun _ hk => hk.2) (.int .i64 t396)) (fun _ hk => hk.2) (.int .i64 t397)) (fun _ hk => hk.2) (.slice Ao18 t398.length co18)) (fun _ hk => hk.2) (.slice Ao19 t401.length co19)) (fun _ hk => hk.2) (.slice Ao20 t404.length co20)) (fun _ hk => hk.2) (.slice Ao21 t407.length co21)) (fun _ hk => hk.2) (.slice Ao22 t410.length co22)) (fun _ h_ => h_.1))) (Kd.R_base ho0) hb); have n2_ := Aside0.mk (Kd.R_elder' (by (with_reducible repeat (first | apply Kd.R_alloc | apply Kd.R_drewN | apply Kd.R_drew)); exact (Kd.R_mono (Kd.R_far (p := ⟨gb413, 6, none⟩) (Kd.R_far (p := ⟨gb413, 5, none⟩) (Kd.R_far (p := ⟨gb413, 4, none⟩) (Kd.R_far (p := ⟨gb413, 3, none⟩) (Kd.R_far (p := ⟨gb413, 2, none⟩) (Kd.R_far (p := ⟨gb413, 1, none⟩) (Kd.R_far (p := ⟨gb413, 0, none⟩) (Kd.R_types HO403.out BK413.out (by decide)) (fun _ hk => hk.2) (.int .i64 t396)) (fun _ hk => hk.2) (.int .i64 t397)) (fun _ hk => hk.2) (.slice Ao18 t398.length co18)) (fun _ hk => hk.2) (.slice Ao19 t401.length co19)) (fun _ hk => hk.2) (.slice Ao20 t404.length co20)) (fun _ hk => hk.2) (.slice Ao21 t407.length co21)) (fun _ hk => hk.2) (.slice Ao22 t410.length co22)) (fun _ h_ => h_.1))) (Kd.R_base ho0) hb); have n3_ := Aside0.mk (Kd.R_below (by (with_reducible repeat (first | apply Kd.R_alloc | apply Kd.R_drewN | apply Kd.R_drew)); exact (Kd.R_mono (Kd.R_far (p := ⟨gb413, 6, none⟩) (Kd.R_far (p := ⟨gb413, 5, none⟩) (Kd.R_far (p := ⟨gb413, 4, none⟩) (Kd.R_far (p := ⟨gb413, 3, none⟩) (Kd.R_far (p := ⟨gb413, 2, none⟩) (Kd.R_far (p := ⟨gb413, 1, none⟩) (Kd.R_far (p := ⟨gb413, 0, none⟩) (Kd.R_types HO406.out BK413.out (by decide)) (fun _ hk => hk.2) (.int .i64 t396)) (fun _ hk => hk.2) (.int .i64 t397)) (fun _ hk => hk.2) (.slice Ao18 t398.length co18)) (fun _ hk => hk.2) (.slice Ao19 t401.length co19)) (fun _ hk => hk.2) (.slice Ao20 t404.length co20)) (fun _ hk => hk.2) (.slice Ao21 t407.length co21)) (fun _ hk => hk.2) (.slice Ao22 t410.length co22)) (fun _ h_ => h_.1))) hb); have n4_ := Aside0.mk (Kd.R_below (by (with_reducible repeat (first | apply Kd.R_alloc | apply Kd.R_drewN | apply Kd.R_drew)); exact (Kd.R_mono (Kd.R_far (p := ⟨gb413, 6, none⟩) (Kd.R_far (p := ⟨gb413, 5, none⟩) (Kd.R_far (p := ⟨gb413, 4, none⟩) (Kd.R_far (p := ⟨gb413, 3, none⟩) (Kd.R_far (p := ⟨gb413, 2, none⟩) (Kd.R_far (p := ⟨gb413, 1, none⟩) (Kd.R_far (p := ⟨gb413, 0, none⟩) (Kd.R_types HO409.out BK413.out (by decide)) (fun _ hk => hk.2) (.int .i64 t396)) (fun _ hk => hk.2) (.int .i64 t397)) (fun _ hk => hk.2) (.slice Ao18 t398.length co18)) (fun _ hk => hk.2) (.slice Ao19 t401.length co19)) (fun _ hk => hk.2) (.slice Ao20 t404.length co20)) (fun _ hk => hk.2) (.slice Ao21 t407.length co21)) (fun _ hk => hk.2) (.slice Ao22 t410.length co22)) (fun _ h_ => h_.1))) hb); have n5_ := Aside0.mk (Kd.R_below (by (with_reducible repeat (first | apply Kd.R_alloc | apply Kd.R_drewN | apply Kd.R_drew)); exact (Kd.R_mono (Kd.R_far (p := ⟨gb413, 6, none⟩) (Kd.R_far (p := ⟨gb413, 5, none⟩) (Kd.R_far (p := ⟨gb413, 4, none⟩) (Kd.R_far (p := ⟨gb413, 3, none⟩) (Kd.R_far (p := ⟨gb413, 2, none⟩) (Kd.R_far (p := ⟨gb413, 1, none⟩) (Kd.R_far (p := ⟨gb413, 0, none⟩) (Kd.R_types HO412.out BK413.out (by decide)) (fun _ hk => hk.2) (.int .i64 t396)) (fun _ hk => hk.2) (.int .i64 t397)) (fun _ hk => hk.2) (.slice Ao18 t398.length co18)) (fun _ hk => hk.2) (.slice Ao19 t401.length co19)) (fun _ hk => hk.2) (.slice Ao20 t404.length co20)) (fun _ hk => hk.2) (.slice Ao21 t407.length co21)) (fun _ hk => hk.2) (.slice Ao22 t410.length co22)) (fun _ h_ => h_.1))) hb); have n6_ := Aside0.mk (Kd.R_lower (Kd.R_new' (Kd.R_new' ho0 (Kd.R_lt (by (with_reducible repeat (first | apply Kd.R_alloc | apply Kd.R_drewN | apply Kd.R_drew)); exact (Kd.R_mono (Kd.R_far (p := ⟨gb413, 6, none⟩) (Kd.R_far (p := ⟨gb413, 5, none⟩) (Kd.R_far (p := ⟨gb413, 4, none⟩) (Kd.R_far (p := ⟨gb413, 3, none⟩) (Kd.R_far (p := ⟨gb413, 2, none⟩) (Kd.R_far (p := ⟨gb413, 1, none⟩) (Kd.R_far (p := ⟨gb413, 0, none⟩) (Kd.R_types HO400.out BK413.out (by decide)) (fun _ hk => hk.2) (.int .i64 t396)) (fun _ hk => hk.2) (.int .i64 t397)) (fun _ hk => hk.2) (.slice Ao18 t398.length co18)) (fun _ hk => hk.2) (.slice Ao19 t401.length co19)) (fun _ hk => hk.2) (.slice Ao20 t404.length co20)) (fun _ hk => hk.2) (.slice Ao21 t407.length co21)) (fun _ hk => hk.2) (.slice Ao22 t410.length co22)) (fun _ h_ => h_.1))))) (Kd.R_lt (by (with_reducible repeat (first | apply Kd.R_alloc | apply Kd.R_drewN | apply Kd.R_drew)); exact (Kd.R_mono (Kd.R_far (p := ⟨gb413, 6, none⟩) (Kd.R_far (p := ⟨gb413, 5, none⟩) (Kd.R_far (p := ⟨gb413, 4, none⟩) (Kd.R_far (p := ⟨gb413, 3, none⟩) (Kd.R_far (p := ⟨gb413, 2, none⟩) (Kd.R_far (p := ⟨gb413, 1, none⟩) (Kd.R_far (p := ⟨gb413, 0, none⟩) (Kd.R_types HO403.out BK413.out (by decide)) (fun _ hk => hk.2) (.int .i64 t396)) (fun _ hk => hk.2) (.int .i64 t397)) (fun _ hk => hk.2) (.slice Ao18 t398.length co18)) (fun _ hk => hk.2) (.slice Ao19 t401.length co19)) (fun _ hk => hk.2) (.slice Ao20 t404.length co20)) (fun _ hk => hk.2) (.slice Ao21 t407.length co21)) (fun _ hk => hk.2) (.slice Ao22 t410.length co22)) (fun _ h_ => h_.1))))) (below_size (by repeat (first | (with_reducible first | exact HB.out | apply below_alloc | apply pw_below_drewN | apply below_drew1 | refine below_set ?_ GE413.out) | exact HB.out)))); have n7_ := Aside0.mk (blk_below (g := gb413) (o := .cells #[.int .i64 t396, .int .i64 t397, .slice Ao18 t398.length co18, .slice Ao19 t401.length co19, .slice Ao20 t404.length co20, .slice Ao21 t407.length co21, .slice Ao22 t410.length co22] 30 (0, 0)) (by (with_reducible repeat (first | refine blk_drewN ?_ _ | refine blk_drew ?_ | refine blk_alloc ?_ _)); refine blk_put (cs := #[.int .i64 t396, .int .i64 t397, .slice Ao18 t398.length co18, .slice Ao19 t401.length co19, .slice Ao20 t404.length co20, .slice Ao21 t407.length co21, .slice none 0 0]) ?_ 6 _ rfl; (with_reducible repeat (first | refine blk_drewN ?_ _ | refine blk_drew ?_ | refine blk_alloc ?_ _)); refine blk_put (cs := #[.int .i64 t396, .int .i64 t397, .slice Ao18 t398.length co18, .slice Ao19 t401.length co19, .slice Ao20 t404.length co20, .slice none 0 0, .slice none 0 0]) ?_ 5 _ rfl; (with_reducible repeat (first | refine blk_drewN ?_ _ | refine blk_drew ?_ | refine blk_alloc ?_ _)); refine blk_put (cs := #[.int .i64 t396, .int .i64 t397, .slice Ao18 t398.length co18, .slice Ao19 t401.length co19, .slice none 0 0, .slice none 0 0, .slice none 0 0]) ?_ 4 _ rfl; (with_reducible repeat (first | refine blk_drewN ?_ _ | refine blk_drew ?_ | refine blk_alloc ?_ _)); refine blk_put (cs := #[.int .i64 t396, .int .i64 t397, .slice Ao18 t398.length co18, .slice none 0 0, .slice none 0 0, .slice none 0 0, .slice none 0 0]) ?_ 3 _ rfl; (with_reducible repeat (first | refine blk_drewN ?_ _ | refine blk_drew ?_ | refine blk_alloc ?_ _)); refine blk_put (cs := #[.int .i64 t396, .int .i64 t397, .slice none 0 0, .slice none 0 0, .slice none 0 0, .slice none 0 0, .slice none 0 0]) ?_ 2 _ rfl; (with_reducible repeat (first | refine blk_drewN ?_ _ | refine blk_drew ?_ | refine blk_alloc ?_ _)); refine blk_put (cs := #[.int .i64 t396, .int .i64 0, .slice none 0 0, .slice none 0 0, .slice none 0 0, .slice none 0 0, .slice none 0 0]) ?_ 1 _ rfl; (with_reducible repeat (first | refine blk_drewN ?_ _ | refine blk_drew ?_ | refine blk_alloc ?_ _)); refine blk_put (cs := #[.int .i64 0, .int .i64 0, .slice none 0 0, .slice none 0 0, .slice none 0 0, .slice none 0 0, .slice none 0 0]) ?_ 0 _ rfl; (with_reducible repeat (first | refine blk_drewN ?_ _ | refine blk_drew ?_ | refine blk_alloc ?_ _)); exact BK413.out) hb); have n8_ := Aside0.mk (below_step (by repeat (first | (with_reducible first | exact HB.out | apply below_alloc | apply pw_below_drewN | apply below_drew1 | refine below_set ?_ GE413.out) | exact HB.out)) hb); clear HO395; clear HO400; clear HO403; clear HO406; clear HO409; clear HO412; clear BK413; clear HB; have HO395 := n0_; have HO400 := n1_; have HO403 := n2_; have HO406 := n3_; have HO409 := n4_; have HO412 := n5_; have HO416 := n6_; have BK413 := n7_; have HB := n8_; clear n0_ n1_ n2_ n3_ n4_ n5_ n6_ n7_ n8_; (try clear hb); (try clear hb2); (try clear hk); (try clear hi); (try clear ho0); obtain ⟨Ao24, co24, eo24⟩ := Kd.R_slice HO416.out; subst eo24) | ((with_reducible refine gate_callee (f := 15) rfl ?_); refine goesL_ (some 29) rfl rfl Try.func15 (by kernel_rfl) rfl #[.slice Ao14 t393.length co14, .slice Ao24 t414.length co24, .int .i64 5] rfl (by (try simp only [List.map_toArray, List.map_cons, List.map_nil]); first | done | rfl | (simp only [List.length_drop, List.length_take]; rfl)) ?_; (with_reducible refine (canopylaw4_few.calls k _ _ t393 (fun k_ => some k_ = (.slice Ao24 t414.length co24 : Value).ownBlock) (.slice Ao24 t414.length co24) t414 5 t417 w _ ?side1 ?side2 ?side3 ?side4 A10.out).mono ?_); (case side1 => repeat (first | (with_reducible first | exact HB.out | apply below_alloc | apply pw_below_drewN | apply below_drew1 | refine below_set ?_ GE413.out) | exact HB.out)); (case side2 => exact Kd.C_kept_own ((Kd.R_apart' HO395.out (Kd.R_typed HO416.out) (by decide))) (fun k_ hk_ hs_ => (hk_.2) hs_)); (case side3 => exact (Kd.R_reads' HO395.out).2.1); (case side4 => exact Kd.R_tight rfl HO416.out); rintro e w25 ⟨v418, rfl, ho0, hb, hkp⟩; refine ⟨_, rfl, ?_⟩; have n0_ := Aside0.mk (Kd.R_mono (ok' := fun k_ => True) (Kd.R_keptB ((Kd.R_apart' HO395.out (Kd.R_typed HO416.out) (by decide))) hkp (fun k_ hk_ hs_ => (hk_.2) hs_)) (fun k_ hk_ => trivial)); have n1_ := Aside0.mk (Kd.R_mono (ok' := fun k_ => some k_ ≠ (.slice Ao19 t401.length co19 : Value).ownBlock ∧ some k_ ≠ (v418 : Value).ownBlock) (Kd.R_keptB (HO400.out) hkp (fun k_ hk_ hs_ => (hk_.2) hs_)) (fun k_ hk_ => ⟨hk_.1.1, fun e_ => Or.elim (ho0.1 k_ e_.symm) (fun hs_ => hk_.2.1 hs_) (fun hn_ => Nat.not_le.2 hk_.2.2 hn_)⟩)); have n2_ := Aside0.mk (Kd.R_mono (ok' := fun k_ => some k_ ≠ (.slice Ao18 t398.length co18 : Value).ownBlock ∧ some k_ ≠ (v418 : Value).ownBlock) (Kd.R_keptB (HO403.out) hkp (fun k_ hk_ hs_ => (hk_.2) hs_)) (fun k_ hk_ => ⟨hk_.1.1, fun e_ => Or.elim (ho0.1 k_ e_.symm) (fun hs_ => hk_.2.1 hs_) (fun hn_ => Nat.not_le.2 hk_.2.2 hn_)⟩)); have n3_ := Aside0.mk (Kd.R_mono (ok' := fun k_ => True) (Kd.R_keptB ((Kd.R_apart' HO406.out (Kd.R_typed HO416.out) (by decide))) hkp (fun k_ hk_ hs_ => (hk_.2) hs_)) (fun k_ hk_ => trivial)); have n4_ := Aside0.mk (Kd.R_mono (ok' := fun k_ => True) (Kd.R_keptB ((Kd.R_apart' HO409.out (Kd.R_typed HO416.out) (by decide))) hkp (fun k_ hk_ hs_ => (hk_.2) hs_)) (fun k_ hk_ => trivial)); have n5_ := Aside0.mk (Kd.R_mono (ok' := fun k_ => True) (Kd.R_keptB ((Kd.R_apart' HO412.out (Kd.R_typed HO416.out) (by decide))) hkp (fun k_ hk_ hs_ => (hk_.2) hs_)) (fun k_ hk_ => trivial)); have n6_ := Aside0.mk (blk_kept (by (with_reducible repeat (first | refine blk_drewN ?_ _ | refine blk_drew ?_ | refine blk_alloc ?_ _)); exact BK413.out) hkp (fun hs_ => (fun e_ => (Kd.R_ne HO416.out BK413.out (by decide)) e_) hs_)); have n7_ := Aside0.mk (Kd.R_mono (ok' := fun k_ => some k_ ≠ (.slice Ao18 t398.length co18 : Value).ownBlock ∧ some k_ ≠ (.slice Ao19 t401.length co19 : Value).ownBlock) ho0 (fun k_ hk_ => ⟨Or.elim hk_ (fun hs_ => fun e_ => (((HO400.out).1 k_ e_.symm).2) hs_) (fun hn_ => (Kd.fresh' (Kd.R_lt (by (with_reducible repeat (first | apply Kd.R_alloc | apply Kd.R_drewN | apply Kd.R_drew)); exact HO400.out)) k_ hn_)), Or.elim hk_ (fun hs_ => fun e_ => (((HO403.out).1 k_ e_.symm).2) hs_) (fun hn_ => (Kd.fresh' (Kd.R_lt (by (with_reducible repeat (first | apply Kd.R_alloc | apply Kd.R_drewN | apply Kd.R_drew)); exact HO403.out)) k_ hn_))⟩)); have n8_ := Aside0.mk (hb); clear HO395; clear HO400; clear HO403; clear HO406; clear HO409; clear HO412; clear BK413; clear HB; clear HO416; have HO395 := n0_; have HO400 := n1_; have HO403 := n2_; have HO406 := n3_; have HO409 := n4_; have HO412 := n5_; have BK413 := n6_; have HO419 := n7_; have HB := n8_; clear n0_ n1_ n2_ n3_ n4_ n5_ n6_ n7_ n8_; (try clear hb); (try clear hkp); (try clear ho0); have hcz26_0 : w25.cell? ⟨gb413, 0, none⟩ = some (.int .i64 t396) := (blk_cell BK413.out 0).trans rfl; have hcz26_1 : w25.cell? ⟨gb413, 1, none⟩ = some (.int .i64 t397) := (blk_cell BK413.out 1).trans rfl; have hcz26_2 : w25.cell? ⟨gb413, 2, none⟩ = some (.slice Ao18 t398.length co18) := (blk_cell BK413.out 2).trans rfl; have hcz26_3 : w25.cell? ⟨gb413, 3, none⟩ = some (.slice Ao19 t401.length co19) := (blk_cell BK413.out 3).trans rfl; have hcz26_4 : w25.cell? ⟨gb413, 4, none⟩ = some (.slice Ao20 t404.length co20) := (blk_cell BK413.out 4).trans rfl; have hcz26_5 : w25.cell? ⟨gb413, 5, none⟩ = some (.slice Ao21 t407.length co21) := (blk_cell BK413.out 5).trans rfl; have hcz26_6 : w25.cell? ⟨gb413, 6, none⟩ = some (.slice Ao22 t410.length co22) := (blk_cell BK413.out 6).trans rfl; have hfz26_0 := blk_frozen BK413.out 0; have hfz26_1 := blk_frozen BK413.out 1; have hfz26_2 := blk_frozen BK413.out 2; have hfz26_3 := blk_frozen BK413.out 3; have hfz26_4 := blk_frozen BK413.out 4; have hfz26_5 := blk_frozen BK413.out 5; have hfz26_6 := blk_frozen BK413.out 6) | ((with_reducible refine gate_callee (f := 17) rfl ?_); refine goesL_ (some 31) rfl rfl Try.func17 (by kernel_rfl) rfl #[.agg #[.int .i64 t396, .int .i64 t397, .slice Ao18 t398.length co18, .slice Ao19 t401.length co19, .slice Ao20 t404.length co20, .slice Ao21 t407.length co21, .slice Ao22 t410.length co22]] rfl (by (try simp only [List.map_toArray, List.map_cons, List.map_nil]); first | done | rfl | (simp only [List.length_drop, List.length_take]; rfl)) ?_; (with_reducible refine (runs_Start.calls t396 t397 _ _ t398 _ _ t401 _ _ t404 _ _ t407 _ _ t410 t420 _ ?side1 ?side2 ?side3 ?side4 ?side5 ?side6 ?side7 ?side8 ?side9 ?side10 A11.out).mono ?_); (case side1 => repeat (first | exact (Kd.R_reads' HO400.out).2.2 | (with_reducible refine Kd.C_alloc ?_ _) | (with_reducible refine Kd.C_drewN ?_ _) | (with_reducible refine Kd.C_drew ?_))); (case side2 => exact (Kd.R_reads' HO400.out).2.1); (case side3 => repeat (first | exact (Kd.R_reads' HO403.out).2.2 | (with_reducible refine Kd.C_alloc ?_ _) | (with_reducible refine Kd.C_drewN ?_ _) | (with_reducible refine Kd.C_drew ?_))); (case side4 => exact (Kd.R_reads' HO403.out).2.1); (case side5 => repeat (first | exact (Kd.R_reads' HO406.out).2.2 | (with_reducible refine Kd.C_alloc ?_ _) | (with_reducible refine Kd.C_drewN ?_ _) | (with_reducible refine Kd.C_drew ?_))); (case side6 => exact (Kd.R_reads' HO406.out).2.1); (case side7 => repeat (first | exact (Kd.R_reads' HO409.out).2.2 | (with_reducible refine Kd.C_alloc ?_ _) | (with_reducible refine Kd.C_drewN ?_ _) | (with_reducible refine Kd.C_drew ?_))); (case side8 => exact (Kd.R_reads' HO409.out).2.1); (case side9 => repeat (first | exact (Kd.R_reads' HO412.out).2.2 | (with_reducible refine Kd.C_alloc ?_ _) | (with_reducible refine Kd.C_drewN ?_ _) | (with_reducible refine Kd.C_drew ?_))); (case side10 => exact (Kd.R_reads' HO412.out).2.1); rintro e w27 ⟨v421, rfl, ho0, hb⟩; refine ⟨_, rfl, ?_⟩; have n0_ := Aside0.mk (Kd.R_below (by (with_reducible repeat (first | apply Kd.R_alloc | apply Kd.R_drewN | apply Kd.R_drew)); exact HO395.out) hb); have n1_ := Aside0.mk (Kd.R_below (by (with_reducible repeat (first | apply Kd.R_alloc | apply Kd.R_drewN | apply Kd.R_drew)); exact HO400.out) hb); have n2_ := Aside0.mk (Kd.R_below (by (with_reducible repeat (first | apply Kd.R_alloc | apply Kd.R_drewN | apply Kd.R_drew)); exact HO403.out) hb); have n3_ := Aside0.mk (Kd.R_below (by (with_reducible repeat (first | apply Kd.R_alloc | apply Kd.R_drewN | apply Kd.R_drew)); exact HO406.out) hb); have n4_ := Aside0.mk (Kd.R_below (by (with_reducible repeat (first | apply Kd.R_alloc | apply Kd.R_drewN | apply Kd.R_drew)); exact HO409.out) hb); have n5_ := Aside0.mk (Kd.R_below (by (with_reducible repeat (first | apply Kd.R_alloc | apply Kd.R_drewN | apply Kd.R_drew)); exact HO412.out) hb); have n6_ := Aside0.mk (Kd.R_below (by (with_reducible repeat (first | apply Kd.R_alloc | apply Kd.R_drewN | apply Kd.R_drew)); exact HO419.out) hb); have n7_ := Aside0.mk (Kd.S_lower (Kd.S_new' (Kd.S_new' (Kd.S_new' ho0 (Kd.R_lt (by (with_reducible repeat (first | apply Kd.R_alloc | apply Kd.R_drewN | apply Kd.R_drew)); exact HO400.out))) (Kd.R_lt (by (with_reducible repeat (first | apply Kd.R_alloc | apply Kd.R_drewN | apply Kd.R_drew)); exact HO403.out))) (Kd.R_lt (by (with_reducible repeat (first | apply Kd.R_alloc | apply Kd.R_drewN | apply Kd.R_drew)); exact HO419.out))) (below_size (by repeat (first | (with_reducible first | exact HB.out | apply below_alloc | apply pw_below_drewN | apply below_drew1 | refine below_set ?_ GE413.out) | exact HB.out)))); have n8_ := Aside0.mk (blk_below (g := gb413) (o := .cells #[.int .i64 t396, .int .i64 t397, .slice Ao18 t398.length co18, .slice Ao19 t401.length co19, .slice Ao20 t404.length co20, .slice Ao21 t407.length co21, .slice Ao22 t410.length co22] 30 (0, 0)) (by (with_reducible repeat (first | refine blk_drewN ?_ _ | refine blk_drew ?_ | refine blk_alloc ?_ _)); exact BK413.out) hb); have n9_ := Aside0.mk (below_step (by repeat (first | (with_reducible first | exact HB.out | apply below_alloc | apply pw_below_drewN | apply below_drew1 | refine below_set ?_ GE413.out) | exact HB.out)) hb); clear HO395; clear HO400; clear HO403; clear HO406; clear HO409; clear HO412; clear HO419; clear BK413; clear HB; have HO395 := n0_; have HO400 := n1_; have HO403 := n2_; have HO406 := n3_; have HO409 := n4_; have HO412 := n5_; have HO419 := n6_; have HO422 := n7_; have BK413 := n8_; have HB := n9_; clear n0_ n1_ n2_ n3_ n4_ n5_ n6_ n7_ n8_ n9_; (try clear hb); (try clear hb2); (try clear hk); (try clear hi); (try clear ho0)))
  go_loopg [12, 13, 14] k (fun kq v12 v13 v14 w' => ∃ (x12_1 : List (S48)) (x13_1 : Int) (x14_1 : Int), v13 = .int .i64 x13_1 ∧ v14 = .int .i64 x14_1 ∧ Aside0 (canopylaw4_RunsDepth.l0 kq t393 t417 x12_1 x13_1 x14_1 t396 t397 t398 t401 t404 t407 t410 = some r) ∧ Aside0 (kq ≤ k) ∧ Aside0 (Kd.R k46 46 w' w.heap.size (fun _ => True) (.slice Ao14 t393.length co14) t393) ∧ Aside0 (Kd.R (Kd.int .i64) 3 w' w.heap.size (fun k_ => some k_ ≠ ((.slice Ao18 t398.length co18) : Value).ownBlock ∧ some k_ ≠ ((.slice Ao19 t401.length co19) : Value).ownBlock) v418 t417) ∧ Aside0 (Kd.S k48 48 w' w.heap.size (fun k_ => some k_ ≠ (v418 : Value).ownBlock ∧ some k_ ≠ ((.slice Ao18 t398.length co18) : Value).ownBlock ∧ some k_ ≠ ((.slice Ao19 t401.length co19) : Value).ownBlock) v12 x12_1) ∧ Aside0 (Kd.R (Kd.int .i64) 3 w' w.heap.size (fun k_ => some k_ ≠ (v418 : Value).ownBlock ∧ some k_ ≠ ((.slice Ao19 t401.length co19) : Value).ownBlock) (.slice Ao18 t398.length co18) t398) ∧ Aside0 (Kd.R (Kd.int .i64) 3 w' w.heap.size (fun k_ => some k_ ≠ (v418 : Value).ownBlock ∧ some k_ ≠ ((.slice Ao18 t398.length co18) : Value).ownBlock) (.slice Ao19 t401.length co19) t401) ∧ Aside0 (Kd.R k52 52 w' w.heap.size (fun _ => True) (.slice Ao20 t404.length co20) t404) ∧ Aside0 (Kd.R k54 54 w' w.heap.size (fun _ => True) (.slice Ao21 t407.length co21) t407) ∧ Aside0 (Kd.R k56 56 w' w.heap.size (fun _ => True) (.slice Ao22 t410.length co22) t410) ∧ Aside0 (w'.heap[gb413]? = some (.cells #[.int .i64 t396, .int .i64 t397, (.slice Ao18 t398.length co18), (.slice Ao19 t401.length co19), (.slice Ao20 t404.length co20), (.slice Ao21 t407.length co21), (.slice Ao22 t410.length co22)] 30 (0, 0))) ∧ Aside0 (Below w.heap.size w w'))
  case atStart => exact ⟨(t420), (0), (0), (by first | rfl | (simp; done) | (simp [*]; done)), (by first | rfl | (simp; done) | (simp [*]; done)), H', ⟨Nat.le_refl _⟩, ⟨by (with_reducible repeat (first | apply Kd.R_alloc | apply Kd.R_drewN | apply Kd.R_drew)); exact HO395.out⟩, ⟨by (with_reducible repeat (first | apply Kd.R_alloc | apply Kd.R_drewN | apply Kd.R_drew)); exact HO419.out⟩, ⟨by (with_reducible repeat (first | apply Kd.S_alloc | apply Kd.S_drewN | apply Kd.S_drew)); exact Kd.S_mono HO422.out (fun _ hk => ⟨hk.2, ⟨hk.1.1.2, hk.1.2⟩⟩)⟩, ⟨by (with_reducible repeat (first | apply Kd.R_alloc | apply Kd.R_drewN | apply Kd.R_drew)); exact Kd.R_mono HO400.out (fun _ hk => ⟨hk.2, hk.1⟩)⟩, ⟨by (with_reducible repeat (first | apply Kd.R_alloc | apply Kd.R_drewN | apply Kd.R_drew)); exact Kd.R_mono HO403.out (fun _ hk => ⟨hk.2, hk.1⟩)⟩, ⟨by (with_reducible repeat (first | apply Kd.R_alloc | apply Kd.R_drewN | apply Kd.R_drew)); exact HO406.out⟩, ⟨by (with_reducible repeat (first | apply Kd.R_alloc | apply Kd.R_drewN | apply Kd.R_drew)); exact HO409.out⟩, ⟨by (with_reducible repeat (first | apply Kd.R_alloc | apply Kd.R_drewN | apply Kd.R_drew)); exact HO412.out⟩, ⟨by (with_reducible repeat (first | refine blk_drewN ?_ _ | refine blk_drew ?_ | refine blk_alloc ?_ _)); exact BK413.out⟩, ⟨by repeat (first | (with_reducible first | exact HB.out | apply below_alloc | apply pw_below_drewN | apply below_drew1 | refine below_set ?_ GE413.out) | exact HB.out)⟩⟩
  case round =>
   clear H'
   try clear c1
   try clear c2
   try clear p2
   try clear c3
   try clear c5
   try clear c6
   try clear c12
   try clear c13
   try clear c14
   try clear c15
   try clear c16
   try clear c17
   try clear hcz17_0
   try clear hcz17_1
   try clear hcz17_2
   try clear hcz17_3
   try clear hcz17_4
   try clear hcz17_5
   try clear hcz17_6
   try clear hcz26_0
   try clear hcz26_1
   try clear hcz26_2
   try clear hcz26_3
   try clear hcz26_4
   try clear hcz26_5
   try clear hcz26_6
   try clear hfz17_0
   try clear hfz17_1
   try clear hfz17_2
   try clear hfz17_3
   try clear hfz17_4
   try clear hfz17_5
   try clear hfz17_6
   try clear hfz26_0
   try clear hfz26_1
   try clear hfz26_2
   try clear hfz26_3
   try clear hfz26_4
   try clear hfz26_5
   try clear hfz26_6
   obtain ⟨x12_1, x13_1, x14_1, rfl, rfl, HA, HK1, HO_9, HO_11, HO_12, HO_414002, HO_414003, HO_414004, HO_414005, HO_414006, BK413, HB⟩ := hrel
   cases gk with
   | zero => exact absurd HA.out (by simp [canopylaw4_RunsDepth.l0])
   | succ k1 =>
    have H := HA.out
    clear HA
    simp only [canopylaw4_RunsDepth.l0] at H
    by_cases c28 : x14_1 < (t417.length : Int)
    ·rw [if_pos c28] at H
     have c28b0 : decide (x14_1 < (t417.length : Int)) = true := decide_eq_true c28
     clear c28
     by_cases c29 : 0 ≤ x14_1
     ·rw [if_pos c29] at H
      have c29b0 : decide (0 ≤ x14_1) = true := decide_eq_true c29
      clear c29
      replace H := Option.bind_eq_some_iff.mp H
      obtain ⟨t424, A300, H⟩ := H
      replace H : (if 0 ≤ (rd t417 x14_1) then (if (rd t417 x14_1) < (t393.length : Int) then (if ((rd_T46 t393 (rd t417 x14_1)).f1) = 1 then (canopylaw4_RunsDepth.j1 k1 t393 t417 t424 (wrap64 (x13_1 + 1)) x14_1 t396 t397 t398 t401 t404 t407 t410) else (if ((rd_T46 t393 (rd t417 x14_1)).f1) = 2 then (canopylaw4_RunsDepth.j1 k1 t393 t417 t424 (mx (wrap64 (x13_1 - 1)) 0) x14_1 t396 t397 t398 t401 t404 t407 t410) else (canopylaw4_RunsDepth.j1 k1 t393 t417 t424 x13_1 x14_1 t396 t397 t398 t401 t404 t407 t410))) else (none)) else (none)) = some r := H
      have A30 := Aside0.mk A300
      clear A300
      by_cases c31 : 0 ≤ (rd t417 x14_1)
      ·rw [if_pos c31] at H
       have c31b0 : decide (0 ≤ (rd t417 x14_1)) = true := decide_eq_true c31
       clear c31
       by_cases c32 : (rd t417 x14_1) < (t393.length : Int)
       ·rw [if_pos c32] at H
        have c32b0 : decide ((rd t417 x14_1) < (t393.length : Int)) = true := decide_eq_true c32
        clear c32
        have HC33 := Aside0.mk H
        clear H
        obtain ⟨Ao34, co34, eo34⟩ := Kd.R_slice HO_11.out
        subst eo34
        try go_wp2
        have n0_ := Aside0.mk (Kd.R_drew HO_9.out)
        have n1_ := Aside0.mk (Kd.R_drew HO_11.out)
        have n2_ := Aside0.mk (Kd.S_drew HO_12.out)
        have n3_ := Aside0.mk (Kd.R_drew HO_414002.out)
        have n4_ := Aside0.mk (Kd.R_drew HO_414003.out)
        have n5_ := Aside0.mk (Kd.R_drew HO_414004.out)
        have n6_ := Aside0.mk (Kd.R_drew HO_414005.out)
        have n7_ := Aside0.mk (Kd.R_drew HO_414006.out)
        have n8_ := Aside0.mk (blk_drew BK413.out)
        have n9_ := Aside0.mk (below_drew1 HB.out)
        clear HO_9
        clear HO_11
        clear HO_12
        clear HO_414002
        clear HO_414003
        clear HO_414004
        clear HO_414005
        clear HO_414006
        clear BK413
        clear HB
        have HO_9 := n0_
        have HO_11 := n1_
        have HO_12 := n2_
        have HO_414002 := n3_
        have HO_414003 := n4_
        have HO_414004 := n5_
        have HO_414005 := n6_
        have HO_414006 := n7_
        have BK413 := n8_
        have HB := n9_
        clear n0_ n1_ n2_ n3_ n4_ n5_ n6_ n7_ n8_ n9_
        have p423 : 0 ≤ (x14_1 : Int) := of_decide_eq_true (by first | (with_reducible assumption) | assumption)
        have q423 : x14_1 < (t417.length : Int) := of_decide_eq_true (by first | (with_reducible assumption) | assumption)
        obtain ⟨ad423, e423, hx423_0⟩ := Kd.at_int (Kd.R_reads' HO_11.out).2.2 x14_1 p423 q423
        cases e423
        replace p423 := eq_true p423
        replace q423 := eq_true q423
        obtain ⟨Ao36, co36, eo36⟩ := Kd.S_slice HO_12.out
        (first | subst eo36 | (injection eo36 with f1_ f2_ f3_; have f4_ := f1_.symm; have f5_ := f3_.symm; clear f1_ f2_ f3_; subst f4_; subst f5_))
        refine start_ (n := 9) (S := fun w' => w'.cell? ⟨gb413, 0, none⟩ = some (.int .i64 t396) ∧ w'.cell? ⟨gb413, 1, none⟩ = some (.int .i64 t397) ∧ w'.cell? ⟨gb413, 2, none⟩ = some (.slice Ao18 t398.length co18) ∧ w'.cell? ⟨gb413, 3, none⟩ = some (.slice Ao19 t401.length co19) ∧ w'.cell? ⟨gb413, 4, none⟩ = some (.slice Ao20 t404.length co20) ∧ w'.cell? ⟨gb413, 5, none⟩ = some (.slice Ao21 t407.length co21) ∧ w'.cell? ⟨gb413, 6, none⟩ = some (.slice Ao22 t410.length co22) ∧ w'.cell? (ad423.add (x14_1).toNat) = some (.int .i64 (rd t417 x14_1))) (ds := []) #[false, false, false, false, false, false, false, false, false] (by kernel_rfl) rfl rfl ⟨(blk_cell BK413.out 0).trans rfl, (blk_cell BK413.out 1).trans rfl, (blk_cell BK413.out 2).trans rfl, (blk_cell BK413.out 3).trans rfl, (blk_cell BK413.out 4).trans rfl, (blk_cell BK413.out 5).trans rfl, (blk_cell BK413.out 6).trans rfl, hx423_0⟩ (fun hHeld => ?_); refine with_tabW canopylaw4_RunsDepth.tab11 canopylaw4_RunsDepth.bits11 (fun HT_ HW_ => ?_)
        generalize wr.drew = w35 at HO_9 HO_11 HO_12 HO_414002 HO_414003 HO_414004 HO_414005 HO_414006 BK413 HB hx423_0 hHeld ⊢
        refine pure_ (i := 0) (N := some 38) (v := ?_) (a' := ?_) #[true, false, false, false, false, false, false, false, false] rfl rfl (any_of HT_.out (by kernel_rfl)) (fun _ _ _ h => h) (Or.inl ⟨by rfl, ?_⟩) ?_ ?_
        rotate_left
        ·intro w'
         go_simp
         with_reducible rfl
        rotate_left
        ·simp only [Act.put, List.setIfInBounds_toArray, List.set_cons_zero, List.set_cons_succ, i64_w, i32_w]
         rfl
        refine pure_ (i := 2) (N := some 40) (v := ?_) (a' := ?_) #[true, false, true, false, false, false, false, false, false] rfl rfl (any_of HT_.out (by kernel_rfl)) (fun _ _ _ h => h) (Or.inl ⟨by rfl, ?_⟩) ?_ ?_
        rotate_left
        ·intro w'
         go_simp
         with_reducible rfl
        rotate_left
        ·simp only [Act.put, List.setIfInBounds_toArray, List.set_cons_zero, List.set_cons_succ, i64_w, i32_w]
         rfl
        refine pure_ (i := 3) (N := some 41) (v := ?_) (a' := ?_) #[true, false, true, true, false, false, false, false, false] rfl rfl (any_of HT_.out (by kernel_rfl)) (fun _ _ _ h => h) (Or.inl ⟨by rfl, ?_⟩) ?_ ?_
        rotate_left
        ·intro w'
         go_simp
         with_reducible rfl
        rotate_left
        ·simp only [Act.put, List.setIfInBounds_toArray, List.set_cons_zero, List.set_cons_succ, i64_w, i32_w]
         rfl
        refine pure_ (i := 4) (N := some 42) (v := ?_) (a' := ?_) #[true, false, true, true, true, false, false, false, false] rfl rfl (any_of HT_.out (by kernel_rfl)) (fun _ _ _ h => h) (Or.inl ⟨by rfl, ?_⟩) ?_ ?_
        rotate_left
        ·intro w'
         go_simp
         with_reducible rfl
        rotate_left
        ·simp only [Act.put, List.setIfInBounds_toArray, List.set_cons_zero, List.set_cons_succ, i64_w, i32_w]
         rfl
        refine pure_ (i := 5) (N := some 43) (v := ?_) (a' := ?_) #[true, false, true, true, true, true, false, false, false] rfl rfl (any_of HT_.out (by kernel_rfl)) (fun _ _ _ h => h) (Or.inl ⟨by rfl, ?_⟩) ?_ ?_
        rotate_left
        ·intro w'
         go_simp
         with_reducible rfl
        rotate_left
        ·simp only [Act.put, List.setIfInBounds_toArray, List.set_cons_zero, List.set_cons_succ, i64_w, i32_w]
         rfl
        refine take_ (i := 1) (N := some 39) (v := ?_) (a' := ?_) #[true, true, true, true, true, true, false, false, false] rfl rfl (take_ofW HT_.out HW_.out (by kernel_rfl)) (fun _ _ _ h => h) (Or.inl ⟨by rfl, ?_⟩) hHeld ?_ ?_
        rotate_left
        ·rintro w' ⟨s0, s1, s2, s3, s4, s5, s6, s7⟩
         go_simp
         with_reducible rfl
        rotate_left
        ·simp only [Act.put, List.setIfInBounds_toArray, List.set_cons_zero, List.set_cons_succ, i64_w, i32_w]
         rfl
        refine take_ (i := 6) (N := some 44) (v := ?_) (a' := ?_) #[true, true, true, true, true, true, true, false, false] rfl rfl (take_ofW HT_.out HW_.out (by kernel_rfl)) (fun _ _ _ h => h) (Or.inl ⟨by rfl, ?_⟩) hHeld ?_ ?_
        rotate_left
        ·rintro w' ⟨s0, s1, s2, s3, s4, s5, s6, s7⟩
         go_simp
         with_reducible rfl
        rotate_left
        ·simp only [Act.put, List.setIfInBounds_toArray, List.set_cons_zero, List.set_cons_succ, i64_w, i32_w]
         rfl
        refine one_ (i := 7) (N := some 45) #[true, true, true, true, true, true, true, true, false] rfl rfl (one_of HT_.out (by kernel_rfl)) (by decide) (fun K hK => ?_)
        refine goes_ Try.func21 (by kernel_rfl) rfl #[.slice Ao14 t393.length co14, .agg #[.int .i64 t396, .int .i64 t397, .slice Ao18 t398.length co18, .slice Ao19 t401.length co19, .slice Ao20 t404.length co20, .slice Ao21 t407.length co21, .slice Ao22 t410.length co22], .slice Ao36 x12_1.length co36, .int .i64 (rd t417 x14_1)] (by rfl) rfl rfl (by (try simp only [List.map_toArray, List.map_cons, List.map_nil]); first | done | rfl | (simp only [List.length_drop, List.length_take]; rfl)) ?_
        with_reducible refine (runs_Step.calls _ _ t393 t396 t397 _ _ t398 _ _ t401 _ _ t404 _ _ t407 _ _ t410 _ _ x12_1 (rd t417 x14_1) t424 _ ?side1 ?side2 ?side3 ?side4 ?side5 ?side6 ?side7 ?side8 ?side9 ?side10 ?side11 ?side12 ?side13 ?side14 A30.out).mono ?_
        (case side1 => repeat (first | exact (Kd.R_reads' HO_9.out).2.2 | (with_reducible refine Kd.C_alloc ?_ _) | (with_reducible refine Kd.C_drewN ?_ _) | (with_reducible refine Kd.C_drew ?_)))
        (case side2 => exact (Kd.R_reads' HO_9.out).2.1)
        (case side3 => repeat (first | exact (Kd.R_reads' HO_414002.out).2.2 | (with_reducible refine Kd.C_alloc ?_ _) | (with_reducible refine Kd.C_drewN ?_ _) | (with_reducible refine Kd.C_drew ?_)))
        (case side4 => exact (Kd.R_reads' HO_414002.out).2.1)
        (case side5 => repeat (first | exact (Kd.R_reads' HO_414003.out).2.2 | (with_reducible refine Kd.C_alloc ?_ _) | (with_reducible refine Kd.C_drewN ?_ _) | (with_reducible refine Kd.C_drew ?_)))
        (case side6 => exact (Kd.R_reads' HO_414003.out).2.1)
        (case side7 => repeat (first | exact (Kd.R_reads' HO_414004.out).2.2 | (with_reducible refine Kd.C_alloc ?_ _) | (with_reducible refine Kd.C_drewN ?_ _) | (with_reducible refine Kd.C_drew ?_)))
        (case side8 => exact (Kd.R_reads' HO_414004.out).2.1)
        (case side9 => repeat (first | exact (Kd.R_reads' HO_414005.out).2.2 | (with_reducible refine Kd.C_alloc ?_ _) | (with_reducible refine Kd.C_drewN ?_ _) | (with_reducible refine Kd.C_drew ?_)))
        (case side10 => exact (Kd.R_reads' HO_414005.out).2.1)
        (case side11 => repeat (first | exact (Kd.R_reads' HO_414006.out).2.2 | (with_reducible refine Kd.C_alloc ?_ _) | (with_reducible refine Kd.C_drewN ?_ _) | (with_reducible refine Kd.C_drew ?_)))
        (case side12 => exact (Kd.R_reads' HO_414006.out).2.1)
        (case side13 => repeat (first | exact (Kd.S_reads' HO_12.out).2.2 | (with_reducible refine Kd.C_alloc ?_ _) | (with_reducible refine Kd.C_drewN ?_ _) | (with_reducible refine Kd.C_drew ?_)))
        (case side14 => exact (Kd.S_reads' HO_12.out).2.1)
        rintro e w37 ⟨v425, rfl, ho0, hb⟩
        have HS7_ := (hb.cell (World.block_lt_of_cell? _ _ (hHeld.2.2.2.2.2.2.2))).trans (hHeld.2.2.2.2.2.2.2)
        refine ⟨_, rfl, ?_⟩
        have n0_ := Aside0.mk (Kd.R_below (by (with_reducible repeat (first | apply Kd.R_alloc | apply Kd.R_drewN | apply Kd.R_drew)); exact HO_9.out) hb)
        have n1_ := Aside0.mk (Kd.R_below (by (with_reducible repeat (first | apply Kd.R_alloc | apply Kd.R_drewN | apply Kd.R_drew)); exact HO_11.out) hb)
        have n2_ := Aside0.mk (Kd.S_elder' (by (with_reducible repeat (first | apply Kd.S_alloc | apply Kd.S_drewN | apply Kd.S_drew)); exact HO_12.out) (Kd.S_base ho0) hb)
        have n3_ := Aside0.mk (Kd.R_below (by (with_reducible repeat (first | apply Kd.R_alloc | apply Kd.R_drewN | apply Kd.R_drew)); exact HO_414002.out) hb)
        have n4_ := Aside0.mk (Kd.R_below (by (with_reducible repeat (first | apply Kd.R_alloc | apply Kd.R_drewN | apply Kd.R_drew)); exact HO_414003.out) hb)
        have n5_ := Aside0.mk (Kd.R_below (by (with_reducible repeat (first | apply Kd.R_alloc | apply Kd.R_drewN | apply Kd.R_drew)); exact HO_414004.out) hb)
        have n6_ := Aside0.mk (Kd.R_below (by (with_reducible repeat (first | apply Kd.R_alloc | apply Kd.R_drewN | apply Kd.R_drew)); exact HO_414005.out) hb)
        have n7_ := Aside0.mk (Kd.R_below (by (with_reducible repeat (first | apply Kd.R_alloc | apply Kd.R_drewN | apply Kd.R_drew)); exact HO_414006.out) hb)
        have n8_ := Aside0.mk (Kd.S_lower (Kd.S_new' (Kd.S_new' (Kd.S_new' (Kd.S_new' ho0 (Kd.R_lt (by (with_reducible repeat (first | apply Kd.R_alloc | apply Kd.R_drewN | apply Kd.R_drew)); exact HO_11.out))) (Kd.S_lt (by (with_reducible repeat (first | apply Kd.S_alloc | apply Kd.S_drewN | apply Kd.S_drew)); exact HO_12.out))) (Kd.R_lt (by (with_reducible repeat (first | apply Kd.R_alloc | apply Kd.R_drewN | apply Kd.R_drew)); exact HO_414002.out))) (Kd.R_lt (by (with_reducible repeat (first | apply Kd.R_alloc | apply Kd.R_drewN | apply Kd.R_drew)); exact HO_414003.out))) (below_size (by repeat (first | (with_reducible first | exact HB.out | apply below_alloc | apply pw_below_drewN | apply below_drew1 | refine below_set ?_ GE413.out) | exact HB.out))))
        have n9_ := Aside0.mk (blk_below (g := gb413) (o := .cells #[.int .i64 t396, .int .i64 t397, .slice Ao18 t398.length co18, .slice Ao19 t401.length co19, .slice Ao20 t404.length co20, .slice Ao21 t407.length co21, .slice Ao22 t410.length co22] 30 (0, 0)) (by (with_reducible repeat (first | refine blk_drewN ?_ _ | refine blk_drew ?_ | refine blk_alloc ?_ _)); exact BK413.out) hb)
        have n10_ := Aside0.mk (below_step (by repeat (first | (with_reducible first | exact HB.out | apply below_alloc | apply pw_below_drewN | apply below_drew1 | refine below_set ?_ GE413.out) | exact HB.out)) hb)
        clear HO_9
        clear HO_11
        clear HO_12
        clear HO_414002
        clear HO_414003
        clear HO_414004
        clear HO_414005
        clear HO_414006
        clear BK413
        clear HB
        have HO_9 := n0_
        have HO_11 := n1_
        have HO_12 := n2_
        have HO_414002 := n3_
        have HO_414003 := n4_
        have HO_414004 := n5_
        have HO_414005 := n6_
        have HO_414006 := n7_
        have HO426 := n8_
        have BK413 := n9_
        have HB := n10_
        clear n0_ n1_ n2_ n3_ n4_ n5_ n6_ n7_ n8_ n9_ n10_
        (try clear hb)
        (try clear hb2)
        (try clear hk)
        (try clear hi)
        (try clear ho0)
        refine hK.out _ _ ⟨(blk_cell BK413.out 0).trans rfl, (blk_cell BK413.out 1).trans rfl, (blk_cell BK413.out 2).trans rfl, (blk_cell BK413.out 3).trans rfl, (blk_cell BK413.out 4).trans rfl, (blk_cell BK413.out 5).trans rfl, (blk_cell BK413.out 6).trans rfl, HS7_⟩ (fun hHeld => ?_)
        clear hK K
        refine norm_ (a' := ?_) ?_ ?_
        rotate_left
        ·show Act.put _ (some 45) _ = _
         simp only [Act.put, List.setIfInBounds_toArray, List.set_cons_zero, List.set_cons_succ, i64_w, i32_w]
         rfl
        refine pure_ (i := 8) (N := some 12) (v := ?_) (a' := ?_) #[true, true, true, true, true, true, true, true, true] rfl rfl (any_of HT_.out (by kernel_rfl)) (fun _ _ _ h => h) (Or.inl ⟨by rfl, ?_⟩) ?_ ?_
        rotate_left
        ·intro w'
         go_simp
         with_reducible rfl
        rotate_left
        ·simp only [Act.put, List.setIfInBounds_toArray, List.set_cons_zero, List.set_cons_succ, i64_w, i32_w]
         rfl
        refine done_ (done_of HT_.out (by kernel_rfl)) ?_
        have p427 : 0 ≤ (x14_1 : Int) := of_decide_eq_true (by first | (with_reducible assumption) | assumption)
        have q427 : x14_1 < (t417.length : Int) := of_decide_eq_true (by first | (with_reducible assumption) | assumption)
        obtain ⟨ad427, e427, hx427_0⟩ := Kd.at_int (Kd.R_reads' HO_11.out).2.2 x14_1 p427 q427
        obtain rfl : ad423 = ad427 := (by injection e427)
        replace p427 := eq_true p427
        replace q427 := eq_true q427
        have p428 : 0 ≤ ((rd t417 x14_1) : Int) := of_decide_eq_true (by first | (with_reducible assumption) | assumption)
        have q428 : (rd t417 x14_1) < (t393.length : Int) := of_decide_eq_true (by first | (with_reducible assumption) | assumption)
        obtain ⟨ad428, e428, hx428_0, hx428_1⟩ := at_T46 (Kd.R_reads' HO_9.out).2.2 (rd t417 x14_1) p428 q428
        cases e428
        replace p428 := eq_true p428
        replace q428 := eq_true q428
        go_upto_block 2 with (fail)
        go_cut [13] (fun v13 wc => ∃ (kq : Nat) (x13_32 : Int), v13 = .int .i64 x13_32 ∧ Aside0 (canopylaw4_RunsDepth.j1 kq t393 t417 t424 x13_32 x14_1 t396 t397 t398 t401 t404 t407 t410 = some r) ∧ Aside0 (kq ≤ k1) ∧ Aside0 (Kd.R k46 46 wc w.heap.size (fun _ => True) (.slice (some ad428) t393.length co14) t393) ∧ Aside0 (Kd.R (Kd.int .i64) 3 wc w.heap.size (fun k_ => some k_ ≠ ((.slice Ao18 t398.length co18) : Value).ownBlock ∧ some k_ ≠ ((.slice Ao19 t401.length co19) : Value).ownBlock) (.slice (some ad423) t417.length co34) t417) ∧ Aside0 (Kd.S k48 48 wc w.heap.size (fun k_ => some k_ ≠ ((.slice (some ad423) t417.length co34) : Value).ownBlock ∧ some k_ ≠ ((.slice Ao18 t398.length co18) : Value).ownBlock ∧ some k_ ≠ ((.slice Ao19 t401.length co19) : Value).ownBlock) v425 t424) ∧ Aside0 (Kd.R (Kd.int .i64) 3 wc w.heap.size (fun k_ => some k_ ≠ ((.slice (some ad423) t417.length co34) : Value).ownBlock ∧ some k_ ≠ ((.slice Ao19 t401.length co19) : Value).ownBlock) (.slice Ao18 t398.length co18) t398) ∧ Aside0 (Kd.R (Kd.int .i64) 3 wc w.heap.size (fun k_ => some k_ ≠ ((.slice (some ad423) t417.length co34) : Value).ownBlock ∧ some k_ ≠ ((.slice Ao18 t398.length co18) : Value).ownBlock) (.slice Ao19 t401.length co19) t401) ∧ Aside0 (Kd.R k52 52 wc w.heap.size (fun _ => True) (.slice Ao20 t404.length co20) t404) ∧ Aside0 (Kd.R k54 54 wc w.heap.size (fun _ => True) (.slice Ao21 t407.length co21) t407) ∧ Aside0 (Kd.R k56 56 wc w.heap.size (fun _ => True) (.slice Ao22 t410.length co22) t410) ∧ Aside0 (wc.heap[gb413]? = some (.cells #[.int .i64 t396, .int .i64 t397, (.slice Ao18 t398.length co18), (.slice Ao19 t401.length co19), (.slice Ao20 t404.length co20), (.slice Ao21 t407.length co21), (.slice Ao22 t410.length co22)] 30 (0, 0))) ∧ Aside0 (Below w.heap.size w wc))
        case first =>
         have H := HC33.out
         clear HC33
         by_cases c38 : ((rd_T46 t393 (rd t417 x14_1)).f1) = 1
         ·rw [if_pos c38] at H
          have c38b0 : (((rd_T46 t393 (rd t417 x14_1)).f1) == 1) = true := beq_iff_eq.mpr c38
          have c38b1 : (((rd_T46 t393 (rd t417 x14_1)).f1) != 1) = false := bne_eq_false_iff_eq.mpr c38
          clear c38
          (first | rw [c38b0] | (simp only [i64_w, i32_w]; rw [c38b0]) | skip)
          have H' := Aside0.mk H
          clear H
          go_wp2
          go_meet
          case rel => exact ⟨_, (wrap64 (x13_1 + 1)), (by first | rfl | (simp; done) | (simp [*]; done)), H', ⟨by have := HK1.out; first | omega | exact Nat.le_refl _⟩, ⟨by (with_reducible repeat (first | apply Kd.R_alloc | apply Kd.R_drewN | apply Kd.R_drew)); exact HO_9.out⟩, ⟨by (with_reducible repeat (first | apply Kd.R_alloc | apply Kd.R_drewN | apply Kd.R_drew)); exact HO_11.out⟩, ⟨by (with_reducible repeat (first | apply Kd.S_alloc | apply Kd.S_drewN | apply Kd.S_drew)); exact Kd.S_mono HO426.out (fun _ hk => ⟨hk.1.1.1.2, ⟨hk.1.2, hk.2⟩⟩)⟩, ⟨by (with_reducible repeat (first | apply Kd.R_alloc | apply Kd.R_drewN | apply Kd.R_drew)); exact HO_414002.out⟩, ⟨by (with_reducible repeat (first | apply Kd.R_alloc | apply Kd.R_drewN | apply Kd.R_drew)); exact HO_414003.out⟩, ⟨by (with_reducible repeat (first | apply Kd.R_alloc | apply Kd.R_drewN | apply Kd.R_drew)); exact HO_414004.out⟩, ⟨by (with_reducible repeat (first | apply Kd.R_alloc | apply Kd.R_drewN | apply Kd.R_drew)); exact HO_414005.out⟩, ⟨by (with_reducible repeat (first | apply Kd.R_alloc | apply Kd.R_drewN | apply Kd.R_drew)); exact HO_414006.out⟩, ⟨by (with_reducible repeat (first | refine blk_drewN ?_ _ | refine blk_drew ?_ | refine blk_alloc ?_ _)); exact BK413.out⟩, ⟨by repeat (first | (with_reducible first | exact HB.out | apply below_alloc | apply pw_below_drewN | apply below_drew1 | refine below_set ?_ GE413.out) | exact HB.out)⟩⟩
         ·rw [if_neg c38] at H
          have c38b0 : (((rd_T46 t393 (rd t417 x14_1)).f1) == 1) = false := beq_eq_false_iff_ne.mpr c38
          have c38b1 : (((rd_T46 t393 (rd t417 x14_1)).f1) != 1) = true := bne_iff_ne.mpr c38
          (first | rw [c38b0] | (simp only [i64_w, i32_w]; rw [c38b0]) | skip)
          by_cases c39 : ((rd_T46 t393 (rd t417 x14_1)).f1) = 2
          ·rw [if_pos c39] at H
           have c39b0 : (((rd_T46 t393 (rd t417 x14_1)).f1) == 2) = true := beq_iff_eq.mpr c39
           have c39b1 : (((rd_T46 t393 (rd t417 x14_1)).f1) != 2) = false := bne_eq_false_iff_eq.mpr c39
           clear c39
           obtain ⟨ji40, hji40⟩ : ∃ j_ : Int, (mx (wrap64 (x13_1 - 1)) 0) = j_ := ⟨_, rfl⟩
           replace H : (canopylaw4_RunsDepth.j1 k1 t393 t417 t424 ji40 x14_1 t396 t397 t398 t401 t404 t407 t410) = some r := by first | (rw [hji40] at H; exact H) | (simp only [hji40] at H ⊢; exact H)
           have hji40_ : (if (wrap64 (x13_1 - 1)) < 0 then 0 else (wrap64 (x13_1 - 1))) = ji40 := hji40
           have H' := Aside0.mk H
           clear H
           go_wp2
           go_meet
           case rel => exact ⟨_, (ji40), (by first | rfl | (simp; done) | (simp only [← hji40] <;> (first | rfl | simp)) | (simp [*]; done)), H', ⟨by have := HK1.out; first | omega | exact Nat.le_refl _⟩, ⟨by (with_reducible repeat (first | apply Kd.R_alloc | apply Kd.R_drewN | apply Kd.R_drew)); exact HO_9.out⟩, ⟨by (with_reducible repeat (first | apply Kd.R_alloc | apply Kd.R_drewN | apply Kd.R_drew)); exact HO_11.out⟩, ⟨by (with_reducible repeat (first | apply Kd.S_alloc | apply Kd.S_drewN | apply Kd.S_drew)); exact Kd.S_mono HO426.out (fun _ hk => ⟨hk.1.1.1.2, ⟨hk.1.2, hk.2⟩⟩)⟩, ⟨by (with_reducible repeat (first | apply Kd.R_alloc | apply Kd.R_drewN | apply Kd.R_drew)); exact HO_414002.out⟩, ⟨by (with_reducible repeat (first | apply Kd.R_alloc | apply Kd.R_drewN | apply Kd.R_drew)); exact HO_414003.out⟩, ⟨by (with_reducible repeat (first | apply Kd.R_alloc | apply Kd.R_drewN | apply Kd.R_drew)); exact HO_414004.out⟩, ⟨by (with_reducible repeat (first | apply Kd.R_alloc | apply Kd.R_drewN | apply Kd.R_drew)); exact HO_414005.out⟩, ⟨by (with_reducible repeat (first | apply Kd.R_alloc | apply Kd.R_drewN | apply Kd.R_drew)); exact HO_414006.out⟩, ⟨by (with_reducible repeat (first | refine blk_drewN ?_ _ | refine blk_drew ?_ | refine blk_alloc ?_ _)); exact BK413.out⟩, ⟨by repeat (first | (with_reducible first | exact HB.out | apply below_alloc | apply pw_below_drewN | apply below_drew1 | refine below_set ?_ GE413.out) | exact HB.out)⟩⟩
          ·rw [if_neg c39] at H
           have c39b0 : (((rd_T46 t393 (rd t417 x14_1)).f1) == 2) = false := beq_eq_false_iff_ne.mpr c39
           have c39b1 : (((rd_T46 t393 (rd t417 x14_1)).f1) != 2) = true := bne_iff_ne.mpr c39
           have H' := Aside0.mk H
           clear H
           go_wp2
           go_meet
           case rel => exact ⟨_, (x13_1), (by first | rfl | (simp; done) | (simp [*]; done)), H', ⟨by have := HK1.out; first | omega | exact Nat.le_refl _⟩, ⟨by (with_reducible repeat (first | apply Kd.R_alloc | apply Kd.R_drewN | apply Kd.R_drew)); exact HO_9.out⟩, ⟨by (with_reducible repeat (first | apply Kd.R_alloc | apply Kd.R_drewN | apply Kd.R_drew)); exact HO_11.out⟩, ⟨by (with_reducible repeat (first | apply Kd.S_alloc | apply Kd.S_drewN | apply Kd.S_drew)); exact Kd.S_mono HO426.out (fun _ hk => ⟨hk.1.1.1.2, ⟨hk.1.2, hk.2⟩⟩)⟩, ⟨by (with_reducible repeat (first | apply Kd.R_alloc | apply Kd.R_drewN | apply Kd.R_drew)); exact HO_414002.out⟩, ⟨by (with_reducible repeat (first | apply Kd.R_alloc | apply Kd.R_drewN | apply Kd.R_drew)); exact HO_414003.out⟩, ⟨by (with_reducible repeat (first | apply Kd.R_alloc | apply Kd.R_drewN | apply Kd.R_drew)); exact HO_414004.out⟩, ⟨by (with_reducible repeat (first | apply Kd.R_alloc | apply Kd.R_drewN | apply Kd.R_drew)); exact HO_414005.out⟩, ⟨by (with_reducible repeat (first | apply Kd.R_alloc | apply Kd.R_drewN | apply Kd.R_drew)); exact HO_414006.out⟩, ⟨by (with_reducible repeat (first | refine blk_drewN ?_ _ | refine blk_drew ?_ | refine blk_alloc ?_ _)); exact BK413.out⟩, ⟨by repeat (first | (with_reducible first | exact HB.out | apply below_alloc | apply pw_below_drewN | apply below_drew1 | refine below_set ?_ GE413.out) | exact HB.out)⟩⟩
        case rest =>
         clear HC33
         try clear c1
         try clear c2
         try clear p2
         try clear c3
         try clear p4
         try clear q4
         try clear hx4
         try clear c5
         try clear c6
         try clear p6
         try clear c12
         try clear c13
         try clear c14
         try clear c15
         try clear c16
         try clear c17
         try clear c21
         try clear c28
         try clear c28b0
         try clear c29
         try clear c29b0
         try clear c31
         try clear c31b0
         try clear c32
         try clear c32b0
         try clear c38
         try clear c38b0
         try clear c38b1
         try clear c39
         try clear c39b0
         try clear c39b1
         try clear hcz17_0
         try clear hcz17_1
         try clear hcz17_2
         try clear hcz17_3
         try clear hcz17_4
         try clear hcz17_5
         try clear hcz17_6
         try clear hcz26_0
         try clear hcz26_1
         try clear hcz26_2
         try clear hcz26_3
         try clear hcz26_4
         try clear hcz26_5
         try clear hcz26_6
         try clear hfz17_0
         try clear hfz17_1
         try clear hfz17_2
         try clear hfz17_3
         try clear hfz17_4
         try clear hfz17_5
         try clear hfz17_6
         try clear hfz26_0
         try clear hfz26_1
         try clear hfz26_2
         try clear hfz26_3
         try clear hfz26_4
         try clear hfz26_5
         try clear hfz26_6
         try clear hx423_0
         try clear hx427_0
         try clear hx428_0
         try clear hx428_1
         try clear p2
         try clear p423
         try clear p427
         try clear p428
         try clear q423
         try clear q427
         try clear q428
         obtain ⟨kq, x13_32, rfl, HA, HJ32, HO_9, HO_11, HO_12, HO_414002, HO_414003, HO_414004, HO_414005, HO_414006, BK413, HB⟩ := hcut
         cases kq with
         | zero => exact absurd HA.out (by simp [canopylaw4_RunsDepth.j1])
         | succ kj32 =>
          have H := HA.out
          clear HA
          simp only [canopylaw4_RunsDepth.j1] at H
          have H' := Aside0.mk H
          clear H
          go_wp2
          go_loopg [15] kj32 (fun kq v15 w' => ∃ (x15_3 : Int), v15 = .int .i64 x15_3 ∧ Aside0 (canopylaw4_RunsDepth.l1 kq t393 t417 t424 x13_32 x14_1 x15_3 t396 t397 t398 t401 t404 t407 t410 = some r) ∧ Aside0 (kq ≤ kj32) ∧ Aside0 (Kd.R k46 46 w' w.heap.size (fun _ => True) (.slice (some ad428) t393.length co14) t393) ∧ Aside0 (Kd.R (Kd.int .i64) 3 w' w.heap.size (fun k_ => some k_ ≠ ((.slice Ao18 t398.length co18) : Value).ownBlock ∧ some k_ ≠ ((.slice Ao19 t401.length co19) : Value).ownBlock) (.slice (some ad423) t417.length co34) t417) ∧ Aside0 (Kd.S k48 48 w' w.heap.size (fun k_ => some k_ ≠ ((.slice (some ad423) t417.length co34) : Value).ownBlock ∧ some k_ ≠ ((.slice Ao18 t398.length co18) : Value).ownBlock ∧ some k_ ≠ ((.slice Ao19 t401.length co19) : Value).ownBlock) v425 t424) ∧ Aside0 (Kd.R (Kd.int .i64) 3 w' w.heap.size (fun k_ => some k_ ≠ ((.slice (some ad423) t417.length co34) : Value).ownBlock ∧ some k_ ≠ ((.slice Ao19 t401.length co19) : Value).ownBlock) (.slice Ao18 t398.length co18) t398) ∧ Aside0 (Kd.R (Kd.int .i64) 3 w' w.heap.size (fun k_ => some k_ ≠ ((.slice (some ad423) t417.length co34) : Value).ownBlock ∧ some k_ ≠ ((.slice Ao18 t398.length co18) : Value).ownBlock) (.slice Ao19 t401.length co19) t401) ∧ Aside0 (Kd.R k52 52 w' w.heap.size (fun _ => True) (.slice Ao20 t404.length co20) t404) ∧ Aside0 (Kd.R k54 54 w' w.heap.size (fun _ => True) (.slice Ao21 t407.length co21) t407) ∧ Aside0 (Kd.R k56 56 w' w.heap.size (fun _ => True) (.slice Ao22 t410.length co22) t410) ∧ Aside0 (w'.heap[gb413]? = some (.cells #[.int .i64 t396, .int .i64 t397, (.slice Ao18 t398.length co18), (.slice Ao19 t401.length co19), (.slice Ao20 t404.length co20), (.slice Ao21 t407.length co21), (.slice Ao22 t410.length co22)] 30 (0, 0))) ∧ Aside0 (Below w.heap.size w w'))
          case atStart => exact ⟨(0), (by first | rfl | (simp; done) | (simp [*]; done)), H', ⟨Nat.le_refl _⟩, ⟨by (with_reducible repeat (first | apply Kd.R_alloc | apply Kd.R_drewN | apply Kd.R_drew)); exact HO_9.out⟩, ⟨by (with_reducible repeat (first | apply Kd.R_alloc | apply Kd.R_drewN | apply Kd.R_drew)); exact HO_11.out⟩, ⟨by (with_reducible repeat (first | apply Kd.S_alloc | apply Kd.S_drewN | apply Kd.S_drew)); exact HO_12.out⟩, ⟨by (with_reducible repeat (first | apply Kd.R_alloc | apply Kd.R_drewN | apply Kd.R_drew)); exact HO_414002.out⟩, ⟨by (with_reducible repeat (first | apply Kd.R_alloc | apply Kd.R_drewN | apply Kd.R_drew)); exact HO_414003.out⟩, ⟨by (with_reducible repeat (first | apply Kd.R_alloc | apply Kd.R_drewN | apply Kd.R_drew)); exact HO_414004.out⟩, ⟨by (with_reducible repeat (first | apply Kd.R_alloc | apply Kd.R_drewN | apply Kd.R_drew)); exact HO_414005.out⟩, ⟨by (with_reducible repeat (first | apply Kd.R_alloc | apply Kd.R_drewN | apply Kd.R_drew)); exact HO_414006.out⟩, ⟨by (with_reducible repeat (first | refine blk_drewN ?_ _ | refine blk_drew ?_ | refine blk_alloc ?_ _)); exact BK413.out⟩, ⟨by repeat (first | (with_reducible first | exact HB.out | apply below_alloc | apply pw_below_drewN | apply below_drew1 | refine below_set ?_ GE413.out) | exact HB.out)⟩⟩
          case round =>
           clear H'
           try clear c1
           try clear c2
           try clear p2
           try clear c3
           try clear p4
           try clear q4
           try clear hx4
           try clear c5
           try clear c6
           try clear p6
           try clear c12
           try clear c13
           try clear c14
           try clear c15
           try clear c16
           try clear c17
           try clear c21
           try clear c28
           try clear c28b0
           try clear c29
           try clear c29b0
           try clear c31
           try clear c31b0
           try clear c32
           try clear c32b0
           try clear c38
           try clear c38b0
           try clear c38b1
           try clear c39
           try clear c39b0
           try clear c39b1
           try clear hcz17_0
           try clear hcz17_1
           try clear hcz17_2
           try clear hcz17_3
           try clear hcz17_4
           try clear hcz17_5
           try clear hcz17_6
           try clear hcz26_0
           try clear hcz26_1
           try clear hcz26_2
           try clear hcz26_3
           try clear hcz26_4
           try clear hcz26_5
           try clear hcz26_6
           try clear hfz17_0
           try clear hfz17_1
           try clear hfz17_2
           try clear hfz17_3
           try clear hfz17_4
           try clear hfz17_5
           try clear hfz17_6
           try clear hfz26_0
           try clear hfz26_1
           try clear hfz26_2
           try clear hfz26_3
           try clear hfz26_4
           try clear hfz26_5
           try clear hfz26_6
           try clear hx423_0
           try clear hx427_0
           try clear hx428_0
           try clear hx428_1
           try clear p2
           try clear p4
           try clear p423
           try clear p427
           try clear p428
           try clear p6
           try clear q4
           try clear q423
           try clear q427
           try clear q428
           obtain ⟨x15_3, rfl, HA, HK3, HO_9, HO_11, HO_12, HO_414002, HO_414003, HO_414004, HO_414005, HO_414006, BK413, HB⟩ := hrel
           cases gk with
           | zero => exact absurd HA.out (by simp [canopylaw4_RunsDepth.l1])
           | succ k3 =>
            have H := HA.out
            clear HA
            simp only [canopylaw4_RunsDepth.l1] at H
            by_cases c41 : x15_3 < (t424.length : Int)
            ·rw [if_pos c41] at H
             have c41b0 : decide (x15_3 < (t424.length : Int)) = true := decide_eq_true c41
             clear c41
             by_cases c42 : 0 ≤ x15_3
             ·rw [if_pos c42] at H
              have c42b0 : decide (0 ≤ x15_3) = true := decide_eq_true c42
              clear c42
              by_cases c43 : (((rd_T48 t424 x15_3).f1).length : Int) = x13_32
              ·rw [if_pos c43] at H
               have c43b0 : ((((rd_T48 t424 x15_3).f1).length : Int) == x13_32) = true := beq_iff_eq.mpr c43
               have c43b1 : ((((rd_T48 t424 x15_3).f1).length : Int) != x13_32) = false := bne_eq_false_iff_eq.mpr c43
               clear c43
               by_cases c44 : ((rd_T48 t424 x15_3).f0) < 0
               ·rw [if_pos c44] at H
                have c44b0 : decide (((rd_T48 t424 x15_3).f0) < 0) = true := decide_eq_true c44
                clear c44
                obtain rfl := Option.some.inj H
                obtain ⟨Ao45, co45, eo45⟩ := Kd.S_slice HO_12.out
                subst eo45
                try go_wp2
                have n0_ := Aside0.mk (Kd.R_drew HO_9.out)
                have n1_ := Aside0.mk (Kd.R_drew HO_11.out)
                have n2_ := Aside0.mk (Kd.S_drew HO_12.out)
                have n3_ := Aside0.mk (Kd.R_drew HO_414002.out)
                have n4_ := Aside0.mk (Kd.R_drew HO_414003.out)
                have n5_ := Aside0.mk (Kd.R_drew HO_414004.out)
                have n6_ := Aside0.mk (Kd.R_drew HO_414005.out)
                have n7_ := Aside0.mk (Kd.R_drew HO_414006.out)
                have n8_ := Aside0.mk (blk_drew BK413.out)
                have n9_ := Aside0.mk (below_drew1 HB.out)
                clear HO_9
                clear HO_11
                clear HO_12
                clear HO_414002
                clear HO_414003
                clear HO_414004
                clear HO_414005
                clear HO_414006
                clear BK413
                clear HB
                have HO_9 := n0_
                have HO_11 := n1_
                have HO_12 := n2_
                have HO_414002 := n3_
                have HO_414003 := n4_
                have HO_414004 := n5_
                have HO_414005 := n6_
                have HO_414006 := n7_
                have BK413 := n8_
                have HB := n9_
                clear n0_ n1_ n2_ n3_ n4_ n5_ n6_ n7_ n8_ n9_
                have p429 : 0 ≤ (x15_3 : Int) := of_decide_eq_true (by first | (with_reducible assumption) | assumption)
                have q429 : x15_3 < (t424.length : Int) := of_decide_eq_true (by first | (with_reducible assumption) | assumption)
                obtain ⟨ad429, A429_1, c429_1, e429, hx429_0, hx429_1, hl429_1, hi429_1⟩ := at_T48 (Kd.S_reads' HO_12.out).2.2 x15_3 p429 q429
                cases e429
                obtain ⟨ce429, hce429, hMe429, hcc429⟩ := Kd.S_get HO_12.out z48 x15_3 p429 (by first | exact q429 | exact of_decide_eq_true (by first | (with_reducible assumption) | assumption) | (have e_ := (Kd.S_reads' HO_12.out).1; omega))
                obtain ⟨ve429_1, rfl, ge429_1⟩ := k48_openM hMe429
                have hv429_1 := hcc429 1 _ rfl
                rw [add_field _ _ 1 (by omega)] at hv429_1
                replace hv429_1 := Option.some.inj (hv429_1.symm.trans hx429_1)
                rw [hv429_1] at ge429_1
                have HL429_1 := Aside0.mk (show Kd.R (Kd.int .i64) 3 _ _ _ _ ((rd_T48 t424 x15_3).f1) from ge429_1)
                clear hv429_1 ge429_1
                clear hcc429 hce429
                have HR429_1 := Aside0.mk hi429_1
                have HC429_1 := Aside0.mk hl429_1
                clear hi429_1 hl429_1
                replace p429 := eq_true p429
                replace q429 := eq_true q429
                have p430 : 0 ≤ (x15_3 : Int) := of_decide_eq_true (by first | (with_reducible assumption) | assumption)
                have q430 : x15_3 < (t424.length : Int) := of_decide_eq_true (by first | (with_reducible assumption) | assumption)
                obtain ⟨ad430, A430_1, c430_1, e430, hx430_0, hx430_1, hl430_1, hi430_1⟩ := at_T48 (Kd.S_reads' HO_12.out).2.2 x15_3 p430 q430
                obtain rfl : ad429 = ad430 := (by injection e430)
                obtain ⟨ce430, hce430, hMe430, hcc430⟩ := Kd.S_get HO_12.out z48 x15_3 p430 (by first | exact q430 | exact of_decide_eq_true (by first | (with_reducible assumption) | assumption) | (have e_ := (Kd.S_reads' HO_12.out).1; omega))
                obtain ⟨ve430_1, rfl, ge430_1⟩ := k48_openM hMe430
                have hv430_1 := hcc430 1 _ rfl
                rw [add_field _ _ 1 (by omega)] at hv430_1
                replace hv430_1 := Option.some.inj (hv430_1.symm.trans hx430_1)
                rw [hv430_1] at ge430_1
                have HL430_1 := Aside0.mk (show Kd.R (Kd.int .i64) 3 _ _ _ _ ((rd_T48 t424 x15_3).f1) from ge430_1)
                clear hv430_1 ge430_1
                clear hcc430 hce430
                have HR430_1 := Aside0.mk hi430_1
                have HC430_1 := Aside0.mk hl430_1
                clear hi430_1 hl430_1
                replace p430 := eq_true p430
                replace q430 := eq_true q430
                have ea_ := Option.some.inj (hx429_1.symm.trans hx430_1)
                injection ea_ with ea_ en_ ec_
                subst ea_
                subst ec_
                clear en_
                refine start_ (n := 44) (S := fun w' => w'.cell? (ad429.add ((x15_3).toNat * 2)) = some (.int .i64 ((rd_T48 t424 x15_3).f0)) ∧ w'.cell? ⟨(ad429.add ((x15_3).toNat * 2)).block, (ad429.add ((x15_3).toNat * 2)).off + 1, none⟩ = some (.slice A429_1 ((rd_T48 t424 x15_3).f1).length c429_1) ∧ w'.cell? (ad429.add ((x15_3).toNat * 2)) = some (.int .i64 ((rd_T48 t424 x15_3).f0)) ∧ w'.cell? ⟨(ad429.add ((x15_3).toNat * 2)).block, (ad429.add ((x15_3).toNat * 2)).off + 1, none⟩ = some (.slice A429_1 ((rd_T48 t424 x15_3).f1).length c429_1)) (ds := []) bzd0 (by kernel_rfl) rfl rfl ⟨hx429_0, hx429_1, hx430_0, hx430_1⟩ (fun hHeld => ?_); refine with_tabW canopylaw4_RunsDepth.tab20 canopylaw4_RunsDepth.bits20 (fun HT_ HW_ => ?_)
                generalize wr.drew = w46 at HO_9 HO_11 HO_12 HO_414002 HO_414003 HO_414004 HO_414005 HO_414006 BK413 HB HL429_1 HL430_1 HR429_1 HR430_1 hx429_0 hx429_1 hx430_0 hx430_1 hHeld ⊢
                refine pure_ (i := 0) (N := some 69) (v := ?_) (a' := ?_) bzd1 rfl rfl (any_of HT_.out (by kernel_rfl)) (fun _ _ _ h => h) (Or.inl ⟨by rfl, ?_⟩) ?_ ?_
                rotate_left
                ·intro w'
                 go_simp
                 with_reducible rfl
                rotate_left
                ·simp only [Act.put, List.setIfInBounds_toArray, List.set_cons_zero, List.set_cons_succ, i64_w, i32_w]
                 rfl
                refine pure_ (i := 1) (N := some 70) (v := ?_) (a' := ?_) bzd2 rfl rfl (any_of HT_.out (by kernel_rfl)) (fun _ _ _ h => h) (Or.inl ⟨by rfl, ?_⟩) ?_ ?_
                rotate_left
                ·intro w'
                 go_simp
                 with_reducible rfl
                rotate_left
                ·simp only [Act.put, List.setIfInBounds_toArray, List.set_cons_zero, List.set_cons_succ, i64_w, i32_w]
                 rfl
                refine pure_ (i := 2) (N := some 71) (v := ?_) (a' := ?_) bzd3 rfl rfl (any_of HT_.out (by kernel_rfl)) (fun _ _ _ h => h) (Or.inl ⟨by rfl, ?_⟩) ?_ ?_
                rotate_left
                ·intro w'
                 go_simp
                 with_reducible rfl
                rotate_left
                ·simp only [Act.put, List.setIfInBounds_toArray, List.set_cons_zero, List.set_cons_succ, i64_w, i32_w]
                 rfl
                refine pure_ (i := 3) (N := some 72) (v := ?_) (a' := ?_) bzd4 rfl rfl (any_of HT_.out (by kernel_rfl)) (fun _ _ _ h => h) (Or.inl ⟨by rfl, ?_⟩) ?_ ?_
                rotate_left
                ·intro w'
                 go_simp
                 with_reducible rfl
                rotate_left
                ·simp only [Act.put, List.setIfInBounds_toArray, List.set_cons_zero, List.set_cons_succ, i64_w, i32_w]
                 rfl
                refine pure_ (i := 6) (N := some 75) (v := ?_) (a' := ?_) bzd5 rfl rfl (any_of HT_.out (by kernel_rfl)) (fun _ _ _ h => h) (Or.inl ⟨by rfl, ?_⟩) ?_ ?_
                rotate_left
                ·intro w'
                 go_simp
                 with_reducible rfl
                rotate_left
                ·simp only [Act.put, List.setIfInBounds_toArray, List.set_cons_zero, List.set_cons_succ, i64_w, i32_w]
                 rfl
                refine take_ (i := 4) (N := some 73) (v := ?_) (a' := ?_) bzd6 rfl rfl (take_ofW HT_.out HW_.out (by kernel_rfl)) (fun _ _ _ h => h) (Or.inl ⟨by rfl, ?_⟩) hHeld ?_ ?_
                rotate_left
                ·rintro w' ⟨s0, s1, s2, s3⟩
                 go_simp
                 with_reducible rfl
                rotate_left
                ·simp only [Act.put, List.setIfInBounds_toArray, List.set_cons_zero, List.set_cons_succ, i64_w, i32_w]
                 rfl
                refine pure_ (i := 5) (N := some 74) (v := ?_) (a' := ?_) bzd7 rfl rfl (any_of HT_.out (by kernel_rfl)) (fun _ _ _ h => h) (Or.inl ⟨by rfl, ?_⟩) ?_ ?_
                rotate_left
                ·intro w'
                 go_simp
                 with_reducible rfl
                rotate_left
                ·simp only [Act.put, List.setIfInBounds_toArray, List.set_cons_zero, List.set_cons_succ, i64_w, i32_w]
                 rfl
                refine pure_ (i := 7) (N := some 76) (v := ?_) (a' := ?_) bzd8 rfl rfl (any_of HT_.out (by kernel_rfl)) (fun _ _ _ h => h) (Or.inl ⟨by rfl, ?_⟩) ?_ ?_
                rotate_left
                ·intro w'
                 go_simp
                 with_reducible rfl
                rotate_left
                ·simp only [Act.put, List.setIfInBounds_toArray, List.set_cons_zero, List.set_cons_succ, i64_w, i32_w]
                 rfl
                refine pure_ (i := 8) (N := some 77) (v := ?_) (a' := ?_) bzd9 rfl rfl (any_of HT_.out (by kernel_rfl)) (fun _ _ _ h => h) (Or.inl ⟨by rfl, ?_⟩) ?_ ?_
                rotate_left
                ·intro w'
                 go_simp
                 with_reducible rfl
                rotate_left
                ·simp only [Act.put, List.setIfInBounds_toArray, List.set_cons_zero, List.set_cons_succ, i64_w, i32_w]
                 rfl
                refine pure_ (i := 9) (N := some 78) (v := ?_) (a' := ?_) bzd10 rfl rfl (any_of HT_.out (by kernel_rfl)) (fun _ _ _ h => h) (Or.inl ⟨by rfl, ?_⟩) ?_ ?_
                rotate_left
                ·intro w'
                 go_simp
                 with_reducible rfl
                rotate_left
                ·simp only [Act.put, List.setIfInBounds_toArray, List.set_cons_zero, List.set_cons_succ, i64_w, i32_w]
                 rfl
                refine pure_ (i := 10) (N := some 79) (v := ?_) (a' := ?_) bzd11 rfl rfl (any_of HT_.out (by kernel_rfl)) (fun _ _ _ h => h) (Or.inl ⟨by rfl, ?_⟩) ?_ ?_
                rotate_left
                ·intro w'
                 go_simp
                 with_reducible rfl
                rotate_left
                ·simp only [Act.put, List.setIfInBounds_toArray, List.set_cons_zero, List.set_cons_succ, i64_w, i32_w]
                 rfl
                refine pure_ (i := 11) (N := some 80) (v := ?_) (a' := ?_) bzd12 rfl rfl (any_of HT_.out (by kernel_rfl)) (fun _ _ _ h => h) (Or.inl ⟨by rfl, ?_⟩) ?_ ?_
                rotate_left
                ·intro w'
                 go_simp
                 with_reducible rfl
                rotate_left
                ·simp only [Act.put, List.setIfInBounds_toArray, List.set_cons_zero, List.set_cons_succ, i64_w, i32_w]
                 rfl
                refine pure_ (i := 12) (N := some 81) (v := ?_) (a' := ?_) bzd13 rfl rfl (any_of HT_.out (by kernel_rfl)) (fun _ _ _ h => h) (Or.inl ⟨by rfl, ?_⟩) ?_ ?_
                rotate_left
                ·intro w'
                 go_simp
                 with_reducible rfl
                rotate_left
                ·simp only [Act.put, List.setIfInBounds_toArray, List.set_cons_zero, List.set_cons_succ, i64_w, i32_w]
                 rfl
                refine take_ (i := 13) (N := some 82) (v := ?_) (a' := ?_) bzd14 rfl rfl (take_ofW HT_.out HW_.out (by kernel_rfl)) (fun _ _ _ h => h) (Or.inl ⟨by rfl, ?_⟩) hHeld ?_ ?_
                rotate_left
                ·rintro w' ⟨s0, s1, s2, s3⟩
                 go_simp
                 with_reducible rfl
                rotate_left
                ·simp only [Act.put, List.setIfInBounds_toArray, List.set_cons_zero, List.set_cons_succ, i64_w, i32_w]
                 rfl
                refine pure_ (i := 14) (N := some 83) (v := ?_) (a' := ?_) bzd15 rfl rfl (any_of HT_.out (by kernel_rfl)) (fun _ _ _ h => h) (Or.inl ⟨by rfl, ?_⟩) ?_ ?_
                rotate_left
                ·intro w'
                 go_simp
                 with_reducible rfl
                rotate_left
                ·simp only [Act.put, List.setIfInBounds_toArray, List.set_cons_zero, List.set_cons_succ, i64_w, i32_w]
                 rfl
                refine pure_ (i := 15) (N := some 84) (v := ?_) (a' := ?_) bzd16 rfl rfl (any_of HT_.out (by kernel_rfl)) (fun _ _ _ h => h) (Or.inl ⟨by rfl, ?_⟩) ?_ ?_
                rotate_left
                ·intro w'
                 go_simp
                 with_reducible rfl
                rotate_left
                ·simp only [Act.put, List.setIfInBounds_toArray, List.set_cons_zero, List.set_cons_succ, i64_w, i32_w]
                 rfl
                refine pure_ (i := 16) (N := some 85) (v := ?_) (a' := ?_) bzd17 rfl rfl (any_of HT_.out (by kernel_rfl)) (fun _ _ _ h => h) (Or.inl ⟨by rfl, ?_⟩) ?_ ?_
                rotate_left
                ·intro w'
                 go_simp
                 with_reducible rfl
                rotate_left
                ·simp only [Act.put, List.setIfInBounds_toArray, List.set_cons_zero, List.set_cons_succ, i64_w, i32_w]
                 rfl
                refine pure_ (i := 17) (N := some 86) (v := undef) (a' := ?_) bzd18 rfl rfl (any_of HT_.out (by kernel_rfl)) (fun _ _ _ h => h) (Or.inr ⟨by rfl, rfl⟩) ?_ ?_
                rotate_left
                ·simp only [Act.put, List.setIfInBounds_toArray, List.set_cons_zero, List.set_cons_succ, i64_w, i32_w]
                 rfl
                refine pure_ (i := 18) (N := some 87) (v := undef) (a' := ?_) bzd19 rfl rfl (any_of HT_.out (by kernel_rfl)) (fun _ _ _ h => h) (Or.inr ⟨by rfl, rfl⟩) ?_ ?_
                rotate_left
                ·simp only [Act.put, List.setIfInBounds_toArray, List.set_cons_zero, List.set_cons_succ, i64_w, i32_w]
                 rfl
                refine pure_ (i := 19) (N := some 88) (v := undef) (a' := ?_) bzd20 rfl rfl (any_of HT_.out (by kernel_rfl)) (fun _ _ _ h => h) (Or.inr ⟨by rfl, rfl⟩) ?_ ?_
                rotate_left
                ·simp only [Act.put, List.setIfInBounds_toArray, List.set_cons_zero, List.set_cons_succ, i64_w, i32_w]
                 rfl
                refine pure_ (i := 20) (N := some 89) (v := undef) (a' := ?_) bzd21 rfl rfl (any_of HT_.out (by kernel_rfl)) (fun _ _ _ h => h) (Or.inr ⟨by rfl, rfl⟩) ?_ ?_
                rotate_left
                ·simp only [Act.put, List.setIfInBounds_toArray, List.set_cons_zero, List.set_cons_succ, i64_w, i32_w]
                 rfl
                refine pure_ (i := 21) (N := some 90) (v := undef) (a' := ?_) bzd22 rfl rfl (any_of HT_.out (by kernel_rfl)) (fun _ _ _ h => h) (Or.inr ⟨by rfl, rfl⟩) ?_ ?_
                rotate_left
                ·simp only [Act.put, List.setIfInBounds_toArray, List.set_cons_zero, List.set_cons_succ, i64_w, i32_w]
                 rfl
                refine pure_ (i := 22) (N := some 91) (v := undef) (a' := ?_) bzd23 rfl rfl (any_of HT_.out (by kernel_rfl)) (fun _ _ _ h => h) (Or.inr ⟨by rfl, rfl⟩) ?_ ?_
                rotate_left
                ·simp only [Act.put, List.setIfInBounds_toArray, List.set_cons_zero, List.set_cons_succ, i64_w, i32_w]
                 rfl
                refine pure_ (i := 23) (N := some 92) (v := undef) (a' := ?_) bzd24 rfl rfl (any_of HT_.out (by kernel_rfl)) (fun _ _ _ h => h) (Or.inr ⟨by rfl, rfl⟩) ?_ ?_
                rotate_left
                ·simp only [Act.put, List.setIfInBounds_toArray, List.set_cons_zero, List.set_cons_succ, i64_w, i32_w]
                 rfl
                refine pure_ (i := 24) (N := some 93) (v := undef) (a' := ?_) bzd25 rfl rfl (any_of HT_.out (by kernel_rfl)) (fun _ _ _ h => h) (Or.inr ⟨by rfl, rfl⟩) ?_ ?_
                rotate_left
                ·simp only [Act.put, List.setIfInBounds_toArray, List.set_cons_zero, List.set_cons_succ, i64_w, i32_w]
                 rfl
                refine pure_ (i := 25) (N := some 94) (v := ?_) (a' := ?_) bzd26 rfl rfl (any_of HT_.out (by kernel_rfl)) (fun _ _ _ h => h) (Or.inl ⟨by rfl, ?_⟩) ?_ ?_
                rotate_left
                ·intro w'
                 go_simp
                 with_reducible rfl
                rotate_left
                ·simp only [Act.put, List.setIfInBounds_toArray, List.set_cons_zero, List.set_cons_succ, i64_w, i32_w]
                 rfl
                refine pure_ (i := 26) (N := some 95) (v := ?_) (a' := ?_) bzd27 rfl rfl (any_of HT_.out (by kernel_rfl)) (fun _ _ _ h => h) (Or.inl ⟨by rfl, ?_⟩) ?_ ?_
                rotate_left
                ·intro w'
                 go_simp
                 with_reducible rfl
                rotate_left
                ·simp only [Act.put, List.setIfInBounds_toArray, List.set_cons_zero, List.set_cons_succ, i64_w, i32_w]
                 rfl
                refine pure_ (i := 27) (N := some 96) (v := undef) (a' := ?_) bzd28 rfl rfl (any_of HT_.out (by kernel_rfl)) (fun _ _ _ h => h) (Or.inr ⟨by rfl, rfl⟩) ?_ ?_
                rotate_left
                ·simp only [Act.put, List.setIfInBounds_toArray, List.set_cons_zero, List.set_cons_succ, i64_w, i32_w]
                 rfl
                refine pure_ (i := 28) (N := some 97) (v := undef) (a' := ?_) bzd29 rfl rfl (any_of HT_.out (by kernel_rfl)) (fun _ _ _ h => h) (Or.inr ⟨by rfl, rfl⟩) ?_ ?_
                rotate_left
                ·simp only [Act.put, List.setIfInBounds_toArray, List.set_cons_zero, List.set_cons_succ, i64_w, i32_w]
                 rfl
                refine pure_ (i := 29) (N := some 98) (v := undef) (a' := ?_) bzd30 rfl rfl (any_of HT_.out (by kernel_rfl)) (fun _ _ _ h => h) (Or.inr ⟨by rfl, rfl⟩) ?_ ?_
                rotate_left
                ·simp only [Act.put, List.setIfInBounds_toArray, List.set_cons_zero, List.set_cons_succ, i64_w, i32_w]
                 rfl
                refine pure_ (i := 30) (N := some 99) (v := undef) (a' := ?_) bzd31 rfl rfl (any_of HT_.out (by kernel_rfl)) (fun _ _ _ h => h) (Or.inr ⟨by rfl, rfl⟩) ?_ ?_
                rotate_left
                ·simp only [Act.put, List.setIfInBounds_toArray, List.set_cons_zero, List.set_cons_succ, i64_w, i32_w]
                 rfl
                refine pure_ (i := 31) (N := some 100) (v := undef) (a' := ?_) bzd32 rfl rfl (any_of HT_.out (by kernel_rfl)) (fun _ _ _ h => h) (Or.inr ⟨by rfl, rfl⟩) ?_ ?_
                rotate_left
                ·simp only [Act.put, List.setIfInBounds_toArray, List.set_cons_zero, List.set_cons_succ, i64_w, i32_w]
                 rfl
                refine pure_ (i := 32) (N := some 101) (v := undef) (a' := ?_) bzd33 rfl rfl (any_of HT_.out (by kernel_rfl)) (fun _ _ _ h => h) (Or.inr ⟨by rfl, rfl⟩) ?_ ?_
                rotate_left
                ·simp only [Act.put, List.setIfInBounds_toArray, List.set_cons_zero, List.set_cons_succ, i64_w, i32_w]
                 rfl
                refine pure_ (i := 33) (N := some 102) (v := undef) (a' := ?_) bzd34 rfl rfl (any_of HT_.out (by kernel_rfl)) (fun _ _ _ h => h) (Or.inr ⟨by rfl, rfl⟩) ?_ ?_
                rotate_left
                ·simp only [Act.put, List.setIfInBounds_toArray, List.set_cons_zero, List.set_cons_succ, i64_w, i32_w]
                 rfl
                refine pure_ (i := 34) (N := some 103) (v := undef) (a' := ?_) bzd35 rfl rfl (any_of HT_.out (by kernel_rfl)) (fun _ _ _ h => h) (Or.inr ⟨by rfl, rfl⟩) ?_ ?_
                rotate_left
                ·simp only [Act.put, List.setIfInBounds_toArray, List.set_cons_zero, List.set_cons_succ, i64_w, i32_w]
                 rfl
                refine pure_ (i := 35) (N := some 104) (v := undef) (a' := ?_) bzd36 rfl rfl (any_of HT_.out (by kernel_rfl)) (fun _ _ _ h => h) (Or.inr ⟨by rfl, rfl⟩) ?_ ?_
                rotate_left
                ·simp only [Act.put, List.setIfInBounds_toArray, List.set_cons_zero, List.set_cons_succ, i64_w, i32_w]
                 rfl
                refine pure_ (i := 36) (N := some 105) (v := undef) (a' := ?_) bzd37 rfl rfl (any_of HT_.out (by kernel_rfl)) (fun _ _ _ h => h) (Or.inr ⟨by rfl, rfl⟩) ?_ ?_
                rotate_left
                ·simp only [Act.put, List.setIfInBounds_toArray, List.set_cons_zero, List.set_cons_succ, i64_w, i32_w]
                 rfl
                refine pure_ (i := 37) (N := some 106) (v := undef) (a' := ?_) bzd38 rfl rfl (any_of HT_.out (by kernel_rfl)) (fun _ _ _ h => h) (Or.inr ⟨by rfl, rfl⟩) ?_ ?_
                rotate_left
                ·simp only [Act.put, List.setIfInBounds_toArray, List.set_cons_zero, List.set_cons_succ, i64_w, i32_w]
                 rfl
                refine pure_ (i := 38) (N := some 107) (v := undef) (a' := ?_) bzd39 rfl rfl (any_of HT_.out (by kernel_rfl)) (fun _ _ _ h => h) (Or.inr ⟨by rfl, rfl⟩) ?_ ?_
                rotate_left
                ·simp only [Act.put, List.setIfInBounds_toArray, List.set_cons_zero, List.set_cons_succ, i64_w, i32_w]
                 rfl
                refine pure_ (i := 39) (N := some 108) (v := undef) (a' := ?_) bzd40 rfl rfl (any_of HT_.out (by kernel_rfl)) (fun _ _ _ h => h) (Or.inr ⟨by rfl, rfl⟩) ?_ ?_
                rotate_left
                ·simp only [Act.put, List.setIfInBounds_toArray, List.set_cons_zero, List.set_cons_succ, i64_w, i32_w]
                 rfl
                refine pure_ (i := 40) (N := some 109) (v := undef) (a' := ?_) bzd41 rfl rfl (any_of HT_.out (by kernel_rfl)) (fun _ _ _ h => h) (Or.inr ⟨by rfl, rfl⟩) ?_ ?_
                rotate_left
                ·simp only [Act.put, List.setIfInBounds_toArray, List.set_cons_zero, List.set_cons_succ, i64_w, i32_w]
                 rfl
                refine pure_ (i := 41) (N := some 110) (v := undef) (a' := ?_) bzd42 rfl rfl (any_of HT_.out (by kernel_rfl)) (fun _ _ _ h => h) (Or.inr ⟨by rfl, rfl⟩) ?_ ?_
                rotate_left
                ·simp only [Act.put, List.setIfInBounds_toArray, List.set_cons_zero, List.set_cons_succ, i64_w, i32_w]
                 rfl
                refine pure_ (i := 42) (N := some 111) (v := undef) (a' := ?_) bzd43 rfl rfl (any_of HT_.out (by kernel_rfl)) (fun _ _ _ h => h) (Or.inr ⟨by rfl, rfl⟩) ?_ ?_
                rotate_left
                ·simp only [Act.put, List.setIfInBounds_toArray, List.set_cons_zero, List.set_cons_succ, i64_w, i32_w]
                 rfl
                refine pure_ (i := 43) (N := some 112) (v := ?_) (a' := ?_) bzd44 rfl rfl (any_of HT_.out (by kernel_rfl)) (fun _ _ _ h => h) (Or.inl ⟨by rfl, ?_⟩) ?_ ?_
                rotate_left
                ·intro w'
                 go_simp
                 with_reducible rfl
                rotate_left
                ·simp only [Act.put, List.setIfInBounds_toArray, List.set_cons_zero, List.set_cons_succ, i64_w, i32_w]
                 rfl
                refine done_ (done_of HT_.out (by kernel_rfl)) ?_
                try go_wp2
                go_ret
                exact ⟨by first | rfl | (simp [errW_none, errW_some] <;> rfl) | (simp [*, errW_none, errW_some] <;> rfl), by repeat (first | (with_reducible first | exact HB.out | apply below_alloc | apply pw_below_drewN | apply below_drew1 | refine below_set ?_ GE413.out) | exact HB.out)⟩
               ·rw [if_neg c44] at H
                have c44b0 : decide (((rd_T48 t424 x15_3).f0) < 0) = false := decide_eq_false c44
                clear c44
                by_cases c47 : ((rd_T48 t424 x15_3).f0) ≥ t396
                ·rw [if_pos c47] at H
                 have c47b0 : decide (t396 ≤ ((rd_T48 t424 x15_3).f0)) = true := decide_eq_true c47
                 clear c47
                 obtain rfl := Option.some.inj H
                 obtain ⟨Ao48, co48, eo48⟩ := Kd.S_slice HO_12.out
                 subst eo48
                 try go_wp2
                 have n0_ := Aside0.mk (Kd.R_drew HO_9.out)
                 have n1_ := Aside0.mk (Kd.R_drew HO_11.out)
                 have n2_ := Aside0.mk (Kd.S_drew HO_12.out)
                 have n3_ := Aside0.mk (Kd.R_drew HO_414002.out)
                 have n4_ := Aside0.mk (Kd.R_drew HO_414003.out)
                 have n5_ := Aside0.mk (Kd.R_drew HO_414004.out)
                 have n6_ := Aside0.mk (Kd.R_drew HO_414005.out)
                 have n7_ := Aside0.mk (Kd.R_drew HO_414006.out)
                 have n8_ := Aside0.mk (blk_drew BK413.out)
                 have n9_ := Aside0.mk (below_drew1 HB.out)
                 clear HO_9
                 clear HO_11
                 clear HO_12
                 clear HO_414002
                 clear HO_414003
                 clear HO_414004
                 clear HO_414005
                 clear HO_414006
                 clear BK413
                 clear HB
                 have HO_9 := n0_
                 have HO_11 := n1_
                 have HO_12 := n2_
                 have HO_414002 := n3_
                 have HO_414003 := n4_
                 have HO_414004 := n5_
                 have HO_414005 := n6_
                 have HO_414006 := n7_
                 have BK413 := n8_
                 have HB := n9_
                 clear n0_ n1_ n2_ n3_ n4_ n5_ n6_ n7_ n8_ n9_
                 have p429 : 0 ≤ (x15_3 : Int) := of_decide_eq_true (by first | (with_reducible assumption) | assumption)
                 have q429 : x15_3 < (t424.length : Int) := of_decide_eq_true (by first | (with_reducible assumption) | assumption)
                 obtain ⟨ad429, A429_1, c429_1, e429, hx429_0, hx429_1, hl429_1, hi429_1⟩ := at_T48 (Kd.S_reads' HO_12.out).2.2 x15_3 p429 q429
                 cases e429
                 obtain ⟨ce429, hce429, hMe429, hcc429⟩ := Kd.S_get HO_12.out z48 x15_3 p429 (by first | exact q429 | exact of_decide_eq_true (by first | (with_reducible assumption) | assumption) | (have e_ := (Kd.S_reads' HO_12.out).1; omega))
                 obtain ⟨ve429_1, rfl, ge429_1⟩ := k48_openM hMe429
                 have hv429_1 := hcc429 1 _ rfl
                 rw [add_field _ _ 1 (by omega)] at hv429_1
                 replace hv429_1 := Option.some.inj (hv429_1.symm.trans hx429_1)
                 rw [hv429_1] at ge429_1
                 have HL429_1 := Aside0.mk (show Kd.R (Kd.int .i64) 3 _ _ _ _ ((rd_T48 t424 x15_3).f1) from ge429_1)
                 clear hv429_1 ge429_1
                 clear hcc429 hce429
                 have HR429_1 := Aside0.mk hi429_1
                 have HC429_1 := Aside0.mk hl429_1
                 clear hi429_1 hl429_1
                 replace p429 := eq_true p429
                 replace q429 := eq_true q429
                 have p430 : 0 ≤ (x15_3 : Int) := of_decide_eq_true (by first | (with_reducible assumption) | assumption)
                 have q430 : x15_3 < (t424.length : Int) := of_decide_eq_true (by first | (with_reducible assumption) | assumption)
                 obtain ⟨ad430, A430_1, c430_1, e430, hx430_0, hx430_1, hl430_1, hi430_1⟩ := at_T48 (Kd.S_reads' HO_12.out).2.2 x15_3 p430 q430
                 obtain rfl : ad429 = ad430 := (by injection e430)
                 obtain ⟨ce430, hce430, hMe430, hcc430⟩ := Kd.S_get HO_12.out z48 x15_3 p430 (by first | exact q430 | exact of_decide_eq_true (by first | (with_reducible assumption) | assumption) | (have e_ := (Kd.S_reads' HO_12.out).1; omega))
                 obtain ⟨ve430_1, rfl, ge430_1⟩ := k48_openM hMe430
                 have hv430_1 := hcc430 1 _ rfl
                 rw [add_field _ _ 1 (by omega)] at hv430_1
                 replace hv430_1 := Option.some.inj (hv430_1.symm.trans hx430_1)
                 rw [hv430_1] at ge430_1
                 have HL430_1 := Aside0.mk (show Kd.R (Kd.int .i64) 3 _ _ _ _ ((rd_T48 t424 x15_3).f1) from ge430_1)
                 clear hv430_1 ge430_1
                 clear hcc430 hce430
                 have HR430_1 := Aside0.mk hi430_1
                 have HC430_1 := Aside0.mk hl430_1
                 clear hi430_1 hl430_1
                 replace p430 := eq_true p430
                 replace q430 := eq_true q430
                 have ea_ := Option.some.inj (hx429_1.symm.trans hx430_1)
                 injection ea_ with ea_ en_ ec_
                 subst ea_
                 subst ec_
                 clear en_
                 have p431 : 0 ≤ (x15_3 : Int) := of_decide_eq_true (by first | (with_reducible assumption) | assumption)
                 have q431 : x15_3 < (t424.length : Int) := of_decide_eq_true (by first | (with_reducible assumption) | assumption)
                 obtain ⟨ad431, A431_1, c431_1, e431, hx431_0, hx431_1, hl431_1, hi431_1⟩ := at_T48 (Kd.S_reads' HO_12.out).2.2 x15_3 p431 q431
                 obtain rfl : ad429 = ad431 := (by injection e431)
                 obtain ⟨ce431, hce431, hMe431, hcc431⟩ := Kd.S_get HO_12.out z48 x15_3 p431 (by first | exact q431 | exact of_decide_eq_true (by first | (with_reducible assumption) | assumption) | (have e_ := (Kd.S_reads' HO_12.out).1; omega))
                 obtain ⟨ve431_1, rfl, ge431_1⟩ := k48_openM hMe431
                 have hv431_1 := hcc431 1 _ rfl
                 rw [add_field _ _ 1 (by omega)] at hv431_1
                 replace hv431_1 := Option.some.inj (hv431_1.symm.trans hx431_1)
                 rw [hv431_1] at ge431_1
                 have HL431_1 := Aside0.mk (show Kd.R (Kd.int .i64) 3 _ _ _ _ ((rd_T48 t424 x15_3).f1) from ge431_1)
                 clear hv431_1 ge431_1
                 clear hcc431 hce431
                 have HR431_1 := Aside0.mk hi431_1
                 have HC431_1 := Aside0.mk hl431_1
                 clear hi431_1 hl431_1
                 replace p431 := eq_true p431
                 replace q431 := eq_true q431
                 have ea_ := Option.some.inj (hx429_1.symm.trans hx431_1)
                 injection ea_ with ea_ en_ ec_
                 subst ea_
                 subst ec_
                 clear en_
                 refine start_ (n := 44) (S := fun w' => w'.cell? ⟨gb413, 0, none⟩ = some (.int .i64 t396) ∧ w'.cell? ⟨gb413, 1, none⟩ = some (.int .i64 t397) ∧ w'.cell? ⟨gb413, 2, none⟩ = some (.slice Ao18 t398.length co18) ∧ w'.cell? ⟨gb413, 3, none⟩ = some (.slice Ao19 t401.length co19) ∧ w'.cell? ⟨gb413, 4, none⟩ = some (.slice Ao20 t404.length co20) ∧ w'.cell? ⟨gb413, 5, none⟩ = some (.slice Ao21 t407.length co21) ∧ w'.cell? ⟨gb413, 6, none⟩ = some (.slice Ao22 t410.length co22) ∧ w'.cell? (ad429.add ((x15_3).toNat * 2)) = some (.int .i64 ((rd_T48 t424 x15_3).f0)) ∧ w'.cell? ⟨(ad429.add ((x15_3).toNat * 2)).block, (ad429.add ((x15_3).toNat * 2)).off + 1, none⟩ = some (.slice A429_1 ((rd_T48 t424 x15_3).f1).length c429_1) ∧ w'.cell? (ad429.add ((x15_3).toNat * 2)) = some (.int .i64 ((rd_T48 t424 x15_3).f0)) ∧ w'.cell? ⟨(ad429.add ((x15_3).toNat * 2)).block, (ad429.add ((x15_3).toNat * 2)).off + 1, none⟩ = some (.slice A429_1 ((rd_T48 t424 x15_3).f1).length c429_1) ∧ w'.cell? (ad429.add ((x15_3).toNat * 2)) = some (.int .i64 ((rd_T48 t424 x15_3).f0)) ∧ w'.cell? ⟨(ad429.add ((x15_3).toNat * 2)).block, (ad429.add ((x15_3).toNat * 2)).off + 1, none⟩ = some (.slice A429_1 ((rd_T48 t424 x15_3).f1).length c429_1)) (ds := []) bzd0 (by kernel_rfl) rfl rfl ⟨(blk_cell BK413.out 0).trans rfl, (blk_cell BK413.out 1).trans rfl, (blk_cell BK413.out 2).trans rfl, (blk_cell BK413.out 3).trans rfl, (blk_cell BK413.out 4).trans rfl, (blk_cell BK413.out 5).trans rfl, (blk_cell BK413.out 6).trans rfl, hx429_0, hx429_1, hx430_0, hx430_1, hx431_0, hx431_1⟩ (fun hHeld => ?_); refine with_tabW canopylaw4_RunsDepth.tab20 canopylaw4_RunsDepth.bits20 (fun HT_ HW_ => ?_)
                 generalize wr.drew = w49 at HO_9 HO_11 HO_12 HO_414002 HO_414003 HO_414004 HO_414005 HO_414006 BK413 HB HL429_1 HL430_1 HL431_1 HR429_1 HR430_1 HR431_1 hx429_0 hx429_1 hx430_0 hx430_1 hx431_0 hx431_1 hHeld ⊢
                 refine pure_ (i := 0) (N := some 69) (v := ?_) (a' := ?_) bzd1 rfl rfl (any_of HT_.out (by kernel_rfl)) (fun _ _ _ h => h) (Or.inl ⟨by rfl, ?_⟩) ?_ ?_
                 rotate_left
                 ·intro w'
                  go_simp
                  with_reducible rfl
                 rotate_left
                 ·simp only [Act.put, List.setIfInBounds_toArray, List.set_cons_zero, List.set_cons_succ, i64_w, i32_w]
                  rfl
                 refine pure_ (i := 1) (N := some 70) (v := ?_) (a' := ?_) bzd2 rfl rfl (any_of HT_.out (by kernel_rfl)) (fun _ _ _ h => h) (Or.inl ⟨by rfl, ?_⟩) ?_ ?_
                 rotate_left
                 ·intro w'
                  go_simp
                  with_reducible rfl
                 rotate_left
                 ·simp only [Act.put, List.setIfInBounds_toArray, List.set_cons_zero, List.set_cons_succ, i64_w, i32_w]
                  rfl
                 refine pure_ (i := 2) (N := some 71) (v := ?_) (a' := ?_) bzd3 rfl rfl (any_of HT_.out (by kernel_rfl)) (fun _ _ _ h => h) (Or.inl ⟨by rfl, ?_⟩) ?_ ?_
                 rotate_left
                 ·intro w'
                  go_simp
                  with_reducible rfl
                 rotate_left
                 ·simp only [Act.put, List.setIfInBounds_toArray, List.set_cons_zero, List.set_cons_succ, i64_w, i32_w]
                  rfl
                 refine pure_ (i := 3) (N := some 72) (v := ?_) (a' := ?_) bzd4 rfl rfl (any_of HT_.out (by kernel_rfl)) (fun _ _ _ h => h) (Or.inl ⟨by rfl, ?_⟩) ?_ ?_
                 rotate_left
                 ·intro w'
                  go_simp
                  with_reducible rfl
                 rotate_left
                 ·simp only [Act.put, List.setIfInBounds_toArray, List.set_cons_zero, List.set_cons_succ, i64_w, i32_w]
                  rfl
                 refine pure_ (i := 6) (N := some 75) (v := ?_) (a' := ?_) bzd5 rfl rfl (any_of HT_.out (by kernel_rfl)) (fun _ _ _ h => h) (Or.inl ⟨by rfl, ?_⟩) ?_ ?_
                 rotate_left
                 ·intro w'
                  go_simp
                  with_reducible rfl
                 rotate_left
                 ·simp only [Act.put, List.setIfInBounds_toArray, List.set_cons_zero, List.set_cons_succ, i64_w, i32_w]
                  rfl
                 refine take_ (i := 4) (N := some 73) (v := ?_) (a' := ?_) bzd6 rfl rfl (take_ofW HT_.out HW_.out (by kernel_rfl)) (fun _ _ _ h => h) (Or.inl ⟨by rfl, ?_⟩) hHeld ?_ ?_
                 rotate_left
                 ·rintro w' ⟨s0, s1, s2, s3, s4, s5, s6, s7, s8, s9, s10, s11, s12⟩
                  go_simp
                  with_reducible rfl
                 rotate_left
                 ·simp only [Act.put, List.setIfInBounds_toArray, List.set_cons_zero, List.set_cons_succ, i64_w, i32_w]
                  rfl
                 refine pure_ (i := 5) (N := some 74) (v := ?_) (a' := ?_) bzd7 rfl rfl (any_of HT_.out (by kernel_rfl)) (fun _ _ _ h => h) (Or.inl ⟨by rfl, ?_⟩) ?_ ?_
                 rotate_left
                 ·intro w'
                  go_simp
                  with_reducible rfl
                 rotate_left
                 ·simp only [Act.put, List.setIfInBounds_toArray, List.set_cons_zero, List.set_cons_succ, i64_w, i32_w]
                  rfl
                 refine pure_ (i := 7) (N := some 76) (v := ?_) (a' := ?_) bzd8 rfl rfl (any_of HT_.out (by kernel_rfl)) (fun _ _ _ h => h) (Or.inl ⟨by rfl, ?_⟩) ?_ ?_
                 rotate_left
                 ·intro w'
                  go_simp
                  with_reducible rfl
                 rotate_left
                 ·simp only [Act.put, List.setIfInBounds_toArray, List.set_cons_zero, List.set_cons_succ, i64_w, i32_w]
                  rfl
                 refine pure_ (i := 8) (N := some 77) (v := ?_) (a' := ?_) bzd9 rfl rfl (any_of HT_.out (by kernel_rfl)) (fun _ _ _ h => h) (Or.inl ⟨by rfl, ?_⟩) ?_ ?_
                 rotate_left
                 ·intro w'
                  go_simp
                  with_reducible rfl
                 rotate_left
                 ·simp only [Act.put, List.setIfInBounds_toArray, List.set_cons_zero, List.set_cons_succ, i64_w, i32_w]
                  rfl
                 refine pure_ (i := 9) (N := some 78) (v := ?_) (a' := ?_) bzd10 rfl rfl (any_of HT_.out (by kernel_rfl)) (fun _ _ _ h => h) (Or.inl ⟨by rfl, ?_⟩) ?_ ?_
                 rotate_left
                 ·intro w'
                  go_simp
                  with_reducible rfl
                 rotate_left
                 ·simp only [Act.put, List.setIfInBounds_toArray, List.set_cons_zero, List.set_cons_succ, i64_w, i32_w]
                  rfl
                 refine pure_ (i := 10) (N := some 79) (v := ?_) (a' := ?_) bzd11 rfl rfl (any_of HT_.out (by kernel_rfl)) (fun _ _ _ h => h) (Or.inl ⟨by rfl, ?_⟩) ?_ ?_
                 rotate_left
                 ·intro w'
                  go_simp
                  with_reducible rfl
                 rotate_left
                 ·simp only [Act.put, List.setIfInBounds_toArray, List.set_cons_zero, List.set_cons_succ, i64_w, i32_w]
                  rfl
                 refine pure_ (i := 11) (N := some 80) (v := ?_) (a' := ?_) bzd12 rfl rfl (any_of HT_.out (by kernel_rfl)) (fun _ _ _ h => h) (Or.inl ⟨by rfl, ?_⟩) ?_ ?_
                 rotate_left
                 ·intro w'
                  go_simp
                  with_reducible rfl
                 rotate_left
                 ·simp only [Act.put, List.setIfInBounds_toArray, List.set_cons_zero, List.set_cons_succ, i64_w, i32_w]
                  rfl
                 refine pure_ (i := 12) (N := some 81) (v := ?_) (a' := ?_) bzd13 rfl rfl (any_of HT_.out (by kernel_rfl)) (fun _ _ _ h => h) (Or.inl ⟨by rfl, ?_⟩) ?_ ?_
                 rotate_left
                 ·intro w'
                  go_simp
                  with_reducible rfl
                 rotate_left
                 ·simp only [Act.put, List.setIfInBounds_toArray, List.set_cons_zero, List.set_cons_succ, i64_w, i32_w]
                  rfl
                 refine take_ (i := 13) (N := some 82) (v := ?_) (a' := ?_) bzd14 rfl rfl (take_ofW HT_.out HW_.out (by kernel_rfl)) (fun _ _ _ h => h) (Or.inl ⟨by rfl, ?_⟩) hHeld ?_ ?_
                 rotate_left
                 ·rintro w' ⟨s0, s1, s2, s3, s4, s5, s6, s7, s8, s9, s10, s11, s12⟩
                  go_simp
                  with_reducible rfl
                 rotate_left
                 ·simp only [Act.put, List.setIfInBounds_toArray, List.set_cons_zero, List.set_cons_succ, i64_w, i32_w]
                  rfl
                 refine pure_ (i := 14) (N := some 83) (v := ?_) (a' := ?_) bzd15 rfl rfl (any_of HT_.out (by kernel_rfl)) (fun _ _ _ h => h) (Or.inl ⟨by rfl, ?_⟩) ?_ ?_
                 rotate_left
                 ·intro w'
                  go_simp
                  with_reducible rfl
                 rotate_left
                 ·simp only [Act.put, List.setIfInBounds_toArray, List.set_cons_zero, List.set_cons_succ, i64_w, i32_w]
                  rfl
                 refine pure_ (i := 15) (N := some 84) (v := ?_) (a' := ?_) bzd16 rfl rfl (any_of HT_.out (by kernel_rfl)) (fun _ _ _ h => h) (Or.inl ⟨by rfl, ?_⟩) ?_ ?_
                 rotate_left
                 ·intro w'
                  go_simp
                  with_reducible rfl
                 rotate_left
                 ·simp only [Act.put, List.setIfInBounds_toArray, List.set_cons_zero, List.set_cons_succ, i64_w, i32_w]
                  rfl
                 refine pure_ (i := 16) (N := some 85) (v := ?_) (a' := ?_) bzd17 rfl rfl (any_of HT_.out (by kernel_rfl)) (fun _ _ _ h => h) (Or.inl ⟨by rfl, ?_⟩) ?_ ?_
                 rotate_left
                 ·intro w'
                  go_simp
                  with_reducible rfl
                 rotate_left
                 ·simp only [Act.put, List.setIfInBounds_toArray, List.set_cons_zero, List.set_cons_succ, i64_w, i32_w]
                  rfl
                 refine pure_ (i := 17) (N := some 86) (v := ?_) (a' := ?_) bzd18 rfl rfl (any_of HT_.out (by kernel_rfl)) (fun _ _ _ h => h) (Or.inl ⟨by rfl, ?_⟩) ?_ ?_
                 rotate_left
                 ·intro w'
                  go_simp
                  with_reducible rfl
                 rotate_left
                 ·simp only [Act.put, List.setIfInBounds_toArray, List.set_cons_zero, List.set_cons_succ, i64_w, i32_w]
                  rfl
                 refine pure_ (i := 18) (N := some 87) (v := ?_) (a' := ?_) bzd19 rfl rfl (any_of HT_.out (by kernel_rfl)) (fun _ _ _ h => h) (Or.inl ⟨by rfl, ?_⟩) ?_ ?_
                 rotate_left
                 ·intro w'
                  go_simp
                  with_reducible rfl
                 rotate_left
                 ·simp only [Act.put, List.setIfInBounds_toArray, List.set_cons_zero, List.set_cons_succ, i64_w, i32_w]
                  rfl
                 refine pure_ (i := 19) (N := some 88) (v := ?_) (a' := ?_) bzd20 rfl rfl (any_of HT_.out (by kernel_rfl)) (fun _ _ _ h => h) (Or.inl ⟨by rfl, ?_⟩) ?_ ?_
                 rotate_left
                 ·intro w'
                  go_simp
                  with_reducible rfl
                 rotate_left
                 ·simp only [Act.put, List.setIfInBounds_toArray, List.set_cons_zero, List.set_cons_succ, i64_w, i32_w]
                  rfl
                 refine pure_ (i := 20) (N := some 89) (v := ?_) (a' := ?_) bzd21 rfl rfl (any_of HT_.out (by kernel_rfl)) (fun _ _ _ h => h) (Or.inl ⟨by rfl, ?_⟩) ?_ ?_
                 rotate_left
                 ·intro w'
                  go_simp
                  with_reducible rfl
                 rotate_left
                 ·simp only [Act.put, List.setIfInBounds_toArray, List.set_cons_zero, List.set_cons_succ, i64_w, i32_w]
                  rfl
                 refine pure_ (i := 22) (N := some 91) (v := ?_) (a' := ?_) bzd45 rfl rfl (any_of HT_.out (by kernel_rfl)) (fun _ _ _ h => h) (Or.inl ⟨by rfl, ?_⟩) ?_ ?_
                 rotate_left
                 ·intro w'
                  go_simp
                  with_reducible rfl
                 rotate_left
                 ·simp only [Act.put, List.setIfInBounds_toArray, List.set_cons_zero, List.set_cons_succ, i64_w, i32_w]
                  rfl
                 refine take_ (i := 21) (N := some 90) (v := ?_) (a' := ?_) bzd23 rfl rfl (take_ofW HT_.out HW_.out (by kernel_rfl)) (fun _ _ _ h => h) (Or.inl ⟨by rfl, ?_⟩) hHeld ?_ ?_
                 rotate_left
                 ·rintro w' ⟨s0, s1, s2, s3, s4, s5, s6, s7, s8, s9, s10, s11, s12⟩
                  go_simp
                  with_reducible rfl
                 rotate_left
                 ·simp only [Act.put, List.setIfInBounds_toArray, List.set_cons_zero, List.set_cons_succ, i64_w, i32_w]
                  rfl
                 refine take_ (i := 23) (N := some 92) (v := ?_) (a' := ?_) bzd24 rfl rfl (take_ofW HT_.out HW_.out (by kernel_rfl)) (fun _ _ _ h => h) (Or.inl ⟨by rfl, ?_⟩) hHeld ?_ ?_
                 rotate_left
                 ·rintro w' ⟨s0, s1, s2, s3, s4, s5, s6, s7, s8, s9, s10, s11, s12⟩
                  go_simp
                  with_reducible rfl
                 rotate_left
                 ·simp only [Act.put, List.setIfInBounds_toArray, List.set_cons_zero, List.set_cons_succ, i64_w, i32_w]
                  rfl
                 refine pure_ (i := 24) (N := some 93) (v := ?_) (a' := ?_) bzd25 rfl rfl (any_of HT_.out (by kernel_rfl)) (fun _ _ _ h => h) (Or.inl ⟨by rfl, ?_⟩) ?_ ?_
                 rotate_left
                 ·intro w'
                  go_simp
                  with_reducible rfl
                 rotate_left
                 ·simp only [Act.put, List.setIfInBounds_toArray, List.set_cons_zero, List.set_cons_succ, i64_w, i32_w]
                  rfl
                 refine pure_ (i := 25) (N := some 94) (v := ?_) (a' := ?_) bzd26 rfl rfl (any_of HT_.out (by kernel_rfl)) (fun _ _ _ h => h) (Or.inl ⟨by rfl, ?_⟩) ?_ ?_
                 rotate_left
                 ·intro w'
                  go_simp
                  with_reducible rfl
                 rotate_left
                 ·simp only [Act.put, List.setIfInBounds_toArray, List.set_cons_zero, List.set_cons_succ, i64_w, i32_w]
                  rfl
                 refine pure_ (i := 26) (N := some 95) (v := ?_) (a' := ?_) bzd27 rfl rfl (any_of HT_.out (by kernel_rfl)) (fun _ _ _ h => h) (Or.inl ⟨by rfl, ?_⟩) ?_ ?_
                 rotate_left
                 ·intro w'
                  go_simp
                  with_reducible rfl
                 rotate_left
                 ·simp only [Act.put, List.setIfInBounds_toArray, List.set_cons_zero, List.set_cons_succ, i64_w, i32_w]
                  rfl
                 refine pure_ (i := 27) (N := some 96) (v := undef) (a' := ?_) bzd28 rfl rfl (any_of HT_.out (by kernel_rfl)) (fun _ _ _ h => h) (Or.inr ⟨by rfl, rfl⟩) ?_ ?_
                 rotate_left
                 ·simp only [Act.put, List.setIfInBounds_toArray, List.set_cons_zero, List.set_cons_succ, i64_w, i32_w]
                  rfl
                 refine pure_ (i := 28) (N := some 97) (v := undef) (a' := ?_) bzd29 rfl rfl (any_of HT_.out (by kernel_rfl)) (fun _ _ _ h => h) (Or.inr ⟨by rfl, rfl⟩) ?_ ?_
                 rotate_left
                 ·simp only [Act.put, List.setIfInBounds_toArray, List.set_cons_zero, List.set_cons_succ, i64_w, i32_w]
                  rfl
                 refine pure_ (i := 29) (N := some 98) (v := undef) (a' := ?_) bzd30 rfl rfl (any_of HT_.out (by kernel_rfl)) (fun _ _ _ h => h) (Or.inr ⟨by rfl, rfl⟩) ?_ ?_
                 rotate_left
                 ·simp only [Act.put, List.setIfInBounds_toArray, List.set_cons_zero, List.set_cons_succ, i64_w, i32_w]
                  rfl
                 refine pure_ (i := 30) (N := some 99) (v := undef) (a' := ?_) bzd31 rfl rfl (any_of HT_.out (by kernel_rfl)) (fun _ _ _ h => h) (Or.inr ⟨by rfl, rfl⟩) ?_ ?_
                 rotate_left
                 ·simp only [Act.put, List.setIfInBounds_toArray, List.set_cons_zero, List.set_cons_succ, i64_w, i32_w]
                  rfl
                 refine pure_ (i := 31) (N := some 100) (v := undef) (a' := ?_) bzd32 rfl rfl (any_of HT_.out (by kernel_rfl)) (fun _ _ _ h => h) (Or.inr ⟨by rfl, rfl⟩) ?_ ?_
                 rotate_left
                 ·simp only [Act.put, List.setIfInBounds_toArray, List.set_cons_zero, List.set_cons_succ, i64_w, i32_w]
                  rfl
                 refine pure_ (i := 32) (N := some 101) (v := undef) (a' := ?_) bzd33 rfl rfl (any_of HT_.out (by kernel_rfl)) (fun _ _ _ h => h) (Or.inr ⟨by rfl, rfl⟩) ?_ ?_
                 rotate_left
                 ·simp only [Act.put, List.setIfInBounds_toArray, List.set_cons_zero, List.set_cons_succ, i64_w, i32_w]
                  rfl
                 refine pure_ (i := 33) (N := some 102) (v := undef) (a' := ?_) bzd34 rfl rfl (any_of HT_.out (by kernel_rfl)) (fun _ _ _ h => h) (Or.inr ⟨by rfl, rfl⟩) ?_ ?_
                 rotate_left
                 ·simp only [Act.put, List.setIfInBounds_toArray, List.set_cons_zero, List.set_cons_succ, i64_w, i32_w]
                  rfl
                 refine pure_ (i := 34) (N := some 103) (v := undef) (a' := ?_) bzd35 rfl rfl (any_of HT_.out (by kernel_rfl)) (fun _ _ _ h => h) (Or.inr ⟨by rfl, rfl⟩) ?_ ?_
                 rotate_left
                 ·simp only [Act.put, List.setIfInBounds_toArray, List.set_cons_zero, List.set_cons_succ, i64_w, i32_w]
                  rfl
                 refine pure_ (i := 35) (N := some 104) (v := undef) (a' := ?_) bzd36 rfl rfl (any_of HT_.out (by kernel_rfl)) (fun _ _ _ h => h) (Or.inr ⟨by rfl, rfl⟩) ?_ ?_
                 rotate_left
                 ·simp only [Act.put, List.setIfInBounds_toArray, List.set_cons_zero, List.set_cons_succ, i64_w, i32_w]
                  rfl
                 refine pure_ (i := 36) (N := some 105) (v := undef) (a' := ?_) bzd37 rfl rfl (any_of HT_.out (by kernel_rfl)) (fun _ _ _ h => h) (Or.inr ⟨by rfl, rfl⟩) ?_ ?_
                 rotate_left
                 ·simp only [Act.put, List.setIfInBounds_toArray, List.set_cons_zero, List.set_cons_succ, i64_w, i32_w]
                  rfl
                 refine pure_ (i := 37) (N := some 106) (v := undef) (a' := ?_) bzd38 rfl rfl (any_of HT_.out (by kernel_rfl)) (fun _ _ _ h => h) (Or.inr ⟨by rfl, rfl⟩) ?_ ?_
                 rotate_left
                 ·simp only [Act.put, List.setIfInBounds_toArray, List.set_cons_zero, List.set_cons_succ, i64_w, i32_w]
                  rfl
                 refine pure_ (i := 38) (N := some 107) (v := undef) (a' := ?_) bzd39 rfl rfl (any_of HT_.out (by kernel_rfl)) (fun _ _ _ h => h) (Or.inr ⟨by rfl, rfl⟩) ?_ ?_
                 rotate_left
                 ·simp only [Act.put, List.setIfInBounds_toArray, List.set_cons_zero, List.set_cons_succ, i64_w, i32_w]
                  rfl
                 refine pure_ (i := 39) (N := some 108) (v := undef) (a' := ?_) bzd40 rfl rfl (any_of HT_.out (by kernel_rfl)) (fun _ _ _ h => h) (Or.inr ⟨by rfl, rfl⟩) ?_ ?_
                 rotate_left
                 ·simp only [Act.put, List.setIfInBounds_toArray, List.set_cons_zero, List.set_cons_succ, i64_w, i32_w]
                  rfl
                 refine pure_ (i := 40) (N := some 109) (v := undef) (a' := ?_) bzd41 rfl rfl (any_of HT_.out (by kernel_rfl)) (fun _ _ _ h => h) (Or.inr ⟨by rfl, rfl⟩) ?_ ?_
                 rotate_left
                 ·simp only [Act.put, List.setIfInBounds_toArray, List.set_cons_zero, List.set_cons_succ, i64_w, i32_w]
                  rfl
                 refine pure_ (i := 41) (N := some 110) (v := undef) (a' := ?_) bzd42 rfl rfl (any_of HT_.out (by kernel_rfl)) (fun _ _ _ h => h) (Or.inr ⟨by rfl, rfl⟩) ?_ ?_
                 rotate_left
                 ·simp only [Act.put, List.setIfInBounds_toArray, List.set_cons_zero, List.set_cons_succ, i64_w, i32_w]
                  rfl
                 refine pure_ (i := 42) (N := some 111) (v := undef) (a' := ?_) bzd43 rfl rfl (any_of HT_.out (by kernel_rfl)) (fun _ _ _ h => h) (Or.inr ⟨by rfl, rfl⟩) ?_ ?_
                 rotate_left
                 ·simp only [Act.put, List.setIfInBounds_toArray, List.set_cons_zero, List.set_cons_succ, i64_w, i32_w]
                  rfl
                 refine pure_ (i := 43) (N := some 112) (v := ?_) (a' := ?_) bzd44 rfl rfl (any_of HT_.out (by kernel_rfl)) (fun _ _ _ h => h) (Or.inl ⟨by rfl, ?_⟩) ?_ ?_
                 rotate_left
                 ·intro w'
                  go_simp
                  with_reducible rfl
                 rotate_left
                 ·simp only [Act.put, List.setIfInBounds_toArray, List.set_cons_zero, List.set_cons_succ, i64_w, i32_w]
                  rfl
                 refine done_ (done_of HT_.out (by kernel_rfl)) ?_
                 try go_wp2
                 go_ret
                 exact ⟨by first | rfl | (simp [errW_none, errW_some] <;> rfl) | (simp [*, errW_none, errW_some] <;> rfl), by repeat (first | (with_reducible first | exact HB.out | apply below_alloc | apply pw_below_drewN | apply below_drew1 | refine below_set ?_ GE413.out) | exact HB.out)⟩
                ·rw [if_neg c47] at H
                 have c47b0 : decide (t396 ≤ ((rd_T48 t424 x15_3).f0)) = false := decide_eq_false c47
                 clear c47
                 by_cases c50 : x15_3 > 0
                 ·rw [if_pos c50] at H
                  have c50b0 : decide (0 < x15_3) = true := decide_eq_true c50
                  clear c50
                  obtain ⟨ji51, hji51⟩ : ∃ j_ : Int, (wrap64 (x15_3 - 1)) = j_ := ⟨_, rfl⟩
                  replace H : (if 0 ≤ (ji51) then (if (ji51) < (t424.length : Int) then (if ((rd_T48 t424 (ji51)).f0) > ((rd_T48 t424 x15_3).f0) then (some false) else (canopylaw4_RunsDepth.l1 k3 t393 t417 t424 x13_32 x14_1 (wrap64 (x15_3 + 1)) t396 t397 t398 t401 t404 t407 t410)) else (none)) else (none)) = some r := by first | (rw [hji51] at H; exact H) | (simp only [hji51] at H ⊢; exact H)
                  have hji51w : (IntKind.i64.wrap (x15_3 - 1)) = ji51 := (i64_w _).trans hji51
                  by_cases c52 : 0 ≤ (ji51)
                  ·rw [if_pos c52] at H
                   have c52b0 : decide (0 ≤ (ji51)) = true := decide_eq_true c52
                   clear c52
                   by_cases c53 : (ji51) < (t424.length : Int)
                   ·rw [if_pos c53] at H
                    have c53b0 : decide ((ji51) < (t424.length : Int)) = true := decide_eq_true c53
                    clear c53
                    by_cases c54 : ((rd_T48 t424 (ji51)).f0) > ((rd_T48 t424 x15_3).f0)
                    ·rw [if_pos c54] at H
                     have c54b0 : decide (((rd_T48 t424 x15_3).f0) < ((rd_T48 t424 (ji51)).f0)) = true := decide_eq_true c54
                     clear c54
                     obtain rfl := Option.some.inj H
                     obtain ⟨Ao55, co55, eo55⟩ := Kd.S_slice HO_12.out
                     subst eo55
                     try go_wp2
                     have n0_ := Aside0.mk (Kd.R_drew HO_9.out)
                     have n1_ := Aside0.mk (Kd.R_drew HO_11.out)
                     have n2_ := Aside0.mk (Kd.S_drew HO_12.out)
                     have n3_ := Aside0.mk (Kd.R_drew HO_414002.out)
                     have n4_ := Aside0.mk (Kd.R_drew HO_414003.out)
                     have n5_ := Aside0.mk (Kd.R_drew HO_414004.out)
                     have n6_ := Aside0.mk (Kd.R_drew HO_414005.out)
                     have n7_ := Aside0.mk (Kd.R_drew HO_414006.out)
                     have n8_ := Aside0.mk (blk_drew BK413.out)
                     have n9_ := Aside0.mk (below_drew1 HB.out)
                     clear HO_9
                     clear HO_11
                     clear HO_12
                     clear HO_414002
                     clear HO_414003
                     clear HO_414004
                     clear HO_414005
                     clear HO_414006
                     clear BK413
                     clear HB
                     have HO_9 := n0_
                     have HO_11 := n1_
                     have HO_12 := n2_
                     have HO_414002 := n3_
                     have HO_414003 := n4_
                     have HO_414004 := n5_
                     have HO_414005 := n6_
                     have HO_414006 := n7_
                     have BK413 := n8_
                     have HB := n9_
                     clear n0_ n1_ n2_ n3_ n4_ n5_ n6_ n7_ n8_ n9_
                     have p429 : 0 ≤ (x15_3 : Int) := of_decide_eq_true (by first | (with_reducible assumption) | assumption)
                     have q429 : x15_3 < (t424.length : Int) := of_decide_eq_true (by first | (with_reducible assumption) | assumption)
                     obtain ⟨ad429, A429_1, c429_1, e429, hx429_0, hx429_1, hl429_1, hi429_1⟩ := at_T48 (Kd.S_reads' HO_12.out).2.2 x15_3 p429 q429
                     cases e429
                     obtain ⟨ce429, hce429, hMe429, hcc429⟩ := Kd.S_get HO_12.out z48 x15_3 p429 (by first | exact q429 | exact of_decide_eq_true (by first | (with_reducible assumption) | assumption) | (have e_ := (Kd.S_reads' HO_12.out).1; omega))
                     obtain ⟨ve429_1, rfl, ge429_1⟩ := k48_openM hMe429
                     have hv429_1 := hcc429 1 _ rfl
                     rw [add_field _ _ 1 (by omega)] at hv429_1
                     replace hv429_1 := Option.some.inj (hv429_1.symm.trans hx429_1)
                     rw [hv429_1] at ge429_1
                     have HL429_1 := Aside0.mk (show Kd.R (Kd.int .i64) 3 _ _ _ _ ((rd_T48 t424 x15_3).f1) from ge429_1)
                     clear hv429_1 ge429_1
                     clear hcc429 hce429
                     have HR429_1 := Aside0.mk hi429_1
                     have HC429_1 := Aside0.mk hl429_1
                     clear hi429_1 hl429_1
                     replace p429 := eq_true p429
                     replace q429 := eq_true q429
                     have p430 : 0 ≤ (x15_3 : Int) := of_decide_eq_true (by first | (with_reducible assumption) | assumption)
                     have q430 : x15_3 < (t424.length : Int) := of_decide_eq_true (by first | (with_reducible assumption) | assumption)
                     obtain ⟨ad430, A430_1, c430_1, e430, hx430_0, hx430_1, hl430_1, hi430_1⟩ := at_T48 (Kd.S_reads' HO_12.out).2.2 x15_3 p430 q430
                     obtain rfl : ad429 = ad430 := (by injection e430)
                     obtain ⟨ce430, hce430, hMe430, hcc430⟩ := Kd.S_get HO_12.out z48 x15_3 p430 (by first | exact q430 | exact of_decide_eq_true (by first | (with_reducible assumption) | assumption) | (have e_ := (Kd.S_reads' HO_12.out).1; omega))
                     obtain ⟨ve430_1, rfl, ge430_1⟩ := k48_openM hMe430
                     have hv430_1 := hcc430 1 _ rfl
                     rw [add_field _ _ 1 (by omega)] at hv430_1
                     replace hv430_1 := Option.some.inj (hv430_1.symm.trans hx430_1)
                     rw [hv430_1] at ge430_1
                     have HL430_1 := Aside0.mk (show Kd.R (Kd.int .i64) 3 _ _ _ _ ((rd_T48 t424 x15_3).f1) from ge430_1)
                     clear hv430_1 ge430_1
                     clear hcc430 hce430
                     have HR430_1 := Aside0.mk hi430_1
                     have HC430_1 := Aside0.mk hl430_1
                     clear hi430_1 hl430_1
                     replace p430 := eq_true p430
                     replace q430 := eq_true q430
                     have ea_ := Option.some.inj (hx429_1.symm.trans hx430_1)
                     injection ea_ with ea_ en_ ec_
                     subst ea_
                     subst ec_
                     clear en_
                     have p431 : 0 ≤ (x15_3 : Int) := of_decide_eq_true (by first | (with_reducible assumption) | assumption)
                     have q431 : x15_3 < (t424.length : Int) := of_decide_eq_true (by first | (with_reducible assumption) | assumption)
                     obtain ⟨ad431, A431_1, c431_1, e431, hx431_0, hx431_1, hl431_1, hi431_1⟩ := at_T48 (Kd.S_reads' HO_12.out).2.2 x15_3 p431 q431
                     obtain rfl : ad429 = ad431 := (by injection e431)
                     obtain ⟨ce431, hce431, hMe431, hcc431⟩ := Kd.S_get HO_12.out z48 x15_3 p431 (by first | exact q431 | exact of_decide_eq_true (by first | (with_reducible assumption) | assumption) | (have e_ := (Kd.S_reads' HO_12.out).1; omega))
                     obtain ⟨ve431_1, rfl, ge431_1⟩ := k48_openM hMe431
                     have hv431_1 := hcc431 1 _ rfl
                     rw [add_field _ _ 1 (by omega)] at hv431_1
                     replace hv431_1 := Option.some.inj (hv431_1.symm.trans hx431_1)
                     rw [hv431_1] at ge431_1
                     have HL431_1 := Aside0.mk (show Kd.R (Kd.int .i64) 3 _ _ _ _ ((rd_T48 t424 x15_3).f1) from ge431_1)
                     clear hv431_1 ge431_1
                     clear hcc431 hce431
                     have HR431_1 := Aside0.mk hi431_1
                     have HC431_1 := Aside0.mk hl431_1
                     clear hi431_1 hl431_1
                     replace p431 := eq_true p431
                     replace q431 := eq_true q431
                     have ea_ := Option.some.inj (hx429_1.symm.trans hx431_1)
                     injection ea_ with ea_ en_ ec_
                     subst ea_
                     subst ec_
                     clear en_
                     have p432 : 0 ≤ ((ji51) : Int) := of_decide_eq_true (by first | (with_reducible assumption) | assumption)
                     have q432 : (ji51) < (t424.length : Int) := of_decide_eq_true (by first | (with_reducible assumption) | assumption)
                     obtain ⟨ad432, A432_1, c432_1, e432, hx432_0, hx432_1, hl432_1, hi432_1⟩ := at_T48 (Kd.S_reads' HO_12.out).2.2 (ji51) p432 q432
                     obtain rfl : ad429 = ad432 := (by injection e432)
                     obtain ⟨ce432, hce432, hMe432, hcc432⟩ := Kd.S_get HO_12.out z48 (ji51) p432 (by first | exact q432 | exact of_decide_eq_true (by first | (with_reducible assumption) | assumption) | (have e_ := (Kd.S_reads' HO_12.out).1; omega))
                     obtain ⟨ve432_1, rfl, ge432_1⟩ := k48_openM hMe432
                     have hv432_1 := hcc432 1 _ rfl
                     rw [add_field _ _ 1 (by omega)] at hv432_1
                     replace hv432_1 := Option.some.inj (hv432_1.symm.trans hx432_1)
                     rw [hv432_1] at ge432_1
                     have HL432_1 := Aside0.mk (show Kd.R (Kd.int .i64) 3 _ _ _ _ ((rd_T48 t424 (ji51)).f1) from ge432_1)
                     clear hv432_1 ge432_1
                     clear hcc432 hce432
                     have HR432_1 := Aside0.mk hi432_1
                     have HC432_1 := Aside0.mk hl432_1
                     clear hi432_1 hl432_1
                     replace p432 := eq_true p432
                     replace q432 := eq_true q432
                     have p433 : 0 ≤ (x15_3 : Int) := of_decide_eq_true (by first | (with_reducible assumption) | assumption)
                     have q433 : x15_3 < (t424.length : Int) := of_decide_eq_true (by first | (with_reducible assumption) | assumption)
                     obtain ⟨ad433, A433_1, c433_1, e433, hx433_0, hx433_1, hl433_1, hi433_1⟩ := at_T48 (Kd.S_reads' HO_12.out).2.2 x15_3 p433 q433
                     obtain rfl : ad429 = ad433 := (by injection e433)
                     obtain ⟨ce433, hce433, hMe433, hcc433⟩ := Kd.S_get HO_12.out z48 x15_3 p433 (by first | exact q433 | exact of_decide_eq_true (by first | (with_reducible assumption) | assumption) | (have e_ := (Kd.S_reads' HO_12.out).1; omega))
                     obtain ⟨ve433_1, rfl, ge433_1⟩ := k48_openM hMe433
                     have hv433_1 := hcc433 1 _ rfl
                     rw [add_field _ _ 1 (by omega)] at hv433_1
                     replace hv433_1 := Option.some.inj (hv433_1.symm.trans hx433_1)
                     rw [hv433_1] at ge433_1
                     have HL433_1 := Aside0.mk (show Kd.R (Kd.int .i64) 3 _ _ _ _ ((rd_T48 t424 x15_3).f1) from ge433_1)
                     clear hv433_1 ge433_1
                     clear hcc433 hce433
                     have HR433_1 := Aside0.mk hi433_1
                     have HC433_1 := Aside0.mk hl433_1
                     clear hi433_1 hl433_1
                     replace p433 := eq_true p433
                     replace q433 := eq_true q433
                     have ea_ := Option.some.inj (hx429_1.symm.trans hx433_1)
                     injection ea_ with ea_ en_ ec_
                     subst ea_
                     subst ec_
                     clear en_
                     refine start_ (n := 44) (S := fun w' => w'.cell? ⟨gb413, 0, none⟩ = some (.int .i64 t396) ∧ w'.cell? ⟨gb413, 1, none⟩ = some (.int .i64 t397) ∧ w'.cell? ⟨gb413, 2, none⟩ = some (.slice Ao18 t398.length co18) ∧ w'.cell? ⟨gb413, 3, none⟩ = some (.slice Ao19 t401.length co19) ∧ w'.cell? ⟨gb413, 4, none⟩ = some (.slice Ao20 t404.length co20) ∧ w'.cell? ⟨gb413, 5, none⟩ = some (.slice Ao21 t407.length co21) ∧ w'.cell? ⟨gb413, 6, none⟩ = some (.slice Ao22 t410.length co22) ∧ w'.cell? (ad429.add ((x15_3).toNat * 2)) = some (.int .i64 ((rd_T48 t424 x15_3).f0)) ∧ w'.cell? ⟨(ad429.add ((x15_3).toNat * 2)).block, (ad429.add ((x15_3).toNat * 2)).off + 1, none⟩ = some (.slice A429_1 ((rd_T48 t424 x15_3).f1).length c429_1) ∧ w'.cell? (ad429.add ((x15_3).toNat * 2)) = some (.int .i64 ((rd_T48 t424 x15_3).f0)) ∧ w'.cell? ⟨(ad429.add ((x15_3).toNat * 2)).block, (ad429.add ((x15_3).toNat * 2)).off + 1, none⟩ = some (.slice A429_1 ((rd_T48 t424 x15_3).f1).length c429_1) ∧ w'.cell? (ad429.add ((x15_3).toNat * 2)) = some (.int .i64 ((rd_T48 t424 x15_3).f0)) ∧ w'.cell? ⟨(ad429.add ((x15_3).toNat * 2)).block, (ad429.add ((x15_3).toNat * 2)).off + 1, none⟩ = some (.slice A429_1 ((rd_T48 t424 x15_3).f1).length c429_1) ∧ w'.cell? (ad429.add (((ji51)).toNat * 2)) = some (.int .i64 ((rd_T48 t424 (ji51)).f0)) ∧ w'.cell? ⟨(ad429.add (((ji51)).toNat * 2)).block, (ad429.add (((ji51)).toNat * 2)).off + 1, none⟩ = some (.slice A432_1 ((rd_T48 t424 (ji51)).f1).length c432_1) ∧ w'.cell? (ad429.add ((x15_3).toNat * 2)) = some (.int .i64 ((rd_T48 t424 x15_3).f0)) ∧ w'.cell? ⟨(ad429.add ((x15_3).toNat * 2)).block, (ad429.add ((x15_3).toNat * 2)).off + 1, none⟩ = some (.slice A429_1 ((rd_T48 t424 x15_3).f1).length c429_1)) (ds := []) bzd0 (by kernel_rfl) rfl rfl ⟨(blk_cell BK413.out 0).trans rfl, (blk_cell BK413.out 1).trans rfl, (blk_cell BK413.out 2).trans rfl, (blk_cell BK413.out 3).trans rfl, (blk_cell BK413.out 4).trans rfl, (blk_cell BK413.out 5).trans rfl, (blk_cell BK413.out 6).trans rfl, hx429_0, hx429_1, hx430_0, hx430_1, hx431_0, hx431_1, hx432_0, hx432_1, hx433_0, hx433_1⟩ (fun hHeld => ?_); refine with_tabW canopylaw4_RunsDepth.tab20 canopylaw4_RunsDepth.bits20 (fun HT_ HW_ => ?_)
                     generalize wr.drew = w56 at HO_9 HO_11 HO_12 HO_414002 HO_414003 HO_414004 HO_414005 HO_414006 BK413 HB HL429_1 HL430_1 HL431_1 HL432_1 HL433_1 HR429_1 HR430_1 HR431_1 HR432_1 HR433_1 hx429_0 hx429_1 hx430_0 hx430_1 hx431_0 hx431_1 hx432_0 hx432_1 hx433_0 hx433_1 hHeld ⊢
                     refine pure_ (i := 0) (N := some 69) (v := ?_) (a' := ?_) bzd1 rfl rfl (any_of HT_.out (by kernel_rfl)) (fun _ _ _ h => h) (Or.inl ⟨by rfl, ?_⟩) ?_ ?_
                     rotate_left
                     ·intro w'
                      go_simp
                      with_reducible rfl
                     rotate_left
                     ·simp only [Act.put, List.setIfInBounds_toArray, List.set_cons_zero, List.set_cons_succ, i64_w, i32_w]
                      rfl
                     refine pure_ (i := 1) (N := some 70) (v := ?_) (a' := ?_) bzd2 rfl rfl (any_of HT_.out (by kernel_rfl)) (fun _ _ _ h => h) (Or.inl ⟨by rfl, ?_⟩) ?_ ?_
                     rotate_left
                     ·intro w'
                      go_simp
                      with_reducible rfl
                     rotate_left
                     ·simp only [Act.put, List.setIfInBounds_toArray, List.set_cons_zero, List.set_cons_succ, i64_w, i32_w]
                      rfl
                     refine pure_ (i := 2) (N := some 71) (v := ?_) (a' := ?_) bzd3 rfl rfl (any_of HT_.out (by kernel_rfl)) (fun _ _ _ h => h) (Or.inl ⟨by rfl, ?_⟩) ?_ ?_
                     rotate_left
                     ·intro w'
                      go_simp
                      with_reducible rfl
                     rotate_left
                     ·simp only [Act.put, List.setIfInBounds_toArray, List.set_cons_zero, List.set_cons_succ, i64_w, i32_w]
                      rfl
                     refine pure_ (i := 3) (N := some 72) (v := ?_) (a' := ?_) bzd4 rfl rfl (any_of HT_.out (by kernel_rfl)) (fun _ _ _ h => h) (Or.inl ⟨by rfl, ?_⟩) ?_ ?_
                     rotate_left
                     ·intro w'
                      go_simp
                      with_reducible rfl
                     rotate_left
                     ·simp only [Act.put, List.setIfInBounds_toArray, List.set_cons_zero, List.set_cons_succ, i64_w, i32_w]
                      rfl
                     refine pure_ (i := 6) (N := some 75) (v := ?_) (a' := ?_) bzd5 rfl rfl (any_of HT_.out (by kernel_rfl)) (fun _ _ _ h => h) (Or.inl ⟨by rfl, ?_⟩) ?_ ?_
                     rotate_left
                     ·intro w'
                      go_simp
                      with_reducible rfl
                     rotate_left
                     ·simp only [Act.put, List.setIfInBounds_toArray, List.set_cons_zero, List.set_cons_succ, i64_w, i32_w]
                      rfl
                     refine take_ (i := 4) (N := some 73) (v := ?_) (a' := ?_) bzd6 rfl rfl (take_ofW HT_.out HW_.out (by kernel_rfl)) (fun _ _ _ h => h) (Or.inl ⟨by rfl, ?_⟩) hHeld ?_ ?_
                     rotate_left
                     ·rintro w' ⟨s0, s1, s2, s3, s4, s5, s6, s7, s8, s9, s10, s11, s12, s13, s14, s15, s16⟩
                      go_simp
                      with_reducible rfl
                     rotate_left
                     ·simp only [Act.put, List.setIfInBounds_toArray, List.set_cons_zero, List.set_cons_succ, i64_w, i32_w]
                      rfl
                     refine pure_ (i := 5) (N := some 74) (v := ?_) (a' := ?_) bzd7 rfl rfl (any_of HT_.out (by kernel_rfl)) (fun _ _ _ h => h) (Or.inl ⟨by rfl, ?_⟩) ?_ ?_
                     rotate_left
                     ·intro w'
                      go_simp
                      with_reducible rfl
                     rotate_left
                     ·simp only [Act.put, List.setIfInBounds_toArray, List.set_cons_zero, List.set_cons_succ, i64_w, i32_w]
                      rfl
                     refine pure_ (i := 7) (N := some 76) (v := ?_) (a' := ?_) bzd8 rfl rfl (any_of HT_.out (by kernel_rfl)) (fun _ _ _ h => h) (Or.inl ⟨by rfl, ?_⟩) ?_ ?_
                     rotate_left
                     ·intro w'
                      go_simp
                      with_reducible rfl
                     rotate_left
                     ·simp only [Act.put, List.setIfInBounds_toArray, List.set_cons_zero, List.set_cons_succ, i64_w, i32_w]
                      rfl
                     refine pure_ (i := 8) (N := some 77) (v := ?_) (a' := ?_) bzd9 rfl rfl (any_of HT_.out (by kernel_rfl)) (fun _ _ _ h => h) (Or.inl ⟨by rfl, ?_⟩) ?_ ?_
                     rotate_left
                     ·intro w'
                      go_simp
                      with_reducible rfl
                     rotate_left
                     ·simp only [Act.put, List.setIfInBounds_toArray, List.set_cons_zero, List.set_cons_succ, i64_w, i32_w]
                      rfl
                     refine pure_ (i := 9) (N := some 78) (v := ?_) (a' := ?_) bzd10 rfl rfl (any_of HT_.out (by kernel_rfl)) (fun _ _ _ h => h) (Or.inl ⟨by rfl, ?_⟩) ?_ ?_
                     rotate_left
                     ·intro w'
                      go_simp
                      with_reducible rfl
                     rotate_left
                     ·simp only [Act.put, List.setIfInBounds_toArray, List.set_cons_zero, List.set_cons_succ, i64_w, i32_w]
                      rfl
                     refine pure_ (i := 10) (N := some 79) (v := ?_) (a' := ?_) bzd11 rfl rfl (any_of HT_.out (by kernel_rfl)) (fun _ _ _ h => h) (Or.inl ⟨by rfl, ?_⟩) ?_ ?_
                     rotate_left
                     ·intro w'
                      go_simp
                      with_reducible rfl
                     rotate_left
                     ·simp only [Act.put, List.setIfInBounds_toArray, List.set_cons_zero, List.set_cons_succ, i64_w, i32_w]
                      rfl
                     refine pure_ (i := 11) (N := some 80) (v := ?_) (a' := ?_) bzd12 rfl rfl (any_of HT_.out (by kernel_rfl)) (fun _ _ _ h => h) (Or.inl ⟨by rfl, ?_⟩) ?_ ?_
                     rotate_left
                     ·intro w'
                      go_simp
                      with_reducible rfl
                     rotate_left
                     ·simp only [Act.put, List.setIfInBounds_toArray, List.set_cons_zero, List.set_cons_succ, i64_w, i32_w]
                      rfl
                     refine pure_ (i := 12) (N := some 81) (v := ?_) (a' := ?_) bzd13 rfl rfl (any_of HT_.out (by kernel_rfl)) (fun _ _ _ h => h) (Or.inl ⟨by rfl, ?_⟩) ?_ ?_
                     rotate_left
                     ·intro w'
                      go_simp
                      with_reducible rfl
                     rotate_left
                     ·simp only [Act.put, List.setIfInBounds_toArray, List.set_cons_zero, List.set_cons_succ, i64_w, i32_w]
                      rfl
                     refine take_ (i := 13) (N := some 82) (v := ?_) (a' := ?_) bzd14 rfl rfl (take_ofW HT_.out HW_.out (by kernel_rfl)) (fun _ _ _ h => h) (Or.inl ⟨by rfl, ?_⟩) hHeld ?_ ?_
                     rotate_left
                     ·rintro w' ⟨s0, s1, s2, s3, s4, s5, s6, s7, s8, s9, s10, s11, s12, s13, s14, s15, s16⟩
                      go_simp
                      with_reducible rfl
                     rotate_left
                     ·simp only [Act.put, List.setIfInBounds_toArray, List.set_cons_zero, List.set_cons_succ, i64_w, i32_w]
                      rfl
                     refine pure_ (i := 14) (N := some 83) (v := ?_) (a' := ?_) bzd15 rfl rfl (any_of HT_.out (by kernel_rfl)) (fun _ _ _ h => h) (Or.inl ⟨by rfl, ?_⟩) ?_ ?_
                     rotate_left
                     ·intro w'
                      go_simp
                      with_reducible rfl
                     rotate_left
                     ·simp only [Act.put, List.setIfInBounds_toArray, List.set_cons_zero, List.set_cons_succ, i64_w, i32_w]
                      rfl
                     refine pure_ (i := 15) (N := some 84) (v := ?_) (a' := ?_) bzd16 rfl rfl (any_of HT_.out (by kernel_rfl)) (fun _ _ _ h => h) (Or.inl ⟨by rfl, ?_⟩) ?_ ?_
                     rotate_left
                     ·intro w'
                      go_simp
                      with_reducible rfl
                     rotate_left
                     ·simp only [Act.put, List.setIfInBounds_toArray, List.set_cons_zero, List.set_cons_succ, i64_w, i32_w]
                      rfl
                     refine pure_ (i := 16) (N := some 85) (v := ?_) (a' := ?_) bzd17 rfl rfl (any_of HT_.out (by kernel_rfl)) (fun _ _ _ h => h) (Or.inl ⟨by rfl, ?_⟩) ?_ ?_
                     rotate_left
                     ·intro w'
                      go_simp
                      with_reducible rfl
                     rotate_left
                     ·simp only [Act.put, List.setIfInBounds_toArray, List.set_cons_zero, List.set_cons_succ, i64_w, i32_w]
                      rfl
                     refine pure_ (i := 17) (N := some 86) (v := ?_) (a' := ?_) bzd18 rfl rfl (any_of HT_.out (by kernel_rfl)) (fun _ _ _ h => h) (Or.inl ⟨by rfl, ?_⟩) ?_ ?_
                     rotate_left
                     ·intro w'
                      go_simp
                      with_reducible rfl
                     rotate_left
                     ·simp only [Act.put, List.setIfInBounds_toArray, List.set_cons_zero, List.set_cons_succ, i64_w, i32_w]
                      rfl
                     refine pure_ (i := 18) (N := some 87) (v := ?_) (a' := ?_) bzd19 rfl rfl (any_of HT_.out (by kernel_rfl)) (fun _ _ _ h => h) (Or.inl ⟨by rfl, ?_⟩) ?_ ?_
                     rotate_left
                     ·intro w'
                      go_simp
                      with_reducible rfl
                     rotate_left
                     ·simp only [Act.put, List.setIfInBounds_toArray, List.set_cons_zero, List.set_cons_succ, i64_w, i32_w]
                      rfl
                     refine pure_ (i := 19) (N := some 88) (v := ?_) (a' := ?_) bzd20 rfl rfl (any_of HT_.out (by kernel_rfl)) (fun _ _ _ h => h) (Or.inl ⟨by rfl, ?_⟩) ?_ ?_
                     rotate_left
                     ·intro w'
                      go_simp
                      with_reducible rfl
                     rotate_left
                     ·simp only [Act.put, List.setIfInBounds_toArray, List.set_cons_zero, List.set_cons_succ, i64_w, i32_w]
                      rfl
                     refine pure_ (i := 20) (N := some 89) (v := ?_) (a' := ?_) bzd21 rfl rfl (any_of HT_.out (by kernel_rfl)) (fun _ _ _ h => h) (Or.inl ⟨by rfl, ?_⟩) ?_ ?_
                     rotate_left
                     ·intro w'
                      go_simp
                      with_reducible rfl
                     rotate_left
                     ·simp only [Act.put, List.setIfInBounds_toArray, List.set_cons_zero, List.set_cons_succ, i64_w, i32_w]
                      rfl
                     refine pure_ (i := 22) (N := some 91) (v := ?_) (a' := ?_) bzd45 rfl rfl (any_of HT_.out (by kernel_rfl)) (fun _ _ _ h => h) (Or.inl ⟨by rfl, ?_⟩) ?_ ?_
                     rotate_left
                     ·intro w'
                      go_simp
                      with_reducible rfl
                     rotate_left
                     ·simp only [Act.put, List.setIfInBounds_toArray, List.set_cons_zero, List.set_cons_succ, i64_w, i32_w]
                      rfl
                     refine take_ (i := 21) (N := some 90) (v := ?_) (a' := ?_) bzd23 rfl rfl (take_ofW HT_.out HW_.out (by kernel_rfl)) (fun _ _ _ h => h) (Or.inl ⟨by rfl, ?_⟩) hHeld ?_ ?_
                     rotate_left
                     ·rintro w' ⟨s0, s1, s2, s3, s4, s5, s6, s7, s8, s9, s10, s11, s12, s13, s14, s15, s16⟩
                      go_simp
                      with_reducible rfl
                     rotate_left
                     ·simp only [Act.put, List.setIfInBounds_toArray, List.set_cons_zero, List.set_cons_succ, i64_w, i32_w]
                      rfl
                     refine take_ (i := 23) (N := some 92) (v := ?_) (a' := ?_) bzd24 rfl rfl (take_ofW HT_.out HW_.out (by kernel_rfl)) (fun _ _ _ h => h) (Or.inl ⟨by rfl, ?_⟩) hHeld ?_ ?_
                     rotate_left
                     ·rintro w' ⟨s0, s1, s2, s3, s4, s5, s6, s7, s8, s9, s10, s11, s12, s13, s14, s15, s16⟩
                      go_simp
                      with_reducible rfl
                     rotate_left
                     ·simp only [Act.put, List.setIfInBounds_toArray, List.set_cons_zero, List.set_cons_succ, i64_w, i32_w]
                      rfl
                     refine pure_ (i := 24) (N := some 93) (v := ?_) (a' := ?_) bzd25 rfl rfl (any_of HT_.out (by kernel_rfl)) (fun _ _ _ h => h) (Or.inl ⟨by rfl, ?_⟩) ?_ ?_
                     rotate_left
                     ·intro w'
                      go_simp
                      with_reducible rfl
                     rotate_left
                     ·simp only [Act.put, List.setIfInBounds_toArray, List.set_cons_zero, List.set_cons_succ, i64_w, i32_w]
                      rfl
                     refine pure_ (i := 25) (N := some 94) (v := ?_) (a' := ?_) bzd26 rfl rfl (any_of HT_.out (by kernel_rfl)) (fun _ _ _ h => h) (Or.inl ⟨by rfl, ?_⟩) ?_ ?_
                     rotate_left
                     ·intro w'
                      go_simp
                      with_reducible rfl
                     rotate_left
                     ·simp only [Act.put, List.setIfInBounds_toArray, List.set_cons_zero, List.set_cons_succ, i64_w, i32_w]
                      rfl
                     refine pure_ (i := 26) (N := some 95) (v := ?_) (a' := ?_) bzd27 rfl rfl (any_of HT_.out (by kernel_rfl)) (fun _ _ _ h => h) (Or.inl ⟨by rfl, ?_⟩) ?_ ?_
                     rotate_left
                     ·intro w'
                      go_simp
                      with_reducible rfl
                     rotate_left
                     ·simp only [Act.put, List.setIfInBounds_toArray, List.set_cons_zero, List.set_cons_succ, i64_w, i32_w]
                      rfl
                     refine pure_ (i := 27) (N := some 96) (v := ?_) (a' := ?_) bzd28 rfl rfl (any_of HT_.out (by kernel_rfl)) (fun _ _ _ h => h) (Or.inl ⟨by rfl, ?_⟩) ?_ ?_
                     rotate_left
                     ·intro w'
                      go_simp
                      with_reducible rfl
                     rotate_left
                     ·simp only [Act.put, List.setIfInBounds_toArray, List.set_cons_zero, List.set_cons_succ, i64_w, i32_w]
                      rfl
                     refine pure_ (i := 28) (N := some 97) (v := ?_) (a' := ?_) bzd29 rfl rfl (any_of HT_.out (by kernel_rfl)) (fun _ _ _ h => h) (Or.inl ⟨by rfl, ?_⟩) ?_ ?_
                     rotate_left
                     ·intro w'
                      go_simp
                      with_reducible rfl
                     rotate_left
                     ·simp only [Act.put, List.setIfInBounds_toArray, List.set_cons_zero, List.set_cons_succ, i64_w, i32_w]
                      rfl
                     refine pure_ (i := 29) (N := some 98) (v := ?_) (a' := ?_) bzd30 rfl rfl (any_of HT_.out (by kernel_rfl)) (fun _ _ _ h => h) (Or.inl ⟨by rfl, ?_⟩) ?_ ?_
                     rotate_left
                     ·intro w'
                      go_simp
                      with_reducible rfl
                     rotate_left
                     ·simp only [Act.put, List.setIfInBounds_toArray, List.set_cons_zero, List.set_cons_succ, i64_w, i32_w]
                      rfl
                     refine pure_ (i := 30) (N := some 99) (v := ?_) (a' := ?_) bzd31 rfl rfl (any_of HT_.out (by kernel_rfl)) (fun _ _ _ h => h) (Or.inl ⟨by rfl, ?_⟩) ?_ ?_
                     rotate_left
                     ·intro w'
                      go_simp
                      with_reducible rfl
                     rotate_left
                     ·simp only [Act.put, List.setIfInBounds_toArray, List.set_cons_zero, List.set_cons_succ, i64_w, i32_w]
                      rfl
                     refine pure_ (i := 31) (N := some 100) (v := ?_) (a' := ?_) bzd32 rfl rfl (any_of HT_.out (by kernel_rfl)) (fun _ _ _ h => h) (Or.inl ⟨by rfl, ?_⟩) ?_ ?_
                     rotate_left
                     ·intro w'
                      go_simp
                      with_reducible rfl
                     rotate_left
                     ·simp only [Act.put, List.setIfInBounds_toArray, List.set_cons_zero, List.set_cons_succ, i64_w, i32_w]
                      rfl
                     refine pure_ (i := 32) (N := some 101) (v := ?_) (a' := ?_) bzd33 rfl rfl (any_of HT_.out (by kernel_rfl)) (fun _ _ _ h => h) (Or.inl ⟨by rfl, ?_⟩) ?_ ?_
                     rotate_left
                     ·intro w'
                      go_simp
                      with_reducible rfl
                     rotate_left
                     ·simp only [Act.put, List.setIfInBounds_toArray, List.set_cons_zero, List.set_cons_succ, i64_w, i32_w]
                      rfl
                     refine pure_ (i := 33) (N := some 102) (v := ?_) (a' := ?_) bzd34 rfl rfl (any_of HT_.out (by kernel_rfl)) (fun _ _ _ h => h) (Or.inl ⟨by rfl, ?_⟩) ?_ ?_
                     rotate_left
                     ·intro w'
                      go_simp
                      with_reducible rfl
                     rotate_left
                     ·simp only [Act.put, List.setIfInBounds_toArray, List.set_cons_zero, List.set_cons_succ, i64_w, i32_w]
                      rfl
                     refine pure_ (i := 34) (N := some 103) (v := ?_) (a' := ?_) bzd35 rfl rfl (any_of HT_.out (by kernel_rfl)) (fun _ _ _ h => h) (Or.inl ⟨by rfl, ?_⟩) ?_ ?_
                     rotate_left
                     ·intro w'
                      go_simp
                      with_reducible rfl
                     rotate_left
                     ·simp only [Act.put, List.setIfInBounds_toArray, List.set_cons_zero, List.set_cons_succ, i64_w, i32_w]
                      rfl
                     refine pure_ (i := 36) (N := some 105) (v := ?_) (a' := ?_) bzd46 rfl rfl (any_of HT_.out (by kernel_rfl)) (fun _ _ _ h => h) (Or.inl ⟨by rfl, ?_⟩) ?_ ?_
                     rotate_left
                     ·intro w'
                      go_simp
                      with_reducible rfl
                     rotate_left
                     ·simp only [Act.put, List.setIfInBounds_toArray, List.set_cons_zero, List.set_cons_succ, i64_w, i32_w]
                      rfl
                     refine pure_ (i := 37) (N := some 106) (v := ?_) (a' := ?_) bzd47 rfl rfl (any_of HT_.out (by kernel_rfl)) (fun _ _ _ h => h) (Or.inl ⟨by rfl, ?_⟩) ?_ ?_
                     rotate_left
                     ·intro w'
                      go_simp
                      with_reducible rfl
                     rotate_left
                     ·simp only [Act.put, List.setIfInBounds_toArray, List.set_cons_zero, List.set_cons_succ, i64_w, i32_w]
                      rfl
                     refine pure_ (i := 38) (N := some 107) (v := ?_) (a' := ?_) bzd48 rfl rfl (any_of HT_.out (by kernel_rfl)) (fun _ _ _ h => h) (Or.inl ⟨by rfl, ?_⟩) ?_ ?_
                     rotate_left
                     ·intro w'
                      go_simp
                      with_reducible rfl
                     rotate_left
                     ·simp only [Act.put, List.setIfInBounds_toArray, List.set_cons_zero, List.set_cons_succ, i64_w, i32_w]
                      rfl
                     refine pure_ (i := 39) (N := some 108) (v := ?_) (a' := ?_) bzd49 rfl rfl (any_of HT_.out (by kernel_rfl)) (fun _ _ _ h => h) (Or.inl ⟨by rfl, ?_⟩) ?_ ?_
                     rotate_left
                     ·intro w'
                      go_simp
                      with_reducible rfl
                     rotate_left
                     ·simp only [Act.put, List.setIfInBounds_toArray, List.set_cons_zero, List.set_cons_succ, i64_w, i32_w]
                      rfl
                     refine take_ (i := 35) (N := some 104) (v := ?_) (a' := ?_) bzd40 rfl rfl (take_ofW HT_.out HW_.out (by kernel_rfl)) (fun _ _ _ h => h) (Or.inl ⟨by rfl, ?_⟩) hHeld ?_ ?_
                     rotate_left
                     ·rintro w' ⟨s0, s1, s2, s3, s4, s5, s6, s7, s8, s9, s10, s11, s12, s13, s14, s15, s16⟩
                      go_simp
                      with_reducible rfl
                     rotate_left
                     ·simp only [Act.put, List.setIfInBounds_toArray, List.set_cons_zero, List.set_cons_succ, i64_w, i32_w]
                      rfl
                     refine take_ (i := 40) (N := some 109) (v := ?_) (a' := ?_) bzd41 rfl rfl (take_ofW HT_.out HW_.out (by kernel_rfl)) (fun _ _ _ h => h) (Or.inl ⟨by rfl, ?_⟩) hHeld ?_ ?_
                     rotate_left
                     ·rintro w' ⟨s0, s1, s2, s3, s4, s5, s6, s7, s8, s9, s10, s11, s12, s13, s14, s15, s16⟩
                      go_simp
                      with_reducible rfl
                     rotate_left
                     ·simp only [Act.put, List.setIfInBounds_toArray, List.set_cons_zero, List.set_cons_succ, i64_w, i32_w]
                      rfl
                     refine pure_ (i := 41) (N := some 110) (v := ?_) (a' := ?_) bzd42 rfl rfl (any_of HT_.out (by kernel_rfl)) (fun _ _ _ h => h) (Or.inl ⟨by rfl, ?_⟩) ?_ ?_
                     rotate_left
                     ·intro w'
                      go_simp
                      with_reducible rfl
                     rotate_left
                     ·simp only [Act.put, List.setIfInBounds_toArray, List.set_cons_zero, List.set_cons_succ, i64_w, i32_w]
                      rfl
                     refine pure_ (i := 42) (N := some 111) (v := ?_) (a' := ?_) bzd43 rfl rfl (any_of HT_.out (by kernel_rfl)) (fun _ _ _ h => h) (Or.inl ⟨by rfl, ?_⟩) ?_ ?_
                     rotate_left
                     ·intro w'
                      go_simp
                      with_reducible rfl
                     rotate_left
                     ·simp only [Act.put, List.setIfInBounds_toArray, List.set_cons_zero, List.set_cons_succ, i64_w, i32_w]
                      rfl
                     refine pure_ (i := 43) (N := some 112) (v := ?_) (a' := ?_) bzd44 rfl rfl (any_of HT_.out (by kernel_rfl)) (fun _ _ _ h => h) (Or.inl ⟨by rfl, ?_⟩) ?_ ?_
                     rotate_left
                     ·intro w'
                      go_simp
                      with_reducible rfl
                     rotate_left
                     ·simp only [Act.put, List.setIfInBounds_toArray, List.set_cons_zero, List.set_cons_succ, i64_w, i32_w]
                      rfl
                     refine done_ (done_of HT_.out (by kernel_rfl)) ?_
                     try go_wp2
                     go_ret
                     exact ⟨by first | rfl | (simp [errW_none, errW_some] <;> rfl) | (simp only [← hji51]; first | rfl | (simp [errW_none, errW_some] <;> rfl)) | (simp [*, errW_none, errW_some] <;> rfl), by repeat (first | (with_reducible first | exact HB.out | apply below_alloc | apply pw_below_drewN | apply below_drew1 | refine below_set ?_ GE413.out) | exact HB.out)⟩
                    ·rw [if_neg c54] at H
                     have c54b0 : decide (((rd_T48 t424 x15_3).f0) < ((rd_T48 t424 (ji51)).f0)) = false := decide_eq_false c54
                     clear c54
                     have H' := Aside0.mk H
                     clear H
                     obtain ⟨Ao57, co57, eo57⟩ := Kd.S_slice HO_12.out
                     subst eo57
                     try go_wp2
                     have n0_ := Aside0.mk (Kd.R_drew HO_9.out)
                     have n1_ := Aside0.mk (Kd.R_drew HO_11.out)
                     have n2_ := Aside0.mk (Kd.S_drew HO_12.out)
                     have n3_ := Aside0.mk (Kd.R_drew HO_414002.out)
                     have n4_ := Aside0.mk (Kd.R_drew HO_414003.out)
                     have n5_ := Aside0.mk (Kd.R_drew HO_414004.out)
                     have n6_ := Aside0.mk (Kd.R_drew HO_414005.out)
                     have n7_ := Aside0.mk (Kd.R_drew HO_414006.out)
                     have n8_ := Aside0.mk (blk_drew BK413.out)
                     have n9_ := Aside0.mk (below_drew1 HB.out)
                     clear HO_9
                     clear HO_11
                     clear HO_12
                     clear HO_414002
                     clear HO_414003
                     clear HO_414004
                     clear HO_414005
                     clear HO_414006
                     clear BK413
                     clear HB
                     have HO_9 := n0_
                     have HO_11 := n1_
                     have HO_12 := n2_
                     have HO_414002 := n3_
                     have HO_414003 := n4_
                     have HO_414004 := n5_
                     have HO_414005 := n6_
                     have HO_414006 := n7_
                     have BK413 := n8_
                     have HB := n9_
                     clear n0_ n1_ n2_ n3_ n4_ n5_ n6_ n7_ n8_ n9_
                     have p429 : 0 ≤ (x15_3 : Int) := of_decide_eq_true (by first | (with_reducible assumption) | assumption)
                     have q429 : x15_3 < (t424.length : Int) := of_decide_eq_true (by first | (with_reducible assumption) | assumption)
                     obtain ⟨ad429, A429_1, c429_1, e429, hx429_0, hx429_1, hl429_1, hi429_1⟩ := at_T48 (Kd.S_reads' HO_12.out).2.2 x15_3 p429 q429
                     cases e429
                     obtain ⟨ce429, hce429, hMe429, hcc429⟩ := Kd.S_get HO_12.out z48 x15_3 p429 (by first | exact q429 | exact of_decide_eq_true (by first | (with_reducible assumption) | assumption) | (have e_ := (Kd.S_reads' HO_12.out).1; omega))
                     obtain ⟨ve429_1, rfl, ge429_1⟩ := k48_openM hMe429
                     have hv429_1 := hcc429 1 _ rfl
                     rw [add_field _ _ 1 (by omega)] at hv429_1
                     replace hv429_1 := Option.some.inj (hv429_1.symm.trans hx429_1)
                     rw [hv429_1] at ge429_1
                     have HL429_1 := Aside0.mk (show Kd.R (Kd.int .i64) 3 _ _ _ _ ((rd_T48 t424 x15_3).f1) from ge429_1)
                     clear hv429_1 ge429_1
                     clear hcc429 hce429
                     have HR429_1 := Aside0.mk hi429_1
                     have HC429_1 := Aside0.mk hl429_1
                     clear hi429_1 hl429_1
                     replace p429 := eq_true p429
                     replace q429 := eq_true q429
                     have p430 : 0 ≤ (x15_3 : Int) := of_decide_eq_true (by first | (with_reducible assumption) | assumption)
                     have q430 : x15_3 < (t424.length : Int) := of_decide_eq_true (by first | (with_reducible assumption) | assumption)
                     obtain ⟨ad430, A430_1, c430_1, e430, hx430_0, hx430_1, hl430_1, hi430_1⟩ := at_T48 (Kd.S_reads' HO_12.out).2.2 x15_3 p430 q430
                     obtain rfl : ad429 = ad430 := (by injection e430)
                     obtain ⟨ce430, hce430, hMe430, hcc430⟩ := Kd.S_get HO_12.out z48 x15_3 p430 (by first | exact q430 | exact of_decide_eq_true (by first | (with_reducible assumption) | assumption) | (have e_ := (Kd.S_reads' HO_12.out).1; omega))
                     obtain ⟨ve430_1, rfl, ge430_1⟩ := k48_openM hMe430
                     have hv430_1 := hcc430 1 _ rfl
                     rw [add_field _ _ 1 (by omega)] at hv430_1
                     replace hv430_1 := Option.some.inj (hv430_1.symm.trans hx430_1)
                     rw [hv430_1] at ge430_1
                     have HL430_1 := Aside0.mk (show Kd.R (Kd.int .i64) 3 _ _ _ _ ((rd_T48 t424 x15_3).f1) from ge430_1)
                     clear hv430_1 ge430_1
                     clear hcc430 hce430
                     have HR430_1 := Aside0.mk hi430_1
                     have HC430_1 := Aside0.mk hl430_1
                     clear hi430_1 hl430_1
                     replace p430 := eq_true p430
                     replace q430 := eq_true q430
                     have ea_ := Option.some.inj (hx429_1.symm.trans hx430_1)
                     injection ea_ with ea_ en_ ec_
                     subst ea_
                     subst ec_
                     clear en_
                     have p431 : 0 ≤ (x15_3 : Int) := of_decide_eq_true (by first | (with_reducible assumption) | assumption)
                     have q431 : x15_3 < (t424.length : Int) := of_decide_eq_true (by first | (with_reducible assumption) | assumption)
                     obtain ⟨ad431, A431_1, c431_1, e431, hx431_0, hx431_1, hl431_1, hi431_1⟩ := at_T48 (Kd.S_reads' HO_12.out).2.2 x15_3 p431 q431
                     obtain rfl : ad429 = ad431 := (by injection e431)
                     obtain ⟨ce431, hce431, hMe431, hcc431⟩ := Kd.S_get HO_12.out z48 x15_3 p431 (by first | exact q431 | exact of_decide_eq_true (by first | (with_reducible assumption) | assumption) | (have e_ := (Kd.S_reads' HO_12.out).1; omega))
                     obtain ⟨ve431_1, rfl, ge431_1⟩ := k48_openM hMe431
                     have hv431_1 := hcc431 1 _ rfl
                     rw [add_field _ _ 1 (by omega)] at hv431_1
                     replace hv431_1 := Option.some.inj (hv431_1.symm.trans hx431_1)
                     rw [hv431_1] at ge431_1
                     have HL431_1 := Aside0.mk (show Kd.R (Kd.int .i64) 3 _ _ _ _ ((rd_T48 t424 x15_3).f1) from ge431_1)
                     clear hv431_1 ge431_1
                     clear hcc431 hce431
                     have HR431_1 := Aside0.mk hi431_1
                     have HC431_1 := Aside0.mk hl431_1
                     clear hi431_1 hl431_1
                     replace p431 := eq_true p431
                     replace q431 := eq_true q431
                     have ea_ := Option.some.inj (hx429_1.symm.trans hx431_1)
                     injection ea_ with ea_ en_ ec_
                     subst ea_
                     subst ec_
                     clear en_
                     have p432 : 0 ≤ ((ji51) : Int) := of_decide_eq_true (by first | (with_reducible assumption) | assumption)
                     have q432 : (ji51) < (t424.length : Int) := of_decide_eq_true (by first | (with_reducible assumption) | assumption)
                     obtain ⟨ad432, A432_1, c432_1, e432, hx432_0, hx432_1, hl432_1, hi432_1⟩ := at_T48 (Kd.S_reads' HO_12.out).2.2 (ji51) p432 q432
                     obtain rfl : ad429 = ad432 := (by injection e432)
                     obtain ⟨ce432, hce432, hMe432, hcc432⟩ := Kd.S_get HO_12.out z48 (ji51) p432 (by first | exact q432 | exact of_decide_eq_true (by first | (with_reducible assumption) | assumption) | (have e_ := (Kd.S_reads' HO_12.out).1; omega))
                     obtain ⟨ve432_1, rfl, ge432_1⟩ := k48_openM hMe432
                     have hv432_1 := hcc432 1 _ rfl
                     rw [add_field _ _ 1 (by omega)] at hv432_1
                     replace hv432_1 := Option.some.inj (hv432_1.symm.trans hx432_1)
                     rw [hv432_1] at ge432_1
                     have HL432_1 := Aside0.mk (show Kd.R (Kd.int .i64) 3 _ _ _ _ ((rd_T48 t424 (ji51)).f1) from ge432_1)
                     clear hv432_1 ge432_1
                     clear hcc432 hce432
                     have HR432_1 := Aside0.mk hi432_1
                     have HC432_1 := Aside0.mk hl432_1
                     clear hi432_1 hl432_1
                     replace p432 := eq_true p432
                     replace q432 := eq_true q432
                     have p433 : 0 ≤ (x15_3 : Int) := of_decide_eq_true (by first | (with_reducible assumption) | assumption)
                     have q433 : x15_3 < (t424.length : Int) := of_decide_eq_true (by first | (with_reducible assumption) | assumption)
                     obtain ⟨ad433, A433_1, c433_1, e433, hx433_0, hx433_1, hl433_1, hi433_1⟩ := at_T48 (Kd.S_reads' HO_12.out).2.2 x15_3 p433 q433
                     obtain rfl : ad429 = ad433 := (by injection e433)
                     obtain ⟨ce433, hce433, hMe433, hcc433⟩ := Kd.S_get HO_12.out z48 x15_3 p433 (by first | exact q433 | exact of_decide_eq_true (by first | (with_reducible assumption) | assumption) | (have e_ := (Kd.S_reads' HO_12.out).1; omega))
                     obtain ⟨ve433_1, rfl, ge433_1⟩ := k48_openM hMe433
                     have hv433_1 := hcc433 1 _ rfl
                     rw [add_field _ _ 1 (by omega)] at hv433_1
                     replace hv433_1 := Option.some.inj (hv433_1.symm.trans hx433_1)
                     rw [hv433_1] at ge433_1
                     have HL433_1 := Aside0.mk (show Kd.R (Kd.int .i64) 3 _ _ _ _ ((rd_T48 t424 x15_3).f1) from ge433_1)
                     clear hv433_1 ge433_1
                     clear hcc433 hce433
                     have HR433_1 := Aside0.mk hi433_1
                     have HC433_1 := Aside0.mk hl433_1
                     clear hi433_1 hl433_1
                     replace p433 := eq_true p433
                     replace q433 := eq_true q433
                     have ea_ := Option.some.inj (hx429_1.symm.trans hx433_1)
                     injection ea_ with ea_ en_ ec_
                     subst ea_
                     subst ec_
                     clear en_
                     refine start_ (n := 44) (S := fun w' => w'.cell? ⟨gb413, 0, none⟩ = some (.int .i64 t396) ∧ w'.cell? ⟨gb413, 1, none⟩ = some (.int .i64 t397) ∧ w'.cell? ⟨gb413, 2, none⟩ = some (.slice Ao18 t398.length co18) ∧ w'.cell? ⟨gb413, 3, none⟩ = some (.slice Ao19 t401.length co19) ∧ w'.cell? ⟨gb413, 4, none⟩ = some (.slice Ao20 t404.length co20) ∧ w'.cell? ⟨gb413, 5, none⟩ = some (.slice Ao21 t407.length co21) ∧ w'.cell? ⟨gb413, 6, none⟩ = some (.slice Ao22 t410.length co22) ∧ w'.cell? (ad429.add ((x15_3).toNat * 2)) = some (.int .i64 ((rd_T48 t424 x15_3).f0)) ∧ w'.cell? ⟨(ad429.add ((x15_3).toNat * 2)).block, (ad429.add ((x15_3).toNat * 2)).off + 1, none⟩ = some (.slice A429_1 ((rd_T48 t424 x15_3).f1).length c429_1) ∧ w'.cell? (ad429.add ((x15_3).toNat * 2)) = some (.int .i64 ((rd_T48 t424 x15_3).f0)) ∧ w'.cell? ⟨(ad429.add ((x15_3).toNat * 2)).block, (ad429.add ((x15_3).toNat * 2)).off + 1, none⟩ = some (.slice A429_1 ((rd_T48 t424 x15_3).f1).length c429_1) ∧ w'.cell? (ad429.add ((x15_3).toNat * 2)) = some (.int .i64 ((rd_T48 t424 x15_3).f0)) ∧ w'.cell? ⟨(ad429.add ((x15_3).toNat * 2)).block, (ad429.add ((x15_3).toNat * 2)).off + 1, none⟩ = some (.slice A429_1 ((rd_T48 t424 x15_3).f1).length c429_1) ∧ w'.cell? (ad429.add (((ji51)).toNat * 2)) = some (.int .i64 ((rd_T48 t424 (ji51)).f0)) ∧ w'.cell? ⟨(ad429.add (((ji51)).toNat * 2)).block, (ad429.add (((ji51)).toNat * 2)).off + 1, none⟩ = some (.slice A432_1 ((rd_T48 t424 (ji51)).f1).length c432_1) ∧ w'.cell? (ad429.add ((x15_3).toNat * 2)) = some (.int .i64 ((rd_T48 t424 x15_3).f0)) ∧ w'.cell? ⟨(ad429.add ((x15_3).toNat * 2)).block, (ad429.add ((x15_3).toNat * 2)).off + 1, none⟩ = some (.slice A429_1 ((rd_T48 t424 x15_3).f1).length c429_1)) (ds := []) bzd0 (by kernel_rfl) rfl rfl ⟨(blk_cell BK413.out 0).trans rfl, (blk_cell BK413.out 1).trans rfl, (blk_cell BK413.out 2).trans rfl, (blk_cell BK413.out 3).trans rfl, (blk_cell BK413.out 4).trans rfl, (blk_cell BK413.out 5).trans rfl, (blk_cell BK413.out 6).trans rfl, hx429_0, hx429_1, hx430_0, hx430_1, hx431_0, hx431_1, hx432_0, hx432_1, hx433_0, hx433_1⟩ (fun hHeld => ?_); refine with_tabW canopylaw4_RunsDepth.tab20 canopylaw4_RunsDepth.bits20 (fun HT_ HW_ => ?_)
                     generalize wr.drew = w58 at HO_9 HO_11 HO_12 HO_414002 HO_414003 HO_414004 HO_414005 HO_414006 BK413 HB HL429_1 HL430_1 HL431_1 HL432_1 HL433_1 HR429_1 HR430_1 HR431_1 HR432_1 HR433_1 hx429_0 hx429_1 hx430_0 hx430_1 hx431_0 hx431_1 hx432_0 hx432_1 hx433_0 hx433_1 hHeld ⊢
                     refine pure_ (i := 0) (N := some 69) (v := ?_) (a' := ?_) bzd1 rfl rfl (any_of HT_.out (by kernel_rfl)) (fun _ _ _ h => h) (Or.inl ⟨by rfl, ?_⟩) ?_ ?_
                     rotate_left
                     ·intro w'
                      go_simp
                      with_reducible rfl
                     rotate_left
                     ·simp only [Act.put, List.setIfInBounds_toArray, List.set_cons_zero, List.set_cons_succ, i64_w, i32_w]
                      rfl
                     refine pure_ (i := 1) (N := some 70) (v := ?_) (a' := ?_) bzd2 rfl rfl (any_of HT_.out (by kernel_rfl)) (fun _ _ _ h => h) (Or.inl ⟨by rfl, ?_⟩) ?_ ?_
                     rotate_left
                     ·intro w'
                      go_simp
                      with_reducible rfl
                     rotate_left
                     ·simp only [Act.put, List.setIfInBounds_toArray, List.set_cons_zero, List.set_cons_succ, i64_w, i32_w]
                      rfl
                     refine pure_ (i := 2) (N := some 71) (v := ?_) (a' := ?_) bzd3 rfl rfl (any_of HT_.out (by kernel_rfl)) (fun _ _ _ h => h) (Or.inl ⟨by rfl, ?_⟩) ?_ ?_
                     rotate_left
                     ·intro w'
                      go_simp
                      with_reducible rfl
                     rotate_left
                     ·simp only [Act.put, List.setIfInBounds_toArray, List.set_cons_zero, List.set_cons_succ, i64_w, i32_w]
                      rfl
                     refine pure_ (i := 3) (N := some 72) (v := ?_) (a' := ?_) bzd4 rfl rfl (any_of HT_.out (by kernel_rfl)) (fun _ _ _ h => h) (Or.inl ⟨by rfl, ?_⟩) ?_ ?_
                     rotate_left
                     ·intro w'
                      go_simp
                      with_reducible rfl
                     rotate_left
                     ·simp only [Act.put, List.setIfInBounds_toArray, List.set_cons_zero, List.set_cons_succ, i64_w, i32_w]
                      rfl
                     refine pure_ (i := 6) (N := some 75) (v := ?_) (a' := ?_) bzd5 rfl rfl (any_of HT_.out (by kernel_rfl)) (fun _ _ _ h => h) (Or.inl ⟨by rfl, ?_⟩) ?_ ?_
                     rotate_left
                     ·intro w'
                      go_simp
                      with_reducible rfl
                     rotate_left
                     ·simp only [Act.put, List.setIfInBounds_toArray, List.set_cons_zero, List.set_cons_succ, i64_w, i32_w]
                      rfl
                     refine take_ (i := 4) (N := some 73) (v := ?_) (a' := ?_) bzd6 rfl rfl (take_ofW HT_.out HW_.out (by kernel_rfl)) (fun _ _ _ h => h) (Or.inl ⟨by rfl, ?_⟩) hHeld ?_ ?_
                     rotate_left
                     ·rintro w' ⟨s0, s1, s2, s3, s4, s5, s6, s7, s8, s9, s10, s11, s12, s13, s14, s15, s16⟩
                      go_simp
                      with_reducible rfl
                     rotate_left
                     ·simp only [Act.put, List.setIfInBounds_toArray, List.set_cons_zero, List.set_cons_succ, i64_w, i32_w]
                      rfl
                     refine pure_ (i := 5) (N := some 74) (v := ?_) (a' := ?_) bzd7 rfl rfl (any_of HT_.out (by kernel_rfl)) (fun _ _ _ h => h) (Or.inl ⟨by rfl, ?_⟩) ?_ ?_
                     rotate_left
                     ·intro w'
                      go_simp
                      with_reducible rfl
                     rotate_left
                     ·simp only [Act.put, List.setIfInBounds_toArray, List.set_cons_zero, List.set_cons_succ, i64_w, i32_w]
                      rfl
                     refine pure_ (i := 7) (N := some 76) (v := ?_) (a' := ?_) bzd8 rfl rfl (any_of HT_.out (by kernel_rfl)) (fun _ _ _ h => h) (Or.inl ⟨by rfl, ?_⟩) ?_ ?_
                     rotate_left
                     ·intro w'
                      go_simp
                      with_reducible rfl
                     rotate_left
                     ·simp only [Act.put, List.setIfInBounds_toArray, List.set_cons_zero, List.set_cons_succ, i64_w, i32_w]
                      rfl
                     refine pure_ (i := 8) (N := some 77) (v := ?_) (a' := ?_) bzd9 rfl rfl (any_of HT_.out (by kernel_rfl)) (fun _ _ _ h => h) (Or.inl ⟨by rfl, ?_⟩) ?_ ?_
                     rotate_left
                     ·intro w'
                      go_simp
                      with_reducible rfl
                     rotate_left
                     ·simp only [Act.put, List.setIfInBounds_toArray, List.set_cons_zero, List.set_cons_succ, i64_w, i32_w]
                      rfl
                     refine pure_ (i := 9) (N := some 78) (v := ?_) (a' := ?_) bzd10 rfl rfl (any_of HT_.out (by kernel_rfl)) (fun _ _ _ h => h) (Or.inl ⟨by rfl, ?_⟩) ?_ ?_
                     rotate_left
                     ·intro w'
                      go_simp
                      with_reducible rfl
                     rotate_left
                     ·simp only [Act.put, List.setIfInBounds_toArray, List.set_cons_zero, List.set_cons_succ, i64_w, i32_w]
                      rfl
                     refine pure_ (i := 10) (N := some 79) (v := ?_) (a' := ?_) bzd11 rfl rfl (any_of HT_.out (by kernel_rfl)) (fun _ _ _ h => h) (Or.inl ⟨by rfl, ?_⟩) ?_ ?_
                     rotate_left
                     ·intro w'
                      go_simp
                      with_reducible rfl
                     rotate_left
                     ·simp only [Act.put, List.setIfInBounds_toArray, List.set_cons_zero, List.set_cons_succ, i64_w, i32_w]
                      rfl
                     refine pure_ (i := 11) (N := some 80) (v := ?_) (a' := ?_) bzd12 rfl rfl (any_of HT_.out (by kernel_rfl)) (fun _ _ _ h => h) (Or.inl ⟨by rfl, ?_⟩) ?_ ?_
                     rotate_left
                     ·intro w'
                      go_simp
                      with_reducible rfl
                     rotate_left
                     ·simp only [Act.put, List.setIfInBounds_toArray, List.set_cons_zero, List.set_cons_succ, i64_w, i32_w]
                      rfl
                     refine pure_ (i := 12) (N := some 81) (v := ?_) (a' := ?_) bzd13 rfl rfl (any_of HT_.out (by kernel_rfl)) (fun _ _ _ h => h) (Or.inl ⟨by rfl, ?_⟩) ?_ ?_
                     rotate_left
                     ·intro w'
                      go_simp
                      with_reducible rfl
                     rotate_left
                     ·simp only [Act.put, List.setIfInBounds_toArray, List.set_cons_zero, List.set_cons_succ, i64_w, i32_w]
                      rfl
                     refine take_ (i := 13) (N := some 82) (v := ?_) (a' := ?_) bzd14 rfl rfl (take_ofW HT_.out HW_.out (by kernel_rfl)) (fun _ _ _ h => h) (Or.inl ⟨by rfl, ?_⟩) hHeld ?_ ?_
                     rotate_left
                     ·rintro w' ⟨s0, s1, s2, s3, s4, s5, s6, s7, s8, s9, s10, s11, s12, s13, s14, s15, s16⟩
                      go_simp
                      with_reducible rfl
                     rotate_left
                     ·simp only [Act.put, List.setIfInBounds_toArray, List.set_cons_zero, List.set_cons_succ, i64_w, i32_w]
                      rfl
                     refine pure_ (i := 14) (N := some 83) (v := ?_) (a' := ?_) bzd15 rfl rfl (any_of HT_.out (by kernel_rfl)) (fun _ _ _ h => h) (Or.inl ⟨by rfl, ?_⟩) ?_ ?_
                     rotate_left
                     ·intro w'
                      go_simp
                      with_reducible rfl
                     rotate_left
                     ·simp only [Act.put, List.setIfInBounds_toArray, List.set_cons_zero, List.set_cons_succ, i64_w, i32_w]
                      rfl
                     refine pure_ (i := 15) (N := some 84) (v := ?_) (a' := ?_) bzd16 rfl rfl (any_of HT_.out (by kernel_rfl)) (fun _ _ _ h => h) (Or.inl ⟨by rfl, ?_⟩) ?_ ?_
                     rotate_left
                     ·intro w'
                      go_simp
                      with_reducible rfl
                     rotate_left
                     ·simp only [Act.put, List.setIfInBounds_toArray, List.set_cons_zero, List.set_cons_succ, i64_w, i32_w]
                      rfl
                     refine pure_ (i := 16) (N := some 85) (v := ?_) (a' := ?_) bzd17 rfl rfl (any_of HT_.out (by kernel_rfl)) (fun _ _ _ h => h) (Or.inl ⟨by rfl, ?_⟩) ?_ ?_
                     rotate_left
                     ·intro w'
                      go_simp
                      with_reducible rfl
                     rotate_left
                     ·simp only [Act.put, List.setIfInBounds_toArray, List.set_cons_zero, List.set_cons_succ, i64_w, i32_w]
                      rfl
                     refine pure_ (i := 17) (N := some 86) (v := ?_) (a' := ?_) bzd18 rfl rfl (any_of HT_.out (by kernel_rfl)) (fun _ _ _ h => h) (Or.inl ⟨by rfl, ?_⟩) ?_ ?_
                     rotate_left
                     ·intro w'
                      go_simp
                      with_reducible rfl
                     rotate_left
                     ·simp only [Act.put, List.setIfInBounds_toArray, List.set_cons_zero, List.set_cons_succ, i64_w, i32_w]
                      rfl
                     refine pure_ (i := 18) (N := some 87) (v := ?_) (a' := ?_) bzd19 rfl rfl (any_of HT_.out (by kernel_rfl)) (fun _ _ _ h => h) (Or.inl ⟨by rfl, ?_⟩) ?_ ?_
                     rotate_left
                     ·intro w'
                      go_simp
                      with_reducible rfl
                     rotate_left
                     ·simp only [Act.put, List.setIfInBounds_toArray, List.set_cons_zero, List.set_cons_succ, i64_w, i32_w]
                      rfl
                     refine pure_ (i := 19) (N := some 88) (v := ?_) (a' := ?_) bzd20 rfl rfl (any_of HT_.out (by kernel_rfl)) (fun _ _ _ h => h) (Or.inl ⟨by rfl, ?_⟩) ?_ ?_
                     rotate_left
                     ·intro w'
                      go_simp
                      with_reducible rfl
                     rotate_left
                     ·simp only [Act.put, List.setIfInBounds_toArray, List.set_cons_zero, List.set_cons_succ, i64_w, i32_w]
                      rfl
                     refine pure_ (i := 20) (N := some 89) (v := ?_) (a' := ?_) bzd21 rfl rfl (any_of HT_.out (by kernel_rfl)) (fun _ _ _ h => h) (Or.inl ⟨by rfl, ?_⟩) ?_ ?_
                     rotate_left
                     ·intro w'
                      go_simp
                      with_reducible rfl
                     rotate_left
                     ·simp only [Act.put, List.setIfInBounds_toArray, List.set_cons_zero, List.set_cons_succ, i64_w, i32_w]
                      rfl
                     refine pure_ (i := 22) (N := some 91) (v := ?_) (a' := ?_) bzd45 rfl rfl (any_of HT_.out (by kernel_rfl)) (fun _ _ _ h => h) (Or.inl ⟨by rfl, ?_⟩) ?_ ?_
                     rotate_left
                     ·intro w'
                      go_simp
                      with_reducible rfl
                     rotate_left
                     ·simp only [Act.put, List.setIfInBounds_toArray, List.set_cons_zero, List.set_cons_succ, i64_w, i32_w]
                      rfl
                     refine take_ (i := 21) (N := some 90) (v := ?_) (a' := ?_) bzd23 rfl rfl (take_ofW HT_.out HW_.out (by kernel_rfl)) (fun _ _ _ h => h) (Or.inl ⟨by rfl, ?_⟩) hHeld ?_ ?_
                     rotate_left
                     ·rintro w' ⟨s0, s1, s2, s3, s4, s5, s6, s7, s8, s9, s10, s11, s12, s13, s14, s15, s16⟩
                      go_simp
                      with_reducible rfl
                     rotate_left
                     ·simp only [Act.put, List.setIfInBounds_toArray, List.set_cons_zero, List.set_cons_succ, i64_w, i32_w]
                      rfl
                     refine take_ (i := 23) (N := some 92) (v := ?_) (a' := ?_) bzd24 rfl rfl (take_ofW HT_.out HW_.out (by kernel_rfl)) (fun _ _ _ h => h) (Or.inl ⟨by rfl, ?_⟩) hHeld ?_ ?_
                     rotate_left
                     ·rintro w' ⟨s0, s1, s2, s3, s4, s5, s6, s7, s8, s9, s10, s11, s12, s13, s14, s15, s16⟩
                      go_simp
                      with_reducible rfl
                     rotate_left
                     ·simp only [Act.put, List.setIfInBounds_toArray, List.set_cons_zero, List.set_cons_succ, i64_w, i32_w]
                      rfl
                     refine pure_ (i := 24) (N := some 93) (v := ?_) (a' := ?_) bzd25 rfl rfl (any_of HT_.out (by kernel_rfl)) (fun _ _ _ h => h) (Or.inl ⟨by rfl, ?_⟩) ?_ ?_
                     rotate_left
                     ·intro w'
                      go_simp
                      with_reducible rfl
                     rotate_left
                     ·simp only [Act.put, List.setIfInBounds_toArray, List.set_cons_zero, List.set_cons_succ, i64_w, i32_w]
                      rfl
                     refine pure_ (i := 25) (N := some 94) (v := ?_) (a' := ?_) bzd26 rfl rfl (any_of HT_.out (by kernel_rfl)) (fun _ _ _ h => h) (Or.inl ⟨by rfl, ?_⟩) ?_ ?_
                     rotate_left
                     ·intro w'
                      go_simp
                      with_reducible rfl
                     rotate_left
                     ·simp only [Act.put, List.setIfInBounds_toArray, List.set_cons_zero, List.set_cons_succ, i64_w, i32_w]
                      rfl
                     refine pure_ (i := 26) (N := some 95) (v := ?_) (a' := ?_) bzd27 rfl rfl (any_of HT_.out (by kernel_rfl)) (fun _ _ _ h => h) (Or.inl ⟨by rfl, ?_⟩) ?_ ?_
                     rotate_left
                     ·intro w'
                      go_simp
                      with_reducible rfl
                     rotate_left
                     ·simp only [Act.put, List.setIfInBounds_toArray, List.set_cons_zero, List.set_cons_succ, i64_w, i32_w]
                      rfl
                     refine pure_ (i := 27) (N := some 96) (v := ?_) (a' := ?_) bzd28 rfl rfl (any_of HT_.out (by kernel_rfl)) (fun _ _ _ h => h) (Or.inl ⟨by rfl, ?_⟩) ?_ ?_
                     rotate_left
                     ·intro w'
                      go_simp
                      with_reducible rfl
                     rotate_left
                     ·simp only [Act.put, List.setIfInBounds_toArray, List.set_cons_zero, List.set_cons_succ, i64_w, i32_w]
                      rfl
                     refine pure_ (i := 28) (N := some 97) (v := ?_) (a' := ?_) bzd29 rfl rfl (any_of HT_.out (by kernel_rfl)) (fun _ _ _ h => h) (Or.inl ⟨by rfl, ?_⟩) ?_ ?_
                     rotate_left
                     ·intro w'
                      go_simp
                      with_reducible rfl
                     rotate_left
                     ·simp only [Act.put, List.setIfInBounds_toArray, List.set_cons_zero, List.set_cons_succ, i64_w, i32_w]
                      rfl
                     refine pure_ (i := 29) (N := some 98) (v := ?_) (a' := ?_) bzd30 rfl rfl (any_of HT_.out (by kernel_rfl)) (fun _ _ _ h => h) (Or.inl ⟨by rfl, ?_⟩) ?_ ?_
                     rotate_left
                     ·intro w'
                      go_simp
                      with_reducible rfl
                     rotate_left
                     ·simp only [Act.put, List.setIfInBounds_toArray, List.set_cons_zero, List.set_cons_succ, i64_w, i32_w]
                      rfl
                     refine pure_ (i := 30) (N := some 99) (v := ?_) (a' := ?_) bzd31 rfl rfl (any_of HT_.out (by kernel_rfl)) (fun _ _ _ h => h) (Or.inl ⟨by rfl, ?_⟩) ?_ ?_
                     rotate_left
                     ·intro w'
                      go_simp
                      with_reducible rfl
                     rotate_left
                     ·simp only [Act.put, List.setIfInBounds_toArray, List.set_cons_zero, List.set_cons_succ, i64_w, i32_w]
                      rfl
                     refine pure_ (i := 31) (N := some 100) (v := ?_) (a' := ?_) bzd32 rfl rfl (any_of HT_.out (by kernel_rfl)) (fun _ _ _ h => h) (Or.inl ⟨by rfl, ?_⟩) ?_ ?_
                     rotate_left
                     ·intro w'
                      go_simp
                      with_reducible rfl
                     rotate_left
                     ·simp only [Act.put, List.setIfInBounds_toArray, List.set_cons_zero, List.set_cons_succ, i64_w, i32_w]
                      rfl
                     refine pure_ (i := 32) (N := some 101) (v := ?_) (a' := ?_) bzd33 rfl rfl (any_of HT_.out (by kernel_rfl)) (fun _ _ _ h => h) (Or.inl ⟨by rfl, ?_⟩) ?_ ?_
                     rotate_left
                     ·intro w'
                      go_simp
                      with_reducible rfl
                     rotate_left
                     ·simp only [Act.put, List.setIfInBounds_toArray, List.set_cons_zero, List.set_cons_succ, i64_w, i32_w]
                      rfl
                     refine pure_ (i := 33) (N := some 102) (v := ?_) (a' := ?_) bzd34 rfl rfl (any_of HT_.out (by kernel_rfl)) (fun _ _ _ h => h) (Or.inl ⟨by rfl, ?_⟩) ?_ ?_
                     rotate_left
                     ·intro w'
                      go_simp
                      with_reducible rfl
                     rotate_left
                     ·simp only [Act.put, List.setIfInBounds_toArray, List.set_cons_zero, List.set_cons_succ, i64_w, i32_w]
                      rfl
                     refine pure_ (i := 34) (N := some 103) (v := ?_) (a' := ?_) bzd35 rfl rfl (any_of HT_.out (by kernel_rfl)) (fun _ _ _ h => h) (Or.inl ⟨by rfl, ?_⟩) ?_ ?_
                     rotate_left
                     ·intro w'
                      go_simp
                      with_reducible rfl
                     rotate_left
                     ·simp only [Act.put, List.setIfInBounds_toArray, List.set_cons_zero, List.set_cons_succ, i64_w, i32_w]
                      rfl
                     refine pure_ (i := 36) (N := some 105) (v := ?_) (a' := ?_) bzd46 rfl rfl (any_of HT_.out (by kernel_rfl)) (fun _ _ _ h => h) (Or.inl ⟨by rfl, ?_⟩) ?_ ?_
                     rotate_left
                     ·intro w'
                      go_simp
                      with_reducible rfl
                     rotate_left
                     ·simp only [Act.put, List.setIfInBounds_toArray, List.set_cons_zero, List.set_cons_succ, i64_w, i32_w]
                      rfl
                     refine pure_ (i := 37) (N := some 106) (v := ?_) (a' := ?_) bzd47 rfl rfl (any_of HT_.out (by kernel_rfl)) (fun _ _ _ h => h) (Or.inl ⟨by rfl, ?_⟩) ?_ ?_
                     rotate_left
                     ·intro w'
                      go_simp
                      with_reducible rfl
                     rotate_left
                     ·simp only [Act.put, List.setIfInBounds_toArray, List.set_cons_zero, List.set_cons_succ, i64_w, i32_w]
                      rfl
                     refine pure_ (i := 38) (N := some 107) (v := ?_) (a' := ?_) bzd48 rfl rfl (any_of HT_.out (by kernel_rfl)) (fun _ _ _ h => h) (Or.inl ⟨by rfl, ?_⟩) ?_ ?_
                     rotate_left
                     ·intro w'
                      go_simp
                      with_reducible rfl
                     rotate_left
                     ·simp only [Act.put, List.setIfInBounds_toArray, List.set_cons_zero, List.set_cons_succ, i64_w, i32_w]
                      rfl
                     refine pure_ (i := 39) (N := some 108) (v := ?_) (a' := ?_) bzd49 rfl rfl (any_of HT_.out (by kernel_rfl)) (fun _ _ _ h => h) (Or.inl ⟨by rfl, ?_⟩) ?_ ?_
                     rotate_left
                     ·intro w'
                      go_simp
                      with_reducible rfl
                     rotate_left
                     ·simp only [Act.put, List.setIfInBounds_toArray, List.set_cons_zero, List.set_cons_succ, i64_w, i32_w]
                      rfl
                     refine take_ (i := 35) (N := some 104) (v := ?_) (a' := ?_) bzd40 rfl rfl (take_ofW HT_.out HW_.out (by kernel_rfl)) (fun _ _ _ h => h) (Or.inl ⟨by rfl, ?_⟩) hHeld ?_ ?_
                     rotate_left
                     ·rintro w' ⟨s0, s1, s2, s3, s4, s5, s6, s7, s8, s9, s10, s11, s12, s13, s14, s15, s16⟩
                      go_simp
                      with_reducible rfl
                     rotate_left
                     ·simp only [Act.put, List.setIfInBounds_toArray, List.set_cons_zero, List.set_cons_succ, i64_w, i32_w]
                      rfl
                     refine take_ (i := 40) (N := some 109) (v := ?_) (a' := ?_) bzd41 rfl rfl (take_ofW HT_.out HW_.out (by kernel_rfl)) (fun _ _ _ h => h) (Or.inl ⟨by rfl, ?_⟩) hHeld ?_ ?_
                     rotate_left
                     ·rintro w' ⟨s0, s1, s2, s3, s4, s5, s6, s7, s8, s9, s10, s11, s12, s13, s14, s15, s16⟩
                      go_simp
                      with_reducible rfl
                     rotate_left
                     ·simp only [Act.put, List.setIfInBounds_toArray, List.set_cons_zero, List.set_cons_succ, i64_w, i32_w]
                      rfl
                     refine pure_ (i := 41) (N := some 110) (v := ?_) (a' := ?_) bzd42 rfl rfl (any_of HT_.out (by kernel_rfl)) (fun _ _ _ h => h) (Or.inl ⟨by rfl, ?_⟩) ?_ ?_
                     rotate_left
                     ·intro w'
                      go_simp
                      with_reducible rfl
                     rotate_left
                     ·simp only [Act.put, List.setIfInBounds_toArray, List.set_cons_zero, List.set_cons_succ, i64_w, i32_w]
                      rfl
                     refine pure_ (i := 42) (N := some 111) (v := ?_) (a' := ?_) bzd43 rfl rfl (any_of HT_.out (by kernel_rfl)) (fun _ _ _ h => h) (Or.inl ⟨by rfl, ?_⟩) ?_ ?_
                     rotate_left
                     ·intro w'
                      go_simp
                      with_reducible rfl
                     rotate_left
                     ·simp only [Act.put, List.setIfInBounds_toArray, List.set_cons_zero, List.set_cons_succ, i64_w, i32_w]
                      rfl
                     refine pure_ (i := 43) (N := some 112) (v := ?_) (a' := ?_) bzd44 rfl rfl (any_of HT_.out (by kernel_rfl)) (fun _ _ _ h => h) (Or.inl ⟨by rfl, ?_⟩) ?_ ?_
                     rotate_left
                     ·intro w'
                      go_simp
                      with_reducible rfl
                     rotate_left
                     ·simp only [Act.put, List.setIfInBounds_toArray, List.set_cons_zero, List.set_cons_succ, i64_w, i32_w]
                      rfl
                     refine done_ (done_of HT_.out (by kernel_rfl)) ?_
                     try go_wp2
                     go_roundg k3
                     case measure => have := HK1.out; have := HJ32.out; have := HK3.out; omega
                     case rel => exact ⟨(wrap64 (x15_3 + 1)), (by first | rfl | (simp; done) | (simp [*]; done)), H', ⟨by have := HK1.out; have := HJ32.out; have := HK3.out; omega⟩, ⟨by (with_reducible repeat (first | apply Kd.R_alloc | apply Kd.R_drewN | apply Kd.R_drew)); exact HO_9.out⟩, ⟨by (with_reducible repeat (first | apply Kd.R_alloc | apply Kd.R_drewN | apply Kd.R_drew)); exact HO_11.out⟩, ⟨by (with_reducible repeat (first | apply Kd.S_alloc | apply Kd.S_drewN | apply Kd.S_drew)); exact HO_12.out⟩, ⟨by (with_reducible repeat (first | apply Kd.R_alloc | apply Kd.R_drewN | apply Kd.R_drew)); exact HO_414002.out⟩, ⟨by (with_reducible repeat (first | apply Kd.R_alloc | apply Kd.R_drewN | apply Kd.R_drew)); exact HO_414003.out⟩, ⟨by (with_reducible repeat (first | apply Kd.R_alloc | apply Kd.R_drewN | apply Kd.R_drew)); exact HO_414004.out⟩, ⟨by (with_reducible repeat (first | apply Kd.R_alloc | apply Kd.R_drewN | apply Kd.R_drew)); exact HO_414005.out⟩, ⟨by (with_reducible repeat (first | apply Kd.R_alloc | apply Kd.R_drewN | apply Kd.R_drew)); exact HO_414006.out⟩, ⟨by (with_reducible repeat (first | refine blk_drewN ?_ _ | refine blk_drew ?_ | refine blk_alloc ?_ _)); exact BK413.out⟩, ⟨by repeat (first | (with_reducible first | exact HB.out | apply below_alloc | apply pw_below_drewN | apply below_drew1 | refine below_set ?_ GE413.out) | exact HB.out)⟩⟩
                   ·rw [if_neg c53] at H
                    exact absurd H (by simp)
                  ·rw [if_neg c52] at H
                   exact absurd H (by simp)
                 ·rw [if_neg c50] at H
                  have c50b0 : decide (0 < x15_3) = false := decide_eq_false c50
                  clear c50
                  have H' := Aside0.mk H
                  clear H
                  obtain ⟨Ao59, co59, eo59⟩ := Kd.S_slice HO_12.out
                  subst eo59
                  try go_wp2
                  have n0_ := Aside0.mk (Kd.R_drew HO_9.out)
                  have n1_ := Aside0.mk (Kd.R_drew HO_11.out)
                  have n2_ := Aside0.mk (Kd.S_drew HO_12.out)
                  have n3_ := Aside0.mk (Kd.R_drew HO_414002.out)
                  have n4_ := Aside0.mk (Kd.R_drew HO_414003.out)
                  have n5_ := Aside0.mk (Kd.R_drew HO_414004.out)
                  have n6_ := Aside0.mk (Kd.R_drew HO_414005.out)
                  have n7_ := Aside0.mk (Kd.R_drew HO_414006.out)
                  have n8_ := Aside0.mk (blk_drew BK413.out)
                  have n9_ := Aside0.mk (below_drew1 HB.out)
                  clear HO_9
                  clear HO_11
                  clear HO_12
                  clear HO_414002
                  clear HO_414003
                  clear HO_414004
                  clear HO_414005
                  clear HO_414006
                  clear BK413
                  clear HB
                  have HO_9 := n0_
                  have HO_11 := n1_
                  have HO_12 := n2_
                  have HO_414002 := n3_
                  have HO_414003 := n4_
                  have HO_414004 := n5_
                  have HO_414005 := n6_
                  have HO_414006 := n7_
                  have BK413 := n8_
                  have HB := n9_
                  clear n0_ n1_ n2_ n3_ n4_ n5_ n6_ n7_ n8_ n9_
                  have p429 : 0 ≤ (x15_3 : Int) := of_decide_eq_true (by first | (with_reducible assumption) | assumption)
                  have q429 : x15_3 < (t424.length : Int) := of_decide_eq_true (by first | (with_reducible assumption) | assumption)
                  obtain ⟨ad429, A429_1, c429_1, e429, hx429_0, hx429_1, hl429_1, hi429_1⟩ := at_T48 (Kd.S_reads' HO_12.out).2.2 x15_3 p429 q429
                  cases e429
                  obtain ⟨ce429, hce429, hMe429, hcc429⟩ := Kd.S_get HO_12.out z48 x15_3 p429 (by first | exact q429 | exact of_decide_eq_true (by first | (with_reducible assumption) | assumption) | (have e_ := (Kd.S_reads' HO_12.out).1; omega))
                  obtain ⟨ve429_1, rfl, ge429_1⟩ := k48_openM hMe429
                  have hv429_1 := hcc429 1 _ rfl
                  rw [add_field _ _ 1 (by omega)] at hv429_1
                  replace hv429_1 := Option.some.inj (hv429_1.symm.trans hx429_1)
                  rw [hv429_1] at ge429_1
                  have HL429_1 := Aside0.mk (show Kd.R (Kd.int .i64) 3 _ _ _ _ ((rd_T48 t424 x15_3).f1) from ge429_1)
                  clear hv429_1 ge429_1
                  clear hcc429 hce429
                  have HR429_1 := Aside0.mk hi429_1
                  have HC429_1 := Aside0.mk hl429_1
                  clear hi429_1 hl429_1
                  replace p429 := eq_true p429
                  replace q429 := eq_true q429
                  have p430 : 0 ≤ (x15_3 : Int) := of_decide_eq_true (by first | (with_reducible assumption) | assumption)
                  have q430 : x15_3 < (t424.length : Int) := of_decide_eq_true (by first | (with_reducible assumption) | assumption)
                  obtain ⟨ad430, A430_1, c430_1, e430, hx430_0, hx430_1, hl430_1, hi430_1⟩ := at_T48 (Kd.S_reads' HO_12.out).2.2 x15_3 p430 q430
                  obtain rfl : ad429 = ad430 := (by injection e430)
                  obtain ⟨ce430, hce430, hMe430, hcc430⟩ := Kd.S_get HO_12.out z48 x15_3 p430 (by first | exact q430 | exact of_decide_eq_true (by first | (with_reducible assumption) | assumption) | (have e_ := (Kd.S_reads' HO_12.out).1; omega))
                  obtain ⟨ve430_1, rfl, ge430_1⟩ := k48_openM hMe430
                  have hv430_1 := hcc430 1 _ rfl
                  rw [add_field _ _ 1 (by omega)] at hv430_1
                  replace hv430_1 := Option.some.inj (hv430_1.symm.trans hx430_1)
                  rw [hv430_1] at ge430_1
                  have HL430_1 := Aside0.mk (show Kd.R (Kd.int .i64) 3 _ _ _ _ ((rd_T48 t424 x15_3).f1) from ge430_1)
                  clear hv430_1 ge430_1
                  clear hcc430 hce430
                  have HR430_1 := Aside0.mk hi430_1
                  have HC430_1 := Aside0.mk hl430_1
                  clear hi430_1 hl430_1
                  replace p430 := eq_true p430
                  replace q430 := eq_true q430
                  have ea_ := Option.some.inj (hx429_1.symm.trans hx430_1)
                  injection ea_ with ea_ en_ ec_
                  subst ea_
                  subst ec_
                  clear en_
                  have p431 : 0 ≤ (x15_3 : Int) := of_decide_eq_true (by first | (with_reducible assumption) | assumption)
                  have q431 : x15_3 < (t424.length : Int) := of_decide_eq_true (by first | (with_reducible assumption) | assumption)
                  obtain ⟨ad431, A431_1, c431_1, e431, hx431_0, hx431_1, hl431_1, hi431_1⟩ := at_T48 (Kd.S_reads' HO_12.out).2.2 x15_3 p431 q431
                  obtain rfl : ad429 = ad431 := (by injection e431)
                  obtain ⟨ce431, hce431, hMe431, hcc431⟩ := Kd.S_get HO_12.out z48 x15_3 p431 (by first | exact q431 | exact of_decide_eq_true (by first | (with_reducible assumption) | assumption) | (have e_ := (Kd.S_reads' HO_12.out).1; omega))
                  obtain ⟨ve431_1, rfl, ge431_1⟩ := k48_openM hMe431
                  have hv431_1 := hcc431 1 _ rfl
                  rw [add_field _ _ 1 (by omega)] at hv431_1
                  replace hv431_1 := Option.some.inj (hv431_1.symm.trans hx431_1)
                  rw [hv431_1] at ge431_1
                  have HL431_1 := Aside0.mk (show Kd.R (Kd.int .i64) 3 _ _ _ _ ((rd_T48 t424 x15_3).f1) from ge431_1)
                  clear hv431_1 ge431_1
                  clear hcc431 hce431
                  have HR431_1 := Aside0.mk hi431_1
                  have HC431_1 := Aside0.mk hl431_1
                  clear hi431_1 hl431_1
                  replace p431 := eq_true p431
                  replace q431 := eq_true q431
                  have ea_ := Option.some.inj (hx429_1.symm.trans hx431_1)
                  injection ea_ with ea_ en_ ec_
                  subst ea_
                  subst ec_
                  clear en_
                  refine start_ (n := 44) (S := fun w' => w'.cell? ⟨gb413, 0, none⟩ = some (.int .i64 t396) ∧ w'.cell? ⟨gb413, 1, none⟩ = some (.int .i64 t397) ∧ w'.cell? ⟨gb413, 2, none⟩ = some (.slice Ao18 t398.length co18) ∧ w'.cell? ⟨gb413, 3, none⟩ = some (.slice Ao19 t401.length co19) ∧ w'.cell? ⟨gb413, 4, none⟩ = some (.slice Ao20 t404.length co20) ∧ w'.cell? ⟨gb413, 5, none⟩ = some (.slice Ao21 t407.length co21) ∧ w'.cell? ⟨gb413, 6, none⟩ = some (.slice Ao22 t410.length co22) ∧ w'.cell? (ad429.add ((x15_3).toNat * 2)) = some (.int .i64 ((rd_T48 t424 x15_3).f0)) ∧ w'.cell? ⟨(ad429.add ((x15_3).toNat * 2)).block, (ad429.add ((x15_3).toNat * 2)).off + 1, none⟩ = some (.slice A429_1 ((rd_T48 t424 x15_3).f1).length c429_1) ∧ w'.cell? (ad429.add ((x15_3).toNat * 2)) = some (.int .i64 ((rd_T48 t424 x15_3).f0)) ∧ w'.cell? ⟨(ad429.add ((x15_3).toNat * 2)).block, (ad429.add ((x15_3).toNat * 2)).off + 1, none⟩ = some (.slice A429_1 ((rd_T48 t424 x15_3).f1).length c429_1) ∧ w'.cell? (ad429.add ((x15_3).toNat * 2)) = some (.int .i64 ((rd_T48 t424 x15_3).f0)) ∧ w'.cell? ⟨(ad429.add ((x15_3).toNat * 2)).block, (ad429.add ((x15_3).toNat * 2)).off + 1, none⟩ = some (.slice A429_1 ((rd_T48 t424 x15_3).f1).length c429_1)) (ds := []) bzd0 (by kernel_rfl) rfl rfl ⟨(blk_cell BK413.out 0).trans rfl, (blk_cell BK413.out 1).trans rfl, (blk_cell BK413.out 2).trans rfl, (blk_cell BK413.out 3).trans rfl, (blk_cell BK413.out 4).trans rfl, (blk_cell BK413.out 5).trans rfl, (blk_cell BK413.out 6).trans rfl, hx429_0, hx429_1, hx430_0, hx430_1, hx431_0, hx431_1⟩ (fun hHeld => ?_); refine with_tabW canopylaw4_RunsDepth.tab20 canopylaw4_RunsDepth.bits20 (fun HT_ HW_ => ?_)
                  generalize wr.drew = w60 at HO_9 HO_11 HO_12 HO_414002 HO_414003 HO_414004 HO_414005 HO_414006 BK413 HB HL429_1 HL430_1 HL431_1 HR429_1 HR430_1 HR431_1 hx429_0 hx429_1 hx430_0 hx430_1 hx431_0 hx431_1 hHeld ⊢
                  refine pure_ (i := 0) (N := some 69) (v := ?_) (a' := ?_) bzd1 rfl rfl (any_of HT_.out (by kernel_rfl)) (fun _ _ _ h => h) (Or.inl ⟨by rfl, ?_⟩) ?_ ?_
                  rotate_left
                  ·intro w'
                   go_simp
                   with_reducible rfl
                  rotate_left
                  ·simp only [Act.put, List.setIfInBounds_toArray, List.set_cons_zero, List.set_cons_succ, i64_w, i32_w]
                   rfl
                  refine pure_ (i := 1) (N := some 70) (v := ?_) (a' := ?_) bzd2 rfl rfl (any_of HT_.out (by kernel_rfl)) (fun _ _ _ h => h) (Or.inl ⟨by rfl, ?_⟩) ?_ ?_
                  rotate_left
                  ·intro w'
                   go_simp
                   with_reducible rfl
                  rotate_left
                  ·simp only [Act.put, List.setIfInBounds_toArray, List.set_cons_zero, List.set_cons_succ, i64_w, i32_w]
                   rfl
                  refine pure_ (i := 2) (N := some 71) (v := ?_) (a' := ?_) bzd3 rfl rfl (any_of HT_.out (by kernel_rfl)) (fun _ _ _ h => h) (Or.inl ⟨by rfl, ?_⟩) ?_ ?_
                  rotate_left
                  ·intro w'
                   go_simp
                   with_reducible rfl
                  rotate_left
                  ·simp only [Act.put, List.setIfInBounds_toArray, List.set_cons_zero, List.set_cons_succ, i64_w, i32_w]
                   rfl
                  refine pure_ (i := 3) (N := some 72) (v := ?_) (a' := ?_) bzd4 rfl rfl (any_of HT_.out (by kernel_rfl)) (fun _ _ _ h => h) (Or.inl ⟨by rfl, ?_⟩) ?_ ?_
                  rotate_left
                  ·intro w'
                   go_simp
                   with_reducible rfl
                  rotate_left
                  ·simp only [Act.put, List.setIfInBounds_toArray, List.set_cons_zero, List.set_cons_succ, i64_w, i32_w]
                   rfl
                  refine pure_ (i := 6) (N := some 75) (v := ?_) (a' := ?_) bzd5 rfl rfl (any_of HT_.out (by kernel_rfl)) (fun _ _ _ h => h) (Or.inl ⟨by rfl, ?_⟩) ?_ ?_
                  rotate_left
                  ·intro w'
                   go_simp
                   with_reducible rfl
                  rotate_left
                  ·simp only [Act.put, List.setIfInBounds_toArray, List.set_cons_zero, List.set_cons_succ, i64_w, i32_w]
                   rfl
                  refine take_ (i := 4) (N := some 73) (v := ?_) (a' := ?_) bzd6 rfl rfl (take_ofW HT_.out HW_.out (by kernel_rfl)) (fun _ _ _ h => h) (Or.inl ⟨by rfl, ?_⟩) hHeld ?_ ?_
                  rotate_left
                  ·rintro w' ⟨s0, s1, s2, s3, s4, s5, s6, s7, s8, s9, s10, s11, s12⟩
                   go_simp
                   with_reducible rfl
                  rotate_left
                  ·simp only [Act.put, List.setIfInBounds_toArray, List.set_cons_zero, List.set_cons_succ, i64_w, i32_w]
                   rfl
                  refine pure_ (i := 5) (N := some 74) (v := ?_) (a' := ?_) bzd7 rfl rfl (any_of HT_.out (by kernel_rfl)) (fun _ _ _ h => h) (Or.inl ⟨by rfl, ?_⟩) ?_ ?_
                  rotate_left
                  ·intro w'
                   go_simp
                   with_reducible rfl
                  rotate_left
                  ·simp only [Act.put, List.setIfInBounds_toArray, List.set_cons_zero, List.set_cons_succ, i64_w, i32_w]
                   rfl
                  refine pure_ (i := 7) (N := some 76) (v := ?_) (a' := ?_) bzd8 rfl rfl (any_of HT_.out (by kernel_rfl)) (fun _ _ _ h => h) (Or.inl ⟨by rfl, ?_⟩) ?_ ?_
                  rotate_left
                  ·intro w'
                   go_simp
                   with_reducible rfl
                  rotate_left
                  ·simp only [Act.put, List.setIfInBounds_toArray, List.set_cons_zero, List.set_cons_succ, i64_w, i32_w]
                   rfl
                  refine pure_ (i := 8) (N := some 77) (v := ?_) (a' := ?_) bzd9 rfl rfl (any_of HT_.out (by kernel_rfl)) (fun _ _ _ h => h) (Or.inl ⟨by rfl, ?_⟩) ?_ ?_
                  rotate_left
                  ·intro w'
                   go_simp
                   with_reducible rfl
                  rotate_left
                  ·simp only [Act.put, List.setIfInBounds_toArray, List.set_cons_zero, List.set_cons_succ, i64_w, i32_w]
                   rfl
                  refine pure_ (i := 9) (N := some 78) (v := ?_) (a' := ?_) bzd10 rfl rfl (any_of HT_.out (by kernel_rfl)) (fun _ _ _ h => h) (Or.inl ⟨by rfl, ?_⟩) ?_ ?_
                  rotate_left
                  ·intro w'
                   go_simp
                   with_reducible rfl
                  rotate_left
                  ·simp only [Act.put, List.setIfInBounds_toArray, List.set_cons_zero, List.set_cons_succ, i64_w, i32_w]
                   rfl
                  refine pure_ (i := 10) (N := some 79) (v := ?_) (a' := ?_) bzd11 rfl rfl (any_of HT_.out (by kernel_rfl)) (fun _ _ _ h => h) (Or.inl ⟨by rfl, ?_⟩) ?_ ?_
                  rotate_left
                  ·intro w'
                   go_simp
                   with_reducible rfl
                  rotate_left
                  ·simp only [Act.put, List.setIfInBounds_toArray, List.set_cons_zero, List.set_cons_succ, i64_w, i32_w]
                   rfl
                  refine pure_ (i := 11) (N := some 80) (v := ?_) (a' := ?_) bzd12 rfl rfl (any_of HT_.out (by kernel_rfl)) (fun _ _ _ h => h) (Or.inl ⟨by rfl, ?_⟩) ?_ ?_
                  rotate_left
                  ·intro w'
                   go_simp
                   with_reducible rfl
                  rotate_left
                  ·simp only [Act.put, List.setIfInBounds_toArray, List.set_cons_zero, List.set_cons_succ, i64_w, i32_w]
                   rfl
                  refine pure_ (i := 12) (N := some 81) (v := ?_) (a' := ?_) bzd13 rfl rfl (any_of HT_.out (by kernel_rfl)) (fun _ _ _ h => h) (Or.inl ⟨by rfl, ?_⟩) ?_ ?_
                  rotate_left
                  ·intro w'
                   go_simp
                   with_reducible rfl
                  rotate_left
                  ·simp only [Act.put, List.setIfInBounds_toArray, List.set_cons_zero, List.set_cons_succ, i64_w, i32_w]
                   rfl
                  refine take_ (i := 13) (N := some 82) (v := ?_) (a' := ?_) bzd14 rfl rfl (take_ofW HT_.out HW_.out (by kernel_rfl)) (fun _ _ _ h => h) (Or.inl ⟨by rfl, ?_⟩) hHeld ?_ ?_
                  rotate_left
                  ·rintro w' ⟨s0, s1, s2, s3, s4, s5, s6, s7, s8, s9, s10, s11, s12⟩
                   go_simp
                   with_reducible rfl
                  rotate_left
                  ·simp only [Act.put, List.setIfInBounds_toArray, List.set_cons_zero, List.set_cons_succ, i64_w, i32_w]
                   rfl
                  refine pure_ (i := 14) (N := some 83) (v := ?_) (a' := ?_) bzd15 rfl rfl (any_of HT_.out (by kernel_rfl)) (fun _ _ _ h => h) (Or.inl ⟨by rfl, ?_⟩) ?_ ?_
                  rotate_left
                  ·intro w'
                   go_simp
                   with_reducible rfl
                  rotate_left
                  ·simp only [Act.put, List.setIfInBounds_toArray, List.set_cons_zero, List.set_cons_succ, i64_w, i32_w]
                   rfl
                  refine pure_ (i := 15) (N := some 84) (v := ?_) (a' := ?_) bzd16 rfl rfl (any_of HT_.out (by kernel_rfl)) (fun _ _ _ h => h) (Or.inl ⟨by rfl, ?_⟩) ?_ ?_
                  rotate_left
                  ·intro w'
                   go_simp
                   with_reducible rfl
                  rotate_left
                  ·simp only [Act.put, List.setIfInBounds_toArray, List.set_cons_zero, List.set_cons_succ, i64_w, i32_w]
                   rfl
                  refine pure_ (i := 16) (N := some 85) (v := ?_) (a' := ?_) bzd17 rfl rfl (any_of HT_.out (by kernel_rfl)) (fun _ _ _ h => h) (Or.inl ⟨by rfl, ?_⟩) ?_ ?_
                  rotate_left
                  ·intro w'
                   go_simp
                   with_reducible rfl
                  rotate_left
                  ·simp only [Act.put, List.setIfInBounds_toArray, List.set_cons_zero, List.set_cons_succ, i64_w, i32_w]
                   rfl
                  refine pure_ (i := 17) (N := some 86) (v := ?_) (a' := ?_) bzd18 rfl rfl (any_of HT_.out (by kernel_rfl)) (fun _ _ _ h => h) (Or.inl ⟨by rfl, ?_⟩) ?_ ?_
                  rotate_left
                  ·intro w'
                   go_simp
                   with_reducible rfl
                  rotate_left
                  ·simp only [Act.put, List.setIfInBounds_toArray, List.set_cons_zero, List.set_cons_succ, i64_w, i32_w]
                   rfl
                  refine pure_ (i := 18) (N := some 87) (v := ?_) (a' := ?_) bzd19 rfl rfl (any_of HT_.out (by kernel_rfl)) (fun _ _ _ h => h) (Or.inl ⟨by rfl, ?_⟩) ?_ ?_
                  rotate_left
                  ·intro w'
                   go_simp
                   with_reducible rfl
                  rotate_left
                  ·simp only [Act.put, List.setIfInBounds_toArray, List.set_cons_zero, List.set_cons_succ, i64_w, i32_w]
                   rfl
                  refine pure_ (i := 19) (N := some 88) (v := ?_) (a' := ?_) bzd20 rfl rfl (any_of HT_.out (by kernel_rfl)) (fun _ _ _ h => h) (Or.inl ⟨by rfl, ?_⟩) ?_ ?_
                  rotate_left
                  ·intro w'
                   go_simp
                   with_reducible rfl
                  rotate_left
                  ·simp only [Act.put, List.setIfInBounds_toArray, List.set_cons_zero, List.set_cons_succ, i64_w, i32_w]
                   rfl
                  refine pure_ (i := 20) (N := some 89) (v := ?_) (a' := ?_) bzd21 rfl rfl (any_of HT_.out (by kernel_rfl)) (fun _ _ _ h => h) (Or.inl ⟨by rfl, ?_⟩) ?_ ?_
                  rotate_left
                  ·intro w'
                   go_simp
                   with_reducible rfl
                  rotate_left
                  ·simp only [Act.put, List.setIfInBounds_toArray, List.set_cons_zero, List.set_cons_succ, i64_w, i32_w]
                   rfl
                  refine pure_ (i := 22) (N := some 91) (v := ?_) (a' := ?_) bzd45 rfl rfl (any_of HT_.out (by kernel_rfl)) (fun _ _ _ h => h) (Or.inl ⟨by rfl, ?_⟩) ?_ ?_
                  rotate_left
                  ·intro w'
                   go_simp
                   with_reducible rfl
                  rotate_left
                  ·simp only [Act.put, List.setIfInBounds_toArray, List.set_cons_zero, List.set_cons_succ, i64_w, i32_w]
                   rfl
                  refine take_ (i := 21) (N := some 90) (v := ?_) (a' := ?_) bzd23 rfl rfl (take_ofW HT_.out HW_.out (by kernel_rfl)) (fun _ _ _ h => h) (Or.inl ⟨by rfl, ?_⟩) hHeld ?_ ?_
                  rotate_left
                  ·rintro w' ⟨s0, s1, s2, s3, s4, s5, s6, s7, s8, s9, s10, s11, s12⟩
                   go_simp
                   with_reducible rfl
                  rotate_left
                  ·simp only [Act.put, List.setIfInBounds_toArray, List.set_cons_zero, List.set_cons_succ, i64_w, i32_w]
                   rfl
                  refine take_ (i := 23) (N := some 92) (v := ?_) (a' := ?_) bzd24 rfl rfl (take_ofW HT_.out HW_.out (by kernel_rfl)) (fun _ _ _ h => h) (Or.inl ⟨by rfl, ?_⟩) hHeld ?_ ?_
                  rotate_left
                  ·rintro w' ⟨s0, s1, s2, s3, s4, s5, s6, s7, s8, s9, s10, s11, s12⟩
                   go_simp
                   with_reducible rfl
                  rotate_left
                  ·simp only [Act.put, List.setIfInBounds_toArray, List.set_cons_zero, List.set_cons_succ, i64_w, i32_w]
                   rfl
                  refine pure_ (i := 24) (N := some 93) (v := ?_) (a' := ?_) bzd25 rfl rfl (any_of HT_.out (by kernel_rfl)) (fun _ _ _ h => h) (Or.inl ⟨by rfl, ?_⟩) ?_ ?_
                  rotate_left
                  ·intro w'
                   go_simp
                   with_reducible rfl
                  rotate_left
                  ·simp only [Act.put, List.setIfInBounds_toArray, List.set_cons_zero, List.set_cons_succ, i64_w, i32_w]
                   rfl
                  refine pure_ (i := 25) (N := some 94) (v := ?_) (a' := ?_) bzd26 rfl rfl (any_of HT_.out (by kernel_rfl)) (fun _ _ _ h => h) (Or.inl ⟨by rfl, ?_⟩) ?_ ?_
                  rotate_left
                  ·intro w'
                   go_simp
                   with_reducible rfl
                  rotate_left
                  ·simp only [Act.put, List.setIfInBounds_toArray, List.set_cons_zero, List.set_cons_succ, i64_w, i32_w]
                   rfl
                  refine pure_ (i := 26) (N := some 95) (v := ?_) (a' := ?_) bzd27 rfl rfl (any_of HT_.out (by kernel_rfl)) (fun _ _ _ h => h) (Or.inl ⟨by rfl, ?_⟩) ?_ ?_
                  rotate_left
                  ·intro w'
                   go_simp
                   with_reducible rfl
                  rotate_left
                  ·simp only [Act.put, List.setIfInBounds_toArray, List.set_cons_zero, List.set_cons_succ, i64_w, i32_w]
                   rfl
                  refine pure_ (i := 27) (N := some 96) (v := ?_) (a' := ?_) bzd28 rfl rfl (any_of HT_.out (by kernel_rfl)) (fun _ _ _ h => h) (Or.inl ⟨by rfl, ?_⟩) ?_ ?_
                  rotate_left
                  ·intro w'
                   go_simp
                   with_reducible rfl
                  rotate_left
                  ·simp only [Act.put, List.setIfInBounds_toArray, List.set_cons_zero, List.set_cons_succ, i64_w, i32_w]
                   rfl
                  refine pure_ (i := 28) (N := some 97) (v := ?_) (a' := ?_) bzd29 rfl rfl (any_of HT_.out (by kernel_rfl)) (fun _ _ _ h => h) (Or.inl ⟨by rfl, ?_⟩) ?_ ?_
                  rotate_left
                  ·intro w'
                   go_simp
                   with_reducible rfl
                  rotate_left
                  ·simp only [Act.put, List.setIfInBounds_toArray, List.set_cons_zero, List.set_cons_succ, i64_w, i32_w]
                   rfl
                  refine pure_ (i := 29) (N := some 98) (v := ?_) (a' := ?_) bzd30 rfl rfl (any_of HT_.out (by kernel_rfl)) (fun _ _ _ h => h) (Or.inl ⟨by rfl, ?_⟩) ?_ ?_
                  rotate_left
                  ·intro w'
                   go_simp
                   with_reducible rfl
                  rotate_left
                  ·simp only [Act.put, List.setIfInBounds_toArray, List.set_cons_zero, List.set_cons_succ, i64_w, i32_w]
                   rfl
                  refine pure_ (i := 30) (N := some 99) (v := undef) (a' := ?_) bzd31 rfl rfl (any_of HT_.out (by kernel_rfl)) (fun _ _ _ h => h) (Or.inr ⟨by rfl, rfl⟩) ?_ ?_
                  rotate_left
                  ·simp only [Act.put, List.setIfInBounds_toArray, List.set_cons_zero, List.set_cons_succ, i64_w, i32_w]
                   rfl
                  refine pure_ (i := 31) (N := some 100) (v := undef) (a' := ?_) bzd32 rfl rfl (any_of HT_.out (by kernel_rfl)) (fun _ _ _ h => h) (Or.inr ⟨by rfl, rfl⟩) ?_ ?_
                  rotate_left
                  ·simp only [Act.put, List.setIfInBounds_toArray, List.set_cons_zero, List.set_cons_succ, i64_w, i32_w]
                   rfl
                  refine pure_ (i := 32) (N := some 101) (v := undef) (a' := ?_) bzd33 rfl rfl (any_of HT_.out (by kernel_rfl)) (fun _ _ _ h => h) (Or.inr ⟨by rfl, rfl⟩) ?_ ?_
                  rotate_left
                  ·simp only [Act.put, List.setIfInBounds_toArray, List.set_cons_zero, List.set_cons_succ, i64_w, i32_w]
                   rfl
                  refine pure_ (i := 33) (N := some 102) (v := undef) (a' := ?_) bzd34 rfl rfl (any_of HT_.out (by kernel_rfl)) (fun _ _ _ h => h) (Or.inr ⟨by rfl, rfl⟩) ?_ ?_
                  rotate_left
                  ·simp only [Act.put, List.setIfInBounds_toArray, List.set_cons_zero, List.set_cons_succ, i64_w, i32_w]
                   rfl
                  refine pure_ (i := 34) (N := some 103) (v := undef) (a' := ?_) bzd35 rfl rfl (any_of HT_.out (by kernel_rfl)) (fun _ _ _ h => h) (Or.inr ⟨by rfl, rfl⟩) ?_ ?_
                  rotate_left
                  ·simp only [Act.put, List.setIfInBounds_toArray, List.set_cons_zero, List.set_cons_succ, i64_w, i32_w]
                   rfl
                  refine pure_ (i := 35) (N := some 104) (v := undef) (a' := ?_) bzd36 rfl rfl (any_of HT_.out (by kernel_rfl)) (fun _ _ _ h => h) (Or.inr ⟨by rfl, rfl⟩) ?_ ?_
                  rotate_left
                  ·simp only [Act.put, List.setIfInBounds_toArray, List.set_cons_zero, List.set_cons_succ, i64_w, i32_w]
                   rfl
                  refine pure_ (i := 36) (N := some 105) (v := undef) (a' := ?_) bzd37 rfl rfl (any_of HT_.out (by kernel_rfl)) (fun _ _ _ h => h) (Or.inr ⟨by rfl, rfl⟩) ?_ ?_
                  rotate_left
                  ·simp only [Act.put, List.setIfInBounds_toArray, List.set_cons_zero, List.set_cons_succ, i64_w, i32_w]
                   rfl
                  refine pure_ (i := 37) (N := some 106) (v := undef) (a' := ?_) bzd38 rfl rfl (any_of HT_.out (by kernel_rfl)) (fun _ _ _ h => h) (Or.inr ⟨by rfl, rfl⟩) ?_ ?_
                  rotate_left
                  ·simp only [Act.put, List.setIfInBounds_toArray, List.set_cons_zero, List.set_cons_succ, i64_w, i32_w]
                   rfl
                  refine pure_ (i := 38) (N := some 107) (v := undef) (a' := ?_) bzd39 rfl rfl (any_of HT_.out (by kernel_rfl)) (fun _ _ _ h => h) (Or.inr ⟨by rfl, rfl⟩) ?_ ?_
                  rotate_left
                  ·simp only [Act.put, List.setIfInBounds_toArray, List.set_cons_zero, List.set_cons_succ, i64_w, i32_w]
                   rfl
                  refine pure_ (i := 39) (N := some 108) (v := undef) (a' := ?_) bzd40 rfl rfl (any_of HT_.out (by kernel_rfl)) (fun _ _ _ h => h) (Or.inr ⟨by rfl, rfl⟩) ?_ ?_
                  rotate_left
                  ·simp only [Act.put, List.setIfInBounds_toArray, List.set_cons_zero, List.set_cons_succ, i64_w, i32_w]
                   rfl
                  refine pure_ (i := 40) (N := some 109) (v := undef) (a' := ?_) bzd41 rfl rfl (any_of HT_.out (by kernel_rfl)) (fun _ _ _ h => h) (Or.inr ⟨by rfl, rfl⟩) ?_ ?_
                  rotate_left
                  ·simp only [Act.put, List.setIfInBounds_toArray, List.set_cons_zero, List.set_cons_succ, i64_w, i32_w]
                   rfl
                  refine pure_ (i := 41) (N := some 110) (v := undef) (a' := ?_) bzd42 rfl rfl (any_of HT_.out (by kernel_rfl)) (fun _ _ _ h => h) (Or.inr ⟨by rfl, rfl⟩) ?_ ?_
                  rotate_left
                  ·simp only [Act.put, List.setIfInBounds_toArray, List.set_cons_zero, List.set_cons_succ, i64_w, i32_w]
                   rfl
                  refine pure_ (i := 42) (N := some 111) (v := ?_) (a' := ?_) bzd43 rfl rfl (any_of HT_.out (by kernel_rfl)) (fun _ _ _ h => h) (Or.inl ⟨by rfl, ?_⟩) ?_ ?_
                  rotate_left
                  ·intro w'
                   go_simp
                   with_reducible rfl
                  rotate_left
                  ·simp only [Act.put, List.setIfInBounds_toArray, List.set_cons_zero, List.set_cons_succ, i64_w, i32_w]
                   rfl
                  refine pure_ (i := 43) (N := some 112) (v := ?_) (a' := ?_) bzd44 rfl rfl (any_of HT_.out (by kernel_rfl)) (fun _ _ _ h => h) (Or.inl ⟨by rfl, ?_⟩) ?_ ?_
                  rotate_left
                  ·intro w'
                   go_simp
                   with_reducible rfl
                  rotate_left
                  ·simp only [Act.put, List.setIfInBounds_toArray, List.set_cons_zero, List.set_cons_succ, i64_w, i32_w]
                   rfl
                  refine done_ (done_of HT_.out (by kernel_rfl)) ?_
                  try go_wp2
                  go_roundg k3
                  case measure => have := HK1.out; have := HJ32.out; have := HK3.out; omega
                  case rel => exact ⟨(wrap64 (x15_3 + 1)), (by first | rfl | (simp; done) | (simp [*]; done)), H', ⟨by have := HK1.out; have := HJ32.out; have := HK3.out; omega⟩, ⟨by (with_reducible repeat (first | apply Kd.R_alloc | apply Kd.R_drewN | apply Kd.R_drew)); exact HO_9.out⟩, ⟨by (with_reducible repeat (first | apply Kd.R_alloc | apply Kd.R_drewN | apply Kd.R_drew)); exact HO_11.out⟩, ⟨by (with_reducible repeat (first | apply Kd.S_alloc | apply Kd.S_drewN | apply Kd.S_drew)); exact HO_12.out⟩, ⟨by (with_reducible repeat (first | apply Kd.R_alloc | apply Kd.R_drewN | apply Kd.R_drew)); exact HO_414002.out⟩, ⟨by (with_reducible repeat (first | apply Kd.R_alloc | apply Kd.R_drewN | apply Kd.R_drew)); exact HO_414003.out⟩, ⟨by (with_reducible repeat (first | apply Kd.R_alloc | apply Kd.R_drewN | apply Kd.R_drew)); exact HO_414004.out⟩, ⟨by (with_reducible repeat (first | apply Kd.R_alloc | apply Kd.R_drewN | apply Kd.R_drew)); exact HO_414005.out⟩, ⟨by (with_reducible repeat (first | apply Kd.R_alloc | apply Kd.R_drewN | apply Kd.R_drew)); exact HO_414006.out⟩, ⟨by (with_reducible repeat (first | refine blk_drewN ?_ _ | refine blk_drew ?_ | refine blk_alloc ?_ _)); exact BK413.out⟩, ⟨by repeat (first | (with_reducible first | exact HB.out | apply below_alloc | apply pw_below_drewN | apply below_drew1 | refine below_set ?_ GE413.out) | exact HB.out)⟩⟩
              ·rw [if_neg c43] at H
               have c43b0 : ((((rd_T48 t424 x15_3).f1).length : Int) == x13_32) = false := beq_eq_false_iff_ne.mpr c43
               have c43b1 : ((((rd_T48 t424 x15_3).f1).length : Int) != x13_32) = true := bne_iff_ne.mpr c43
               obtain rfl := Option.some.inj H
               obtain ⟨Ao61, co61, eo61⟩ := Kd.S_slice HO_12.out
               subst eo61
               try go_wp2
               have n0_ := Aside0.mk (Kd.R_drew HO_9.out)
               have n1_ := Aside0.mk (Kd.R_drew HO_11.out)
               have n2_ := Aside0.mk (Kd.S_drew HO_12.out)
               have n3_ := Aside0.mk (Kd.R_drew HO_414002.out)
               have n4_ := Aside0.mk (Kd.R_drew HO_414003.out)
               have n5_ := Aside0.mk (Kd.R_drew HO_414004.out)
               have n6_ := Aside0.mk (Kd.R_drew HO_414005.out)
               have n7_ := Aside0.mk (Kd.R_drew HO_414006.out)
               have n8_ := Aside0.mk (blk_drew BK413.out)
               have n9_ := Aside0.mk (below_drew1 HB.out)
               clear HO_9
               clear HO_11
               clear HO_12
               clear HO_414002
               clear HO_414003
               clear HO_414004
               clear HO_414005
               clear HO_414006
               clear BK413
               clear HB
               have HO_9 := n0_
               have HO_11 := n1_
               have HO_12 := n2_
               have HO_414002 := n3_
               have HO_414003 := n4_
               have HO_414004 := n5_
               have HO_414005 := n6_
               have HO_414006 := n7_
               have BK413 := n8_
               have HB := n9_
               clear n0_ n1_ n2_ n3_ n4_ n5_ n6_ n7_ n8_ n9_
               have p429 : 0 ≤ (x15_3 : Int) := of_decide_eq_true (by first | (with_reducible assumption) | assumption)
               have q429 : x15_3 < (t424.length : Int) := of_decide_eq_true (by first | (with_reducible assumption) | assumption)
               obtain ⟨ad429, A429_1, c429_1, e429, hx429_0, hx429_1, hl429_1, hi429_1⟩ := at_T48 (Kd.S_reads' HO_12.out).2.2 x15_3 p429 q429
               cases e429
               obtain ⟨ce429, hce429, hMe429, hcc429⟩ := Kd.S_get HO_12.out z48 x15_3 p429 (by first | exact q429 | exact of_decide_eq_true (by first | (with_reducible assumption) | assumption) | (have e_ := (Kd.S_reads' HO_12.out).1; omega))
               obtain ⟨ve429_1, rfl, ge429_1⟩ := k48_openM hMe429
               have hv429_1 := hcc429 1 _ rfl
               rw [add_field _ _ 1 (by omega)] at hv429_1
               replace hv429_1 := Option.some.inj (hv429_1.symm.trans hx429_1)
               rw [hv429_1] at ge429_1
               have HL429_1 := Aside0.mk (show Kd.R (Kd.int .i64) 3 _ _ _ _ ((rd_T48 t424 x15_3).f1) from ge429_1)
               clear hv429_1 ge429_1
               clear hcc429 hce429
               have HR429_1 := Aside0.mk hi429_1
               have HC429_1 := Aside0.mk hl429_1
               clear hi429_1 hl429_1
               replace p429 := eq_true p429
               replace q429 := eq_true q429
               refine start_ (n := 44) (S := fun w' => w'.cell? (ad429.add ((x15_3).toNat * 2)) = some (.int .i64 ((rd_T48 t424 x15_3).f0)) ∧ w'.cell? ⟨(ad429.add ((x15_3).toNat * 2)).block, (ad429.add ((x15_3).toNat * 2)).off + 1, none⟩ = some (.slice A429_1 ((rd_T48 t424 x15_3).f1).length c429_1)) (ds := []) bzd0 (by kernel_rfl) rfl rfl ⟨hx429_0, hx429_1⟩ (fun hHeld => ?_); refine with_tabW canopylaw4_RunsDepth.tab20 canopylaw4_RunsDepth.bits20 (fun HT_ HW_ => ?_)
               generalize wr.drew = w62 at HO_9 HO_11 HO_12 HO_414002 HO_414003 HO_414004 HO_414005 HO_414006 BK413 HB HL429_1 HR429_1 hx429_0 hx429_1 hHeld ⊢
               refine pure_ (i := 0) (N := some 69) (v := ?_) (a' := ?_) bzd1 rfl rfl (any_of HT_.out (by kernel_rfl)) (fun _ _ _ h => h) (Or.inl ⟨by rfl, ?_⟩) ?_ ?_
               rotate_left
               ·intro w'
                go_simp
                with_reducible rfl
               rotate_left
               ·simp only [Act.put, List.setIfInBounds_toArray, List.set_cons_zero, List.set_cons_succ, i64_w, i32_w]
                rfl
               refine pure_ (i := 1) (N := some 70) (v := ?_) (a' := ?_) bzd2 rfl rfl (any_of HT_.out (by kernel_rfl)) (fun _ _ _ h => h) (Or.inl ⟨by rfl, ?_⟩) ?_ ?_
               rotate_left
               ·intro w'
                go_simp
                with_reducible rfl
               rotate_left
               ·simp only [Act.put, List.setIfInBounds_toArray, List.set_cons_zero, List.set_cons_succ, i64_w, i32_w]
                rfl
               refine pure_ (i := 2) (N := some 71) (v := ?_) (a' := ?_) bzd3 rfl rfl (any_of HT_.out (by kernel_rfl)) (fun _ _ _ h => h) (Or.inl ⟨by rfl, ?_⟩) ?_ ?_
               rotate_left
               ·intro w'
                go_simp
                with_reducible rfl
               rotate_left
               ·simp only [Act.put, List.setIfInBounds_toArray, List.set_cons_zero, List.set_cons_succ, i64_w, i32_w]
                rfl
               refine pure_ (i := 3) (N := some 72) (v := ?_) (a' := ?_) bzd4 rfl rfl (any_of HT_.out (by kernel_rfl)) (fun _ _ _ h => h) (Or.inl ⟨by rfl, ?_⟩) ?_ ?_
               rotate_left
               ·intro w'
                go_simp
                with_reducible rfl
               rotate_left
               ·simp only [Act.put, List.setIfInBounds_toArray, List.set_cons_zero, List.set_cons_succ, i64_w, i32_w]
                rfl
               refine pure_ (i := 6) (N := some 75) (v := ?_) (a' := ?_) bzd5 rfl rfl (any_of HT_.out (by kernel_rfl)) (fun _ _ _ h => h) (Or.inl ⟨by rfl, ?_⟩) ?_ ?_
               rotate_left
               ·intro w'
                go_simp
                with_reducible rfl
               rotate_left
               ·simp only [Act.put, List.setIfInBounds_toArray, List.set_cons_zero, List.set_cons_succ, i64_w, i32_w]
                rfl
               refine take_ (i := 4) (N := some 73) (v := ?_) (a' := ?_) bzd6 rfl rfl (take_ofW HT_.out HW_.out (by kernel_rfl)) (fun _ _ _ h => h) (Or.inl ⟨by rfl, ?_⟩) hHeld ?_ ?_
               rotate_left
               ·rintro w' ⟨s0, s1⟩
                go_simp
                with_reducible rfl
               rotate_left
               ·simp only [Act.put, List.setIfInBounds_toArray, List.set_cons_zero, List.set_cons_succ, i64_w, i32_w]
                rfl
               refine pure_ (i := 5) (N := some 74) (v := ?_) (a' := ?_) bzd7 rfl rfl (any_of HT_.out (by kernel_rfl)) (fun _ _ _ h => h) (Or.inl ⟨by rfl, ?_⟩) ?_ ?_
               rotate_left
               ·intro w'
                go_simp
                with_reducible rfl
               rotate_left
               ·simp only [Act.put, List.setIfInBounds_toArray, List.set_cons_zero, List.set_cons_succ, i64_w, i32_w]
                rfl
               refine pure_ (i := 7) (N := some 76) (v := ?_) (a' := ?_) bzd8 rfl rfl (any_of HT_.out (by kernel_rfl)) (fun _ _ _ h => h) (Or.inl ⟨by rfl, ?_⟩) ?_ ?_
               rotate_left
               ·intro w'
                go_simp
                with_reducible rfl
               rotate_left
               ·simp only [Act.put, List.setIfInBounds_toArray, List.set_cons_zero, List.set_cons_succ, i64_w, i32_w]
                rfl
               refine pure_ (i := 8) (N := some 77) (v := ?_) (a' := ?_) bzd9 rfl rfl (any_of HT_.out (by kernel_rfl)) (fun _ _ _ h => h) (Or.inl ⟨by rfl, ?_⟩) ?_ ?_
               rotate_left
               ·intro w'
                go_simp
                with_reducible rfl
               rotate_left
               ·simp only [Act.put, List.setIfInBounds_toArray, List.set_cons_zero, List.set_cons_succ, i64_w, i32_w]
                rfl
               refine pure_ (i := 9) (N := some 78) (v := undef) (a' := ?_) bzd10 rfl rfl (any_of HT_.out (by kernel_rfl)) (fun _ _ _ h => h) (Or.inr ⟨by rfl, rfl⟩) ?_ ?_
               rotate_left
               ·simp only [Act.put, List.setIfInBounds_toArray, List.set_cons_zero, List.set_cons_succ, i64_w, i32_w]
                rfl
               refine pure_ (i := 10) (N := some 79) (v := undef) (a' := ?_) bzd11 rfl rfl (any_of HT_.out (by kernel_rfl)) (fun _ _ _ h => h) (Or.inr ⟨by rfl, rfl⟩) ?_ ?_
               rotate_left
               ·simp only [Act.put, List.setIfInBounds_toArray, List.set_cons_zero, List.set_cons_succ, i64_w, i32_w]
                rfl
               refine pure_ (i := 11) (N := some 80) (v := undef) (a' := ?_) bzd12 rfl rfl (any_of HT_.out (by kernel_rfl)) (fun _ _ _ h => h) (Or.inr ⟨by rfl, rfl⟩) ?_ ?_
               rotate_left
               ·simp only [Act.put, List.setIfInBounds_toArray, List.set_cons_zero, List.set_cons_succ, i64_w, i32_w]
                rfl
               refine pure_ (i := 12) (N := some 81) (v := undef) (a' := ?_) bzd13 rfl rfl (any_of HT_.out (by kernel_rfl)) (fun _ _ _ h => h) (Or.inr ⟨by rfl, rfl⟩) ?_ ?_
               rotate_left
               ·simp only [Act.put, List.setIfInBounds_toArray, List.set_cons_zero, List.set_cons_succ, i64_w, i32_w]
                rfl
               refine pure_ (i := 13) (N := some 82) (v := undef) (a' := ?_) bzd14 rfl rfl (any_of HT_.out (by kernel_rfl)) (fun _ _ _ h => h) (Or.inr ⟨by rfl, rfl⟩) ?_ ?_
               rotate_left
               ·simp only [Act.put, List.setIfInBounds_toArray, List.set_cons_zero, List.set_cons_succ, i64_w, i32_w]
                rfl
               refine pure_ (i := 14) (N := some 83) (v := undef) (a' := ?_) bzd15 rfl rfl (any_of HT_.out (by kernel_rfl)) (fun _ _ _ h => h) (Or.inr ⟨by rfl, rfl⟩) ?_ ?_
               rotate_left
               ·simp only [Act.put, List.setIfInBounds_toArray, List.set_cons_zero, List.set_cons_succ, i64_w, i32_w]
                rfl
               refine pure_ (i := 15) (N := some 84) (v := ?_) (a' := ?_) bzd16 rfl rfl (any_of HT_.out (by kernel_rfl)) (fun _ _ _ h => h) (Or.inl ⟨by rfl, ?_⟩) ?_ ?_
               rotate_left
               ·intro w'
                go_simp
                with_reducible rfl
               rotate_left
               ·simp only [Act.put, List.setIfInBounds_toArray, List.set_cons_zero, List.set_cons_succ, i64_w, i32_w]
                rfl
               refine pure_ (i := 16) (N := some 85) (v := ?_) (a' := ?_) bzd17 rfl rfl (any_of HT_.out (by kernel_rfl)) (fun _ _ _ h => h) (Or.inl ⟨by rfl, ?_⟩) ?_ ?_
               rotate_left
               ·intro w'
                go_simp
                with_reducible rfl
               rotate_left
               ·simp only [Act.put, List.setIfInBounds_toArray, List.set_cons_zero, List.set_cons_succ, i64_w, i32_w]
                rfl
               refine pure_ (i := 17) (N := some 86) (v := undef) (a' := ?_) bzd18 rfl rfl (any_of HT_.out (by kernel_rfl)) (fun _ _ _ h => h) (Or.inr ⟨by rfl, rfl⟩) ?_ ?_
               rotate_left
               ·simp only [Act.put, List.setIfInBounds_toArray, List.set_cons_zero, List.set_cons_succ, i64_w, i32_w]
                rfl
               refine pure_ (i := 18) (N := some 87) (v := undef) (a' := ?_) bzd19 rfl rfl (any_of HT_.out (by kernel_rfl)) (fun _ _ _ h => h) (Or.inr ⟨by rfl, rfl⟩) ?_ ?_
               rotate_left
               ·simp only [Act.put, List.setIfInBounds_toArray, List.set_cons_zero, List.set_cons_succ, i64_w, i32_w]
                rfl
               refine pure_ (i := 19) (N := some 88) (v := undef) (a' := ?_) bzd20 rfl rfl (any_of HT_.out (by kernel_rfl)) (fun _ _ _ h => h) (Or.inr ⟨by rfl, rfl⟩) ?_ ?_
               rotate_left
               ·simp only [Act.put, List.setIfInBounds_toArray, List.set_cons_zero, List.set_cons_succ, i64_w, i32_w]
                rfl
               refine pure_ (i := 20) (N := some 89) (v := undef) (a' := ?_) bzd21 rfl rfl (any_of HT_.out (by kernel_rfl)) (fun _ _ _ h => h) (Or.inr ⟨by rfl, rfl⟩) ?_ ?_
               rotate_left
               ·simp only [Act.put, List.setIfInBounds_toArray, List.set_cons_zero, List.set_cons_succ, i64_w, i32_w]
                rfl
               refine pure_ (i := 21) (N := some 90) (v := undef) (a' := ?_) bzd22 rfl rfl (any_of HT_.out (by kernel_rfl)) (fun _ _ _ h => h) (Or.inr ⟨by rfl, rfl⟩) ?_ ?_
               rotate_left
               ·simp only [Act.put, List.setIfInBounds_toArray, List.set_cons_zero, List.set_cons_succ, i64_w, i32_w]
                rfl
               refine pure_ (i := 22) (N := some 91) (v := undef) (a' := ?_) bzd23 rfl rfl (any_of HT_.out (by kernel_rfl)) (fun _ _ _ h => h) (Or.inr ⟨by rfl, rfl⟩) ?_ ?_
               rotate_left
               ·simp only [Act.put, List.setIfInBounds_toArray, List.set_cons_zero, List.set_cons_succ, i64_w, i32_w]
                rfl
               refine pure_ (i := 23) (N := some 92) (v := undef) (a' := ?_) bzd24 rfl rfl (any_of HT_.out (by kernel_rfl)) (fun _ _ _ h => h) (Or.inr ⟨by rfl, rfl⟩) ?_ ?_
               rotate_left
               ·simp only [Act.put, List.setIfInBounds_toArray, List.set_cons_zero, List.set_cons_succ, i64_w, i32_w]
                rfl
               refine pure_ (i := 24) (N := some 93) (v := undef) (a' := ?_) bzd25 rfl rfl (any_of HT_.out (by kernel_rfl)) (fun _ _ _ h => h) (Or.inr ⟨by rfl, rfl⟩) ?_ ?_
               rotate_left
               ·simp only [Act.put, List.setIfInBounds_toArray, List.set_cons_zero, List.set_cons_succ, i64_w, i32_w]
                rfl
               refine pure_ (i := 25) (N := some 94) (v := ?_) (a' := ?_) bzd26 rfl rfl (any_of HT_.out (by kernel_rfl)) (fun _ _ _ h => h) (Or.inl ⟨by rfl, ?_⟩) ?_ ?_
               rotate_left
               ·intro w'
                go_simp
                with_reducible rfl
               rotate_left
               ·simp only [Act.put, List.setIfInBounds_toArray, List.set_cons_zero, List.set_cons_succ, i64_w, i32_w]
                rfl
               refine pure_ (i := 26) (N := some 95) (v := ?_) (a' := ?_) bzd27 rfl rfl (any_of HT_.out (by kernel_rfl)) (fun _ _ _ h => h) (Or.inl ⟨by rfl, ?_⟩) ?_ ?_
               rotate_left
               ·intro w'
                go_simp
                with_reducible rfl
               rotate_left
               ·simp only [Act.put, List.setIfInBounds_toArray, List.set_cons_zero, List.set_cons_succ, i64_w, i32_w]
                rfl
               refine pure_ (i := 27) (N := some 96) (v := undef) (a' := ?_) bzd28 rfl rfl (any_of HT_.out (by kernel_rfl)) (fun _ _ _ h => h) (Or.inr ⟨by rfl, rfl⟩) ?_ ?_
               rotate_left
               ·simp only [Act.put, List.setIfInBounds_toArray, List.set_cons_zero, List.set_cons_succ, i64_w, i32_w]
                rfl
               refine pure_ (i := 28) (N := some 97) (v := undef) (a' := ?_) bzd29 rfl rfl (any_of HT_.out (by kernel_rfl)) (fun _ _ _ h => h) (Or.inr ⟨by rfl, rfl⟩) ?_ ?_
               rotate_left
               ·simp only [Act.put, List.setIfInBounds_toArray, List.set_cons_zero, List.set_cons_succ, i64_w, i32_w]
                rfl
               refine pure_ (i := 29) (N := some 98) (v := undef) (a' := ?_) bzd30 rfl rfl (any_of HT_.out (by kernel_rfl)) (fun _ _ _ h => h) (Or.inr ⟨by rfl, rfl⟩) ?_ ?_
               rotate_left
               ·simp only [Act.put, List.setIfInBounds_toArray, List.set_cons_zero, List.set_cons_succ, i64_w, i32_w]
                rfl
               refine pure_ (i := 30) (N := some 99) (v := undef) (a' := ?_) bzd31 rfl rfl (any_of HT_.out (by kernel_rfl)) (fun _ _ _ h => h) (Or.inr ⟨by rfl, rfl⟩) ?_ ?_
               rotate_left
               ·simp only [Act.put, List.setIfInBounds_toArray, List.set_cons_zero, List.set_cons_succ, i64_w, i32_w]
                rfl
               refine pure_ (i := 31) (N := some 100) (v := undef) (a' := ?_) bzd32 rfl rfl (any_of HT_.out (by kernel_rfl)) (fun _ _ _ h => h) (Or.inr ⟨by rfl, rfl⟩) ?_ ?_
               rotate_left
               ·simp only [Act.put, List.setIfInBounds_toArray, List.set_cons_zero, List.set_cons_succ, i64_w, i32_w]
                rfl
               refine pure_ (i := 32) (N := some 101) (v := undef) (a' := ?_) bzd33 rfl rfl (any_of HT_.out (by kernel_rfl)) (fun _ _ _ h => h) (Or.inr ⟨by rfl, rfl⟩) ?_ ?_
               rotate_left
               ·simp only [Act.put, List.setIfInBounds_toArray, List.set_cons_zero, List.set_cons_succ, i64_w, i32_w]
                rfl
               refine pure_ (i := 33) (N := some 102) (v := undef) (a' := ?_) bzd34 rfl rfl (any_of HT_.out (by kernel_rfl)) (fun _ _ _ h => h) (Or.inr ⟨by rfl, rfl⟩) ?_ ?_
               rotate_left
               ·simp only [Act.put, List.setIfInBounds_toArray, List.set_cons_zero, List.set_cons_succ, i64_w, i32_w]
                rfl
               refine pure_ (i := 34) (N := some 103) (v := undef) (a' := ?_) bzd35 rfl rfl (any_of HT_.out (by kernel_rfl)) (fun _ _ _ h => h) (Or.inr ⟨by rfl, rfl⟩) ?_ ?_
               rotate_left
               ·simp only [Act.put, List.setIfInBounds_toArray, List.set_cons_zero, List.set_cons_succ, i64_w, i32_w]
                rfl
               refine pure_ (i := 35) (N := some 104) (v := undef) (a' := ?_) bzd36 rfl rfl (any_of HT_.out (by kernel_rfl)) (fun _ _ _ h => h) (Or.inr ⟨by rfl, rfl⟩) ?_ ?_
               rotate_left
               ·simp only [Act.put, List.setIfInBounds_toArray, List.set_cons_zero, List.set_cons_succ, i64_w, i32_w]
                rfl
               refine pure_ (i := 36) (N := some 105) (v := undef) (a' := ?_) bzd37 rfl rfl (any_of HT_.out (by kernel_rfl)) (fun _ _ _ h => h) (Or.inr ⟨by rfl, rfl⟩) ?_ ?_
               rotate_left
               ·simp only [Act.put, List.setIfInBounds_toArray, List.set_cons_zero, List.set_cons_succ, i64_w, i32_w]
                rfl
               refine pure_ (i := 37) (N := some 106) (v := undef) (a' := ?_) bzd38 rfl rfl (any_of HT_.out (by kernel_rfl)) (fun _ _ _ h => h) (Or.inr ⟨by rfl, rfl⟩) ?_ ?_
               rotate_left
               ·simp only [Act.put, List.setIfInBounds_toArray, List.set_cons_zero, List.set_cons_succ, i64_w, i32_w]
                rfl
               refine pure_ (i := 38) (N := some 107) (v := undef) (a' := ?_) bzd39 rfl rfl (any_of HT_.out (by kernel_rfl)) (fun _ _ _ h => h) (Or.inr ⟨by rfl, rfl⟩) ?_ ?_
               rotate_left
               ·simp only [Act.put, List.setIfInBounds_toArray, List.set_cons_zero, List.set_cons_succ, i64_w, i32_w]
                rfl
               refine pure_ (i := 39) (N := some 108) (v := undef) (a' := ?_) bzd40 rfl rfl (any_of HT_.out (by kernel_rfl)) (fun _ _ _ h => h) (Or.inr ⟨by rfl, rfl⟩) ?_ ?_
               rotate_left
               ·simp only [Act.put, List.setIfInBounds_toArray, List.set_cons_zero, List.set_cons_succ, i64_w, i32_w]
                rfl
               refine pure_ (i := 40) (N := some 109) (v := undef) (a' := ?_) bzd41 rfl rfl (any_of HT_.out (by kernel_rfl)) (fun _ _ _ h => h) (Or.inr ⟨by rfl, rfl⟩) ?_ ?_
               rotate_left
               ·simp only [Act.put, List.setIfInBounds_toArray, List.set_cons_zero, List.set_cons_succ, i64_w, i32_w]
                rfl
               refine pure_ (i := 41) (N := some 110) (v := undef) (a' := ?_) bzd42 rfl rfl (any_of HT_.out (by kernel_rfl)) (fun _ _ _ h => h) (Or.inr ⟨by rfl, rfl⟩) ?_ ?_
               rotate_left
               ·simp only [Act.put, List.setIfInBounds_toArray, List.set_cons_zero, List.set_cons_succ, i64_w, i32_w]
                rfl
               refine pure_ (i := 42) (N := some 111) (v := undef) (a' := ?_) bzd43 rfl rfl (any_of HT_.out (by kernel_rfl)) (fun _ _ _ h => h) (Or.inr ⟨by rfl, rfl⟩) ?_ ?_
               rotate_left
               ·simp only [Act.put, List.setIfInBounds_toArray, List.set_cons_zero, List.set_cons_succ, i64_w, i32_w]
                rfl
               refine pure_ (i := 43) (N := some 112) (v := ?_) (a' := ?_) bzd44 rfl rfl (any_of HT_.out (by kernel_rfl)) (fun _ _ _ h => h) (Or.inl ⟨by rfl, ?_⟩) ?_ ?_
               rotate_left
               ·intro w'
                go_simp
                with_reducible rfl
               rotate_left
               ·simp only [Act.put, List.setIfInBounds_toArray, List.set_cons_zero, List.set_cons_succ, i64_w, i32_w]
                rfl
               refine done_ (done_of HT_.out (by kernel_rfl)) ?_
               try go_wp2
               go_ret
               exact ⟨by first | rfl | (simp [errW_none, errW_some] <;> rfl) | (simp [*, errW_none, errW_some] <;> rfl), by repeat (first | (with_reducible first | exact HB.out | apply below_alloc | apply pw_below_drewN | apply below_drew1 | refine below_set ?_ GE413.out) | exact HB.out)⟩
             ·rw [if_neg c42] at H
              exact absurd H (by simp)
            ·rw [if_neg c41] at H
             have c41b0 : decide (x15_3 < (t424.length : Int)) = false := decide_eq_false c41
             clear c41
             have H' := Aside0.mk H
             clear H
             obtain ⟨Ao63, co63, eo63⟩ := Kd.S_slice HO_12.out
             subst eo63
             go_wp2
             go_roundg k3
             case measure => have := HK1.out; have := HJ32.out; have := HK3.out; omega
             case rel => exact ⟨(t424), (x13_32), (wrap64 (x14_1 + 1)), (by first | rfl | (simp; done) | (simp [*]; done)), (by first | rfl | (simp; done) | (simp [*]; done)), H', ⟨by have := HK1.out; have := HJ32.out; have := HK3.out; omega⟩, ⟨by (with_reducible repeat (first | apply Kd.R_alloc | apply Kd.R_drewN | apply Kd.R_drew)); exact HO_9.out⟩, ⟨by (with_reducible repeat (first | apply Kd.R_alloc | apply Kd.R_drewN | apply Kd.R_drew)); exact HO_11.out⟩, ⟨by (with_reducible repeat (first | apply Kd.S_alloc | apply Kd.S_drewN | apply Kd.S_drew)); exact HO_12.out⟩, ⟨by (with_reducible repeat (first | apply Kd.R_alloc | apply Kd.R_drewN | apply Kd.R_drew)); exact HO_414002.out⟩, ⟨by (with_reducible repeat (first | apply Kd.R_alloc | apply Kd.R_drewN | apply Kd.R_drew)); exact HO_414003.out⟩, ⟨by (with_reducible repeat (first | apply Kd.R_alloc | apply Kd.R_drewN | apply Kd.R_drew)); exact HO_414004.out⟩, ⟨by (with_reducible repeat (first | apply Kd.R_alloc | apply Kd.R_drewN | apply Kd.R_drew)); exact HO_414005.out⟩, ⟨by (with_reducible repeat (first | apply Kd.R_alloc | apply Kd.R_drewN | apply Kd.R_drew)); exact HO_414006.out⟩, ⟨by (with_reducible repeat (first | refine blk_drewN ?_ _ | refine blk_drew ?_ | refine blk_alloc ?_ _)); exact BK413.out⟩, ⟨by repeat (first | (with_reducible first | exact HB.out | apply below_alloc | apply pw_below_drewN | apply below_drew1 | refine below_set ?_ GE413.out) | exact HB.out)⟩⟩
       ·rw [if_neg c32] at H
        exact absurd H (by simp)
      ·rw [if_neg c31] at H
       exact absurd H (by simp)
     ·rw [if_neg c29] at H
      exact absurd H (by simp)
    ·rw [if_neg c28] at H
     have c28b0 : decide (x14_1 < (t417.length : Int)) = false := decide_eq_false c28
     clear c28
     obtain rfl := Option.some.inj H
     obtain ⟨Ao64, co64, eo64⟩ := Kd.R_slice HO_11.out
     subst eo64
     go_wp2
     go_ret
     exact ⟨by first | rfl | (simp [errW_none, errW_some] <;> rfl) | (simp [*, errW_none, errW_some] <;> rfl), by repeat (first | (with_reducible first | exact HB.out | apply below_alloc | apply pw_below_drewN | apply below_drew1 | refine below_set ?_ GE413.out) | exact HB.out)⟩
 ·replace c6 := Bool.eq_false_iff.mpr c6
  subst c6
  have H1 : (some false) = some r := by rw [if_neg (show ¬ (false = true) by decide)] at H; exact H
  clear H
  have H := H1
  clear H1
  obtain rfl := Option.some.inj H
  go_enter Try.func5, Try.ntmps5
  go_wp2_with (first | ((with_reducible refine gate_callee (f := 12) rfl ?_); refine goesL_ (some 16) rfl rfl Try.func12 (by kernel_rfl) rfl #[] rfl (by (try simp only [List.map_toArray, List.map_cons, List.map_nil]); first | done | rfl | (simp only [List.length_drop, List.length_take]; rfl)) ?_; (with_reducible refine (canopylaw4_known.calls  false _ A5.out).mono ?_); rintro e w65 ⟨rfl, hb⟩; refine ⟨_, rfl, ?_⟩; have n0_ := Aside0.mk (below_step (by repeat (first | (with_reducible first | exact HB.out | apply below_alloc | apply pw_below_drewN | apply below_drew1) | exact HB.out)) hb); clear HB; have HB := n0_; clear n0_; (try clear hb); (try clear hb2); (try clear hk); (try clear hi)))
  go_ret
  exact ⟨by first | rfl | (simp [errW_none, errW_some] <;> rfl) | (simp [*, errW_none, errW_some] <;> rfl), by repeat (first | (with_reducible first | exact HB.out | apply below_alloc | apply pw_below_drewN | apply below_drew1) | exact HB.out)⟩

/-- THE ONE PURE STATEMENT of canopylaw4_RunsDepth: yours. -/
def canopylaw4_RunsDepth.Pure : Prop := ∀ (a0 : Int) (a1 : Int) (l2 : List Int) (l3 : List Int), (Lit.int .i64 a0).wf = true → (Lit.int .i64 a1).wf = true → l2.length ≤ maxLen → l2.length * 8 ≤ 140737488351232 → (∀ x ∈ l2, (Lit.int .i64 x).wf = true) → l3.length ≤ maxLen → l3.length * 8 ≤ 140737488351232 → (∀ x ∈ l3, (Lit.int .i64 x).wf = true) → ∃ k, canopylaw4_RunsDepth.f k a0 a1 l2 l3 = some true
theorem canopylaw4_RunsDepth.walk (P : canopylaw4_RunsDepth.Pure) (a0 : Int) (a1 : Int) (a2 : Option Addr) (len2 cap2 : Nat) (z2 : List Int) (a3 : Option Addr) (len3 cap3 : Nat) (z3 : List Int) (w : World) (w0 : (Lit.int .i64 a0).wf = true) (w1 : (Lit.int .i64 a1).wf = true) (w2 : (a2 = none ∧ len2 = 0 ∧ cap2 = 0 ∧ z2 = []) ∨ ∃ x, a2 = some x ∧ len2 ≤ cap2 ∧ cap2 ≤ maxLen ∧ z2.length = cap2 ∧ (∀ i, i < z2.length → w.cell? (x.add i) = some (.int .i64 (z2.getD i 0))) ∧ ∀ n ∈ z2, (Lit.int .i64 n).wf = true) (y2 : len2 * 8 ≤ 140737488351232) (w3 : (a3 = none ∧ len3 = 0 ∧ cap3 = 0 ∧ z3 = []) ∨ ∃ x, a3 = some x ∧ len3 ≤ cap3 ∧ cap3 ≤ maxLen ∧ z3.length = cap3 ∧ (∀ i, i < z3.length → w.cell? (x.add i) = some (.int .i64 (z3.getD i 0))) ∧ ∀ n ∈ z3, (Lit.int .i64 n).wf = true) (y3 : len3 * 8 ≤ 140737488351232) :
  Calls Try.prog 5 #[.int .i64 a0, .int .i64 a1, .slice a2 len2 cap2, .slice a3 len3 cap3] w fun e w' => e = .returned (.bool true) ∧ Below w.heap.size w w' := by
 obtain ⟨l2, rfl, hr2, hm2, hw2, hc2⟩ := ReadsInt.ofRowC w2
 obtain ⟨l3, rfl, hr3, hm3, hw3, hc3⟩ := ReadsInt.ofRowC w3
 obtain ⟨k, h⟩ := P a0 a1 l2 l3 w0 w1 hm2 y2 hw2 hm3 y3 hw3
 refine (canopylaw4_RunsDepth.calls k a0 a1 _ _ l2 _ _ l3 true w (Kd.C_of_reads (d := (0 : Int)) (h1 := fun _ => rfl) hr2) hc2 (Kd.C_of_reads (d := (0 : Int)) (h1 := fun _ => rfl) hr3) hc3 h).mono ?_
 rintro e w' ⟨rfl, hd⟩
 exact ⟨rfl, hd⟩

end Go.Proofs.Ytjkhdldgmkkhjaa.P
