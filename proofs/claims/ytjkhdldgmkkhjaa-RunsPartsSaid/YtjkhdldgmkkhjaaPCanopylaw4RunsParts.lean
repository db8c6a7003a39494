-- Written by wip/tools/prn.py (a program of this claim's author), which runs the kit's printer: not by hand.
import Derived.Test.YtjkhdldgmkkhjaaP0
import Derived.Test.YtjkhdldgmkkhjaaPCanopylaw1Syms
import Derived.Test.YtjkhdldgmkkhjaaPCanopylaw3Make
import Derived.Test.YtjkhdldgmkkhjaaPCanopylaw4Few
import Derived.Test.YtjkhdldgmkkhjaaPCanopylaw1Word
import Derived.Test.YtjkhdldgmkkhjaaPCanopylaw4Within
import Derived.Test.YtjkhdldgmkkhjaaSKnown
import Derived.Test.YtjkhdldgmkkhjaaSStart
import Derived.Test.YtjkhdldgmkkhjaaSStep
import Derived.Test.YtjkhdldgmkkhjaaSTakes
namespace Go.Proofs.Ytjkhdldgmkkhjaa.P
open Go.RowKit Go.Proofs.YtjkhdldgmkkhjaaW.PrintWords Go.Proofs.YtjkhdldgmkkhjaaW.PrintLast Go.Proofs.YtjkhdldgmkkhjaaW.PrintMore
attribute [local go_sem] max2_int min2_int max_two min_two max_three min_three max_four min_four   -- for this text's walks alone
set_option linter.unusedVariables false
set_option linter.unusedSimpArgs false

abbrev bzp0 : Array Bool := #[false, false, false, false, false, false, false, false, false, false, false, false, false, false, false, false]
abbrev bzp1 : Array Bool := #[true, false, false, false, false, false, false, false, false, false, false, false, false, false, false, false]
abbrev bzp2 : Array Bool := #[true, true, false, false, false, false, false, false, false, false, false, false, false, false, false, false]
abbrev bzp3 : Array Bool := #[true, true, true, false, false, false, false, false, false, false, false, false, false, false, false, false]
abbrev bzp4 : Array Bool := #[true, true, true, true, false, false, false, false, false, false, false, false, false, false, false, false]
abbrev bzp5 : Array Bool := #[true, true, true, true, true, false, false, false, false, false, false, false, false, false, false, false]
abbrev bzp6 : Array Bool := #[true, true, true, true, true, true, false, false, false, false, false, false, false, false, false, false]
abbrev bzp7 : Array Bool := #[true, true, true, true, true, true, true, false, false, false, false, false, false, false, false, false]
abbrev bzp8 : Array Bool := #[true, true, true, true, true, true, true, true, false, false, false, false, false, false, false, false]
abbrev bzp9 : Array Bool := #[true, true, true, true, true, true, true, true, true, false, false, false, false, false, false, false]
abbrev bzp10 : Array Bool := #[true, true, true, true, true, true, true, true, true, true, false, false, false, false, false, false]
abbrev bzp11 : Array Bool := #[true, true, true, true, true, true, true, true, true, true, true, false, false, false, false, false]
abbrev bzp12 : Array Bool := #[true, true, true, true, true, true, true, true, true, true, true, true, true, false, false, false]
abbrev bzp13 : Array Bool := #[true, true, true, true, true, true, true, true, true, true, true, true, true, true, false, false]
abbrev bzp14 : Array Bool := #[true, true, true, true, true, true, true, true, true, true, true, true, true, true, true, false]
abbrev bzp15 : Array Bool := #[true, true, true, true, true, true, true, true, true, true, true, true, true, true, true, true]
abbrev bzp16 : Array Bool := #[true, true, true, true, true, true, true, true, true, true, true, false, true, false, false, false]
/-! ### canopylaw4_RunsParts: function 9 -/
mutual
def canopylaw4_RunsParts.l0 : Nat → List (S46) → List Int → Int → List Bool → List (S48) → Int → Int → Int → List Int → List Int → List (S52) → List (S54) → List (S56) → Int → Int → List Int → List (S52) → List (S54) → List (S56) → Option (Bool)
 | 0, _, _, _, _, _, _, _, _, _, _, _, _, _, _, _, _, _, _, _ => none
 | k + 1, x11, x13, x14, x16, x17, x18, x688000, x688001, x688002, x688003, x688004, x688005, x688006, x696000, x696001, x696002, x696004, x696005, x696006 => if x18 < x14 then (if 0 ≤ x18 then (if x18 < (x13.length : Int) then ((runs_Step.f x11 x688000 x688001 x688002 x688003 x688004 x688005 x688006 x17 (rd x13 x18)).bind fun t703 => (canopylaw4_RunsParts.l0 k x11 x13 x14 x16 t703 (wrap64 (x18 + 1)) x688000 x688001 x688002 x688003 x688004 x688005 x688006 x696000 x696001 x696002 x696004 x696005 x696006)) else (none)) else (none)) else (canopylaw4_RunsParts.l1 k x11 x13 x14 x16 x17 0 x688000 x688001 x688002 x688003 x688004 x688005 x688006 x696000 x696001 x696002 x696004 x696005 x696006)
def canopylaw4_RunsParts.l1 : Nat → List (S46) → List Int → Int → List Bool → List (S48) → Int → Int → Int → List Int → List Int → List (S52) → List (S54) → List (S56) → Int → Int → List Int → List (S52) → List (S54) → List (S56) → Option (Bool)
 | 0, _, _, _, _, _, _, _, _, _, _, _, _, _, _, _, _, _, _, _ => none
 | k + 1, x11, x13, x14, x16, x17, x19, x688000, x688001, x688002, x688003, x688004, x688005, x688006, x696000, x696001, x696002, x696004, x696005, x696006 => if x19 < (x17.length : Int) then (if 0 ≤ x19 then (if ((rd_T48 x17 x19).f0) < 0 then (some false) else (if ((rd_T48 x17 x19).f0) ≥ x688000 then (some false) else (if 0 ≤ ((rd_T48 x17 x19).f0) then (if ((rd_T48 x17 x19).f0) < (x16.length : Int) then (canopylaw4_RunsParts.l1 k x11 x13 x14 (x16.set (((rd_T48 x17 x19).f0) : Int).toNat true) x17 (wrap64 (x19 + 1)) x688000 x688001 x688002 x688003 x688004 x688005 x688006 x696000 x696001 x696002 x696004 x696005 x696006) else (none)) else (none)))) else (none)) else (canopylaw4_RunsParts.l2 k x11 x13 x14 x16 0 x688000 x688001 x688002 x688003 x688004 x688005 x688006 x696000 x696001 x696002 ([] : List Int) x696004 x696005 x696006)
def canopylaw4_RunsParts.l2 : Nat → List (S46) → List Int → Int → List Bool → Int → Int → Int → List Int → List Int → List (S52) → List (S54) → List (S56) → Int → Int → List Int → List Int → List (S52) → List (S54) → List (S56) → Option (Bool)
 | 0, _, _, _, _, _, _, _, _, _, _, _, _, _, _, _, _, _, _, _ => none
 | k + 1, x11, x13, x14, x16, x20, x688000, x688001, x688002, x688003, x688004, x688005, x688006, x696000, x696001, x696002, x696003, x696004, x696005, x696006 => if x20 < x688000 then ((some (([x20] : List Int) : List Int)).bind fun y710 => (if 0 ≤ x14 then (if x14 ≤ (x13.length : Int) then ((runs_Takes.f x11 x696000 x696001 x696002 y710 x696004 x696005 x696006 (x13.take (x14 : Int).toNat)).bind fun t717 => (if 0 ≤ x20 then (if x20 < (x16.length : Int) then (if (t717 != (rdOf false x16 x20)) = true then (some false) else (canopylaw4_RunsParts.l2 k x11 x13 x14 x16 (wrap64 (x20 + 1)) x688000 x688001 x688002 x688003 x688004 x688005 x688006 x696000 x696001 x696002 y710 x696004 x696005 x696006)) else (none)) else (none))) else (none)) else (none))) else (some true)
end
def canopylaw4_RunsParts.f (k : Nat) (a0 : Int) (a1 : Int) (l2 : List Int) (l3 : List Int) (a4 : Int) : Option (Bool) := (canopylaw4_known.f).bind fun t666 => (if t666 = true then ((canopylaw1_Syms.f a0 l2).bind fun t667 => ((canopylaw3_Make.f k t667 a1 l2 4).bind fun bt670 => ((canopylaw1_Word.f k t667 l3 10).bind fun t688 => ((canopylaw4_few.f k t667 t688 5).bind fun t691 => ((canopylaw4_within.f a4 (wrap64 ((t691.length : Int) + 1))).bind fun t694 => (if 0 ≤ bt670.1 then (if (bt670.1 : Int).toNat ≤ 281474976710656 then ((runs_Start.f bt670.1 bt670.2.1 bt670.2.2.1 bt670.2.2.2.1 bt670.2.2.2.2.1 bt670.2.2.2.2.2.1 bt670.2.2.2.2.2.2).bind fun t699 => (canopylaw4_RunsParts.l0 k t667 t691 t694 (List.replicate (bt670.1 : Int).toNat false) t699 0 bt670.1 bt670.2.1 bt670.2.2.1 bt670.2.2.2.1 bt670.2.2.2.2.1 bt670.2.2.2.2.2.1 bt670.2.2.2.2.2.2 bt670.1 bt670.2.1 bt670.2.2.1 bt670.2.2.2.2.1 bt670.2.2.2.2.2.1 bt670.2.2.2.2.2.2)) else (none)) else (none))))))) else (some false))
theorem canopylaw4_RunsParts.mono_l : ∀ k, (∀ y0 y1 y2 y3 y4 y5 y6 y7 y8 y9 y10 y11 y12 y13 y14 y15 y16 y17 y18, LeO (canopylaw4_RunsParts.l0 k y0 y1 y2 y3 y4 y5 y6 y7 y8 y9 y10 y11 y12 y13 y14 y15 y16 y17 y18) (canopylaw4_RunsParts.l0 (k + 1) y0 y1 y2 y3 y4 y5 y6 y7 y8 y9 y10 y11 y12 y13 y14 y15 y16 y17 y18)) ∧ (∀ y0 y1 y2 y3 y4 y5 y6 y7 y8 y9 y10 y11 y12 y13 y14 y15 y16 y17 y18, LeO (canopylaw4_RunsParts.l1 k y0 y1 y2 y3 y4 y5 y6 y7 y8 y9 y10 y11 y12 y13 y14 y15 y16 y17 y18) (canopylaw4_RunsParts.l1 (k + 1) y0 y1 y2 y3 y4 y5 y6 y7 y8 y9 y10 y11 y12 y13 y14 y15 y16 y17 y18)) ∧ (∀ y0 y1 y2 y3 y4 y5 y6 y7 y8 y9 y10 y11 y12 y13 y14 y15 y16 y17 y18, LeO (canopylaw4_RunsParts.l2 k y0 y1 y2 y3 y4 y5 y6 y7 y8 y9 y10 y11 y12 y13 y14 y15 y16 y17 y18) (canopylaw4_RunsParts.l2 (k + 1) y0 y1 y2 y3 y4 y5 y6 y7 y8 y9 y10 y11 y12 y13 y14 y15 y16 y17 y18))
 | 0 => ⟨fun _ _ _ _ _ _ _ _ _ _ _ _ _ _ _ _ _ _ _ r h => by simp [canopylaw4_RunsParts.l0] at h, fun _ _ _ _ _ _ _ _ _ _ _ _ _ _ _ _ _ _ _ r h => by simp [canopylaw4_RunsParts.l1] at h, fun _ _ _ _ _ _ _ _ _ _ _ _ _ _ _ _ _ _ _ r h => by simp [canopylaw4_RunsParts.l2] at h⟩
 | k + 1 => by
  obtain ⟨ih0, ih1, ih2⟩ := canopylaw4_RunsParts.mono_l k
  refine ⟨?_, ?_, ?_⟩
  ·intro y0 y1 y2 y3 y4 y5 y6 y7 y8 y9 y10 y11 y12 y13 y14 y15 y16 y17 y18
   unfold canopylaw4_RunsParts.l0
   repeat' first
   | (with_reducible exact ih0 _ _ _ _ _ _ _ _ _ _ _ _ _ _ _ _ _ _ _)
   | (with_reducible exact ih1 _ _ _ _ _ _ _ _ _ _ _ _ _ _ _ _ _ _ _)
   | (with_reducible exact ih2 _ _ _ _ _ _ _ _ _ _ _ _ _ _ _ _ _ _ _)
   | (with_reducible exact canopylaw1_Word.mono _ _ _ _)
   | (with_reducible exact canopylaw3_Make.mono _ _ _ _ _)
   | (with_reducible exact canopylaw4_few.mono _ _ _ _)
   | (with_reducible exact LeO.refl _)
   | (with_reducible exact LeO.none _)
   | (with_reducible refine LeO.ite ?_ ?_)
   | (with_reducible refine LeO.bind ?_ (fun _ => ?_))
   | exact ih0 _ _ _ _ _ _ _ _ _ _ _ _ _ _ _ _ _ _ _
   | exact ih1 _ _ _ _ _ _ _ _ _ _ _ _ _ _ _ _ _ _ _
   | exact ih2 _ _ _ _ _ _ _ _ _ _ _ _ _ _ _ _ _ _ _
   | exact canopylaw1_Word.mono _ _ _ _
   | exact canopylaw3_Make.mono _ _ _ _ _
   | exact canopylaw4_few.mono _ _ _ _
   | exact LeO.none _
   | refine LeO.ite ?_ ?_
   | refine LeO.bind ?_ (fun _ => ?_)
  ·intro y0 y1 y2 y3 y4 y5 y6 y7 y8 y9 y10 y11 y12 y13 y14 y15 y16 y17 y18
   unfold canopylaw4_RunsParts.l1
   repeat' first
   | (with_reducible exact ih0 _ _ _ _ _ _ _ _ _ _ _ _ _ _ _ _ _ _ _)
   | (with_reducible exact ih1 _ _ _ _ _ _ _ _ _ _ _ _ _ _ _ _ _ _ _)
   | (with_reducible exact ih2 _ _ _ _ _ _ _ _ _ _ _ _ _ _ _ _ _ _ _)
   | (with_reducible exact canopylaw1_Word.mono _ _ _ _)
   | (with_reducible exact canopylaw3_Make.mono _ _ _ _ _)
   | (with_reducible exact canopylaw4_few.mono _ _ _ _)
   | (with_reducible exact LeO.refl _)
   | (with_reducible exact LeO.none _)
   | (with_reducible refine LeO.ite ?_ ?_)
   | (with_reducible refine LeO.bind ?_ (fun _ => ?_))
   | exact ih0 _ _ _ _ _ _ _ _ _ _ _ _ _ _ _ _ _ _ _
   | exact ih1 _ _ _ _ _ _ _ _ _ _ _ _ _ _ _ _ _ _ _
   | exact ih2 _ _ _ _ _ _ _ _ _ _ _ _ _ _ _ _ _ _ _
   | exact canopylaw1_Word.mono _ _ _ _
   | exact canopylaw3_Make.mono _ _ _ _ _
   | exact canopylaw4_few.mono _ _ _ _
   | exact LeO.none _
   | refine LeO.ite ?_ ?_
   | refine LeO.bind ?_ (fun _ => ?_)
  ·intro y0 y1 y2 y3 y4 y5 y6 y7 y8 y9 y10 y11 y12 y13 y14 y15 y16 y17 y18
   unfold canopylaw4_RunsParts.l2
   repeat' first
   | (with_reducible exact ih0 _ _ _ _ _ _ _ _ _ _ _ _ _ _ _ _ _ _ _)
   | (with_reducible exact ih1 _ _ _ _ _ _ _ _ _ _ _ _ _ _ _ _ _ _ _)
   | (with_reducible exact ih2 _ _ _ _ _ _ _ _ _ _ _ _ _ _ _ _ _ _ _)
   | (with_reducible exact canopylaw1_Word.mono _ _ _ _)
   | (with_reducible exact canopylaw3_Make.mono _ _ _ _ _)
   | (with_reducible exact canopylaw4_few.mono _ _ _ _)
   | (with_reducible exact LeO.refl _)
   | (with_reducible exact LeO.none _)
   | (with_reducible refine LeO.ite ?_ ?_)
   | (with_reducible refine LeO.bind ?_ (fun _ => ?_))
   | exact ih0 _ _ _ _ _ _ _ _ _ _ _ _ _ _ _ _ _ _ _
   | exact ih1 _ _ _ _ _ _ _ _ _ _ _ _ _ _ _ _ _ _ _
   | exact ih2 _ _ _ _ _ _ _ _ _ _ _ _ _ _ _ _ _ _ _
   | exact canopylaw1_Word.mono _ _ _ _
   | exact canopylaw3_Make.mono _ _ _ _ _
   | exact canopylaw4_few.mono _ _ _ _
   | exact LeO.none _
   | refine LeO.ite ?_ ?_
   | refine LeO.bind ?_ (fun _ => ?_)
theorem canopylaw4_RunsParts.mono : ∀ a0 a1 a2 a3 a4 k, LeO (canopylaw4_RunsParts.f k a0 a1 a2 a3 a4) (canopylaw4_RunsParts.f (k + 1) a0 a1 a2 a3 a4) := by
 intro a0 a1 a2 a3 a4 k
 obtain ⟨ih0, ih1, ih2⟩ := canopylaw4_RunsParts.mono_l k
 unfold canopylaw4_RunsParts.f
 repeat' first
   | (with_reducible exact ih0 _ _ _ _ _ _ _ _ _ _ _ _ _ _ _ _ _ _ _)
   | (with_reducible exact ih1 _ _ _ _ _ _ _ _ _ _ _ _ _ _ _ _ _ _ _)
   | (with_reducible exact ih2 _ _ _ _ _ _ _ _ _ _ _ _ _ _ _ _ _ _ _)
   | (with_reducible exact canopylaw1_Word.mono _ _ _ _)
   | (with_reducible exact canopylaw3_Make.mono _ _ _ _ _)
   | (with_reducible exact canopylaw4_few.mono _ _ _ _)
   | (with_reducible exact LeO.refl _)
   | (with_reducible exact LeO.none _)
   | (with_reducible refine LeO.ite ?_ ?_)
   | (with_reducible refine LeO.bind ?_ (fun _ => ?_))
   | exact ih0 _ _ _ _ _ _ _ _ _ _ _ _ _ _ _ _ _ _ _
   | exact ih1 _ _ _ _ _ _ _ _ _ _ _ _ _ _ _ _ _ _ _
   | exact ih2 _ _ _ _ _ _ _ _ _ _ _ _ _ _ _ _ _ _ _
   | exact canopylaw1_Word.mono _ _ _ _
   | exact canopylaw3_Make.mono _ _ _ _ _
   | exact canopylaw4_few.mono _ _ _ _
   | exact LeO.none _
   | refine LeO.ite ?_ ?_
   | refine LeO.bind ?_ (fun _ => ?_)
def canopylaw4_RunsParts.T14 : Bool × List (List Nat × List Nat) := (true, [([], []), ([], []), ([], []), ([], []), ([], []), ([3, 4], [3, 4]), ([5], [5]), ([0, 1, 2, 6], [0, 1, 2, 6]), ([7, 7, 0, 1, 2, 3, 4, 5, 6, 7], [2, 7])])
def canopylaw4_RunsParts.B14 : List Nat := [0, 0, 0, 0, 0, 24, 56, 127, 255]
theorem canopylaw4_RunsParts.tab14 : rtab .any (opsOf Try.f9 14) = canopylaw4_RunsParts.T14 := by kernel_rfl
theorem canopylaw4_RunsParts.bits14 : waitsOk canopylaw4_RunsParts.T14.2 canopylaw4_RunsParts.B14 = true := by kernel_rfl
def canopylaw4_RunsParts.T18 : Bool × List (List Nat × List Nat) := (true, [([], []), ([], []), ([0, 1], [0, 1]), ([2], [2]), ([3], [3]), ([4], [4]), ([5], [5]), ([6], [6]), ([6], [6]), ([7, 8, 6], [6, 7, 8]), ([9, 6], [6, 9]), ([10, 6], [6, 10]), ([6], [6]), ([12, 6], [6, 12]), ([11, 13, 6], [6, 11, 13]), ([6, 14], [6, 14])])
def canopylaw4_RunsParts.B18 : List Nat := [0, 0, 3, 7, 15, 31, 63, 127, 127, 511, 1023, 2047, 127, 4223, 16383, 32767]
theorem canopylaw4_RunsParts.tab18 : rtab .any (opsOf Try.f9 18) = canopylaw4_RunsParts.T18 := by kernel_rfl
theorem canopylaw4_RunsParts.bits18 : waitsOk canopylaw4_RunsParts.T18.2 canopylaw4_RunsParts.B18 = true := by kernel_rfl
def canopylaw4_RunsParts.T25 : Bool × List (List Nat × List Nat) := (true, [([], []), ([], []), ([], []), ([], []), ([2, 3], [2, 3]), ([0, 1, 4], [0, 1, 4]), ([], []), ([], []), ([6, 7], [6, 7]), ([8], [8]), ([5, 9], [5, 9])])
def canopylaw4_RunsParts.B25 : List Nat := [0, 0, 0, 0, 12, 31, 0, 0, 192, 448, 1023]
theorem canopylaw4_RunsParts.tab25 : rtab .any (opsOf Try.f9 25) = canopylaw4_RunsParts.T25 := by kernel_rfl
theorem canopylaw4_RunsParts.bits25 : waitsOk canopylaw4_RunsParts.T25.2 canopylaw4_RunsParts.B25 = true := by kernel_rfl
set_option maxHeartbeats 8000000 in
set_option maxRecDepth 100000 in
theorem canopylaw4_RunsParts.calls (k : Nat) (a0 : Int) (a1 : Int) (A2 : Option Addr) (c2 : Nat) (l2 : List Int) (A3 : Option Addr) (c3 : Nat) (l3 : List Int) (a4 : Int) (r : Bool) (w : World) (hr2 : Kd.C (Kd.int .i64) w A2 l2.length l2) (hc2 : l2.length ≤ c2) (hr3 : Kd.C (Kd.int .i64) w A3 l3.length l3) (hc3 : l3.length ≤ c3) (h : canopylaw4_RunsParts.f k a0 a1 l2 l3 a4 = some r) :
  Calls Try.prog 9 #[.int .i64 a0, .int .i64 a1, .slice A2 l2.length c2, .slice A3 l3.length c3, .int .i64 a4] w fun e w' => e = .returned (.bool r) ∧ Below w.heap.size w w' := by
 have hu30 := Try.underlying30
 have HR2 := Aside0.mk hr2
 have HC2 := Aside0.mk hc2
 clear hr2 hc2
 have HR3 := Aside0.mk hr3
 have HC3 := Aside0.mk hc3
 clear hr3 hc3
 have HB := Aside0.mk (Below.refl w.heap.size w)
 have H : ((canopylaw4_known.f).bind fun t666 => (if t666 = true then ((canopylaw1_Syms.f a0 l2).bind fun t667 => ((canopylaw3_Make.f k t667 a1 l2 4).bind fun bt670 => ((canopylaw1_Word.f k t667 l3 10).bind fun t688 => ((canopylaw4_few.f k t667 t688 5).bind fun t691 => ((canopylaw4_within.f a4 (wrap64 ((t691.length : Int) + 1))).bind fun t694 => (if 0 ≤ bt670.1 then (if (bt670.1 : Int).toNat ≤ 281474976710656 then ((runs_Start.f bt670.1 bt670.2.1 bt670.2.2.1 bt670.2.2.2.1 bt670.2.2.2.2.1 bt670.2.2.2.2.2.1 bt670.2.2.2.2.2.2).bind fun t699 => (canopylaw4_RunsParts.l0 k t667 t691 t694 (List.replicate (bt670.1 : Int).toNat false) t699 0 bt670.1 bt670.2.1 bt670.2.2.1 bt670.2.2.2.1 bt670.2.2.2.2.1 bt670.2.2.2.2.2.1 bt670.2.2.2.2.2.2 bt670.1 bt670.2.1 bt670.2.2.1 bt670.2.2.2.2.1 bt670.2.2.2.2.2.1 bt670.2.2.2.2.2.2)) else (none)) else (none))))))) else (some false))) = some r := h
 clear h
 replace H := Option.bind_eq_some_iff.mp H
 obtain ⟨t666, A60, H⟩ := H
 replace H : (if t666 = true then ((canopylaw1_Syms.f a0 l2).bind fun t667 => ((canopylaw3_Make.f k t667 a1 l2 4).bind fun bt670 => ((canopylaw1_Word.f k t667 l3 10).bind fun t688 => ((canopylaw4_few.f k t667 t688 5).bind fun t691 => ((canopylaw4_within.f a4 (wrap64 ((t691.length : Int) + 1))).bind fun t694 => (if 0 ≤ bt670.1 then (if (bt670.1 : Int).toNat ≤ 281474976710656 then ((runs_Start.f bt670.1 bt670.2.1 bt670.2.2.1 bt670.2.2.2.1 bt670.2.2.2.2.1 bt670.2.2.2.2.2.1 bt670.2.2.2.2.2.2).bind fun t699 => (canopylaw4_RunsParts.l0 k t667 t691 t694 (List.replicate (bt670.1 : Int).toNat false) t699 0 bt670.1 bt670.2.1 bt670.2.2.1 bt670.2.2.2.1 bt670.2.2.2.2.1 bt670.2.2.2.2.2.1 bt670.2.2.2.2.2.2 bt670.1 bt670.2.1 bt670.2.2.1 bt670.2.2.2.2.1 bt670.2.2.2.2.2.1 bt670.2.2.2.2.2.2)) else (none)) else (none))))))) else (some false)) = some r := H
 have A6 := Aside0.mk A60
 clear A60
 by_cases c7 : t666 = true
 ·subst c7
  have H1 : ((canopylaw1_Syms.f a0 l2).bind fun t667 => ((canopylaw3_Make.f k t667 a1 l2 4).bind fun bt670 => ((canopylaw1_Word.f k t667 l3 10).bind fun t688 => ((canopylaw4_few.f k t667 t688 5).bind fun t691 => ((canopylaw4_within.f a4 (wrap64 ((t691.length : Int) + 1))).bind fun t694 => (if 0 ≤ bt670.1 then (if (bt670.1 : Int).toNat ≤ 281474976710656 then ((runs_Start.f bt670.1 bt670.2.1 bt670.2.2.1 bt670.2.2.2.1 bt670.2.2.2.2.1 bt670.2.2.2.2.2.1 bt670.2.2.2.2.2.2).bind fun t699 => (canopylaw4_RunsParts.l0 k t667 t691 t694 (List.replicate (bt670.1 : Int).toNat false) t699 0 bt670.1 bt670.2.1 bt670.2.2.1 bt670.2.2.2.1 bt670.2.2.2.2.1 bt670.2.2.2.2.2.1 bt670.2.2.2.2.2.2 bt670.1 bt670.2.1 bt670.2.2.1 bt670.2.2.2.2.1 bt670.2.2.2.2.2.1 bt670.2.2.2.2.2.2)) else (none)) else (none))))))) = some r := by rw [if_pos rfl] at H; exact H
  clear H
  have H := H1
  clear H1
  replace H := Option.bind_eq_some_iff.mp H
  obtain ⟨t667, A80, H⟩ := H
  replace H : ((canopylaw3_Make.f k t667 a1 l2 4).bind fun bt670 => ((canopylaw1_Word.f k t667 l3 10).bind fun t688 => ((canopylaw4_few.f k t667 t688 5).bind fun t691 => ((canopylaw4_within.f a4 (wrap64 ((t691.length : Int) + 1))).bind fun t694 => (if 0 ≤ bt670.1 then (if (bt670.1 : Int).toNat ≤ 281474976710656 then ((runs_Start.f bt670.1 bt670.2.1 bt670.2.2.1 bt670.2.2.2.1 bt670.2.2.2.2.1 bt670.2.2.2.2.2.1 bt670.2.2.2.2.2.2).bind fun t699 => (canopylaw4_RunsParts.l0 k t667 t691 t694 (List.replicate (bt670.1 : Int).toNat false) t699 0 bt670.1 bt670.2.1 bt670.2.2.1 bt670.2.2.2.1 bt670.2.2.2.2.1 bt670.2.2.2.2.2.1 bt670.2.2.2.2.2.2 bt670.1 bt670.2.1 bt670.2.2.1 bt670.2.2.2.2.1 bt670.2.2.2.2.2.1 bt670.2.2.2.2.2.2)) else (none)) else (none)))))) = some r := H
  have A8 := Aside0.mk A80
  clear A80
  replace H := Option.bind_eq_some_iff.mp H
  obtain ⟨⟨t670, t671, t672, t675, t678, t681, t684⟩, A90, H⟩ := H
  replace H : ((canopylaw1_Word.f k t667 l3 10).bind fun t688 => ((canopylaw4_few.f k t667 t688 5).bind fun t691 => ((canopylaw4_within.f a4 (wrap64 ((t691.length : Int) + 1))).bind fun t694 => (if 0 ≤ t670 then (if (t670 : Int).toNat ≤ 281474976710656 then ((runs_Start.f t670 t671 t672 t675 t678 t681 t684).bind fun t699 => (canopylaw4_RunsParts.l0 k t667 t691 t694 (List.replicate (t670 : Int).toNat false) t699 0 t670 t671 t672 t675 t678 t681 t684 t670 t671 t672 t678 t681 t684)) else (none)) else (none))))) = some r := H
  have A9 := Aside0.mk A90
  clear A90
  replace H := Option.bind_eq_some_iff.mp H
  obtain ⟨t688, A100, H⟩ := H
  replace H : ((canopylaw4_few.f k t667 t688 5).bind fun t691 => ((canopylaw4_within.f a4 (wrap64 ((t691.length : Int) + 1))).bind fun t694 => (if 0 ≤ t670 then (if (t670 : Int).toNat ≤ 281474976710656 then ((runs_Start.f t670 t671 t672 t675 t678 t681 t684).bind fun t699 => (canopylaw4_RunsParts.l0 k t667 t691 t694 (List.replicate (t670 : Int).toNat false) t699 0 t670 t671 t672 t675 t678 t681 t684 t670 t671 t672 t678 t681 t684)) else (none)) else (none)))) = some r := H
  have A10 := Aside0.mk A100
  clear A100
  replace H := Option.bind_eq_some_iff.mp H
  obtain ⟨t691, A110, H⟩ := H
  replace H : ((canopylaw4_within.f a4 (wrap64 ((t691.length : Int) + 1))).bind fun t694 => (if 0 ≤ t670 then (if (t670 : Int).toNat ≤ 281474976710656 then ((runs_Start.f t670 t671 t672 t675 t678 t681 t684).bind fun t699 => (canopylaw4_RunsParts.l0 k t667 t691 t694 (List.replicate (t670 : Int).toNat false) t699 0 t670 t671 t672 t675 t678 t681 t684 t670 t671 t672 t678 t681 t684)) else (none)) else (none))) = some r := H
  have A11 := Aside0.mk A110
  clear A110
  replace H := Option.bind_eq_some_iff.mp H
  obtain ⟨t694, A120, H⟩ := H
  replace H : (if 0 ≤ t670 then (if (t670 : Int).toNat ≤ 281474976710656 then ((runs_Start.f t670 t671 t672 t675 t678 t681 t684).bind fun t699 => (canopylaw4_RunsParts.l0 k t667 t691 t694 (List.replicate (t670 : Int).toNat false) t699 0 t670 t671 t672 t675 t678 t681 t684 t670 t671 t672 t678 t681 t684)) else (none)) else (none)) = some r := H
  have A12 := Aside0.mk A120
  clear A120
  by_cases c13 : 0 ≤ t670
  ·rw [if_pos c13] at H
   have c13b0 := eq_true c13
   have c13b1 : decide (0 ≤ t670) = true := decide_eq_true c13
   clear c13
   by_cases c14 : (t670 : Int).toNat ≤ 281474976710656
   ·rw [if_pos c14] at H
    have c14b0 := eq_true c14
    have c14b1 : decide ((t670 : Int).toNat ≤ 281474976710656) = true := decide_eq_true c14
    clear c14
    obtain ⟨y696, hy696⟩ : ∃ y_ : List Bool, y_ = (List.replicate (t670 : Int).toNat false) := ⟨_, rfl⟩
    replace H : ((runs_Start.f t670 t671 t672 t675 t678 t681 t684).bind fun t699 => (canopylaw4_RunsParts.l0 k t667 t691 t694 y696 t699 0 t670 t671 t672 t675 t678 t681 t684 t670 t671 t672 t678 t681 t684)) = some r := by first | (rw [hy696]; with_reducible exact H) | (have H2_ := (Option.bind_some _ _).symm.trans H; rw [hy696]; with_reducible exact H2_) | (have H2_ := (Option.bind_some _ _).symm.trans H; with_reducible exact H2_) | with_reducible exact H | (rw [hy696]; exact H) | exact H
    have Ny696 := Aside0.mk hy696
    clear hy696
    replace H := Option.bind_eq_some_iff.mp H
    obtain ⟨t699, A150, H⟩ := H
    replace H : (canopylaw4_RunsParts.l0 k t667 t691 t694 y696 t699 0 t670 t671 t672 t675 t678 t681 t684 t670 t671 t672 t678 t681 t684) = some r := H
    have A15 := Aside0.mk A150
    clear A150
    have H' := Aside0.mk H
    clear H
    go_enter Try.func9, Try.ntmps9
    go_wp2_with (first | ((with_reducible refine gate_callee (f := 12) rfl ?_); refine goesL_ (some 21) rfl rfl Try.func12 (by kernel_rfl) rfl #[] rfl (by (try simp only [List.map_toArray, List.map_cons, List.map_nil]); first | done | rfl | (simp only [List.length_drop, List.length_take]; rfl)) ?_; (with_reducible refine (canopylaw4_known.calls  true _ A6.out).mono ?_); rintro e w16 ⟨rfl, hb⟩; refine ⟨_, rfl, ?_⟩; have n0_ := Aside0.mk (below_step (by repeat (first | (with_reducible first | exact HB.out | apply below_alloc | apply pw_below_drewN | apply below_drew1) | exact HB.out)) hb); clear HB; have HB := n0_; clear n0_; (try clear hb); (try clear hb2); (try clear hk); (try clear hi)) | ((with_reducible refine gate_callee (f := 13) rfl ?_); refine goesL_ (some 25) rfl rfl Try.func13 (by kernel_rfl) rfl #[.int .i64 a0, .slice A2 l2.length c2] rfl (by (try simp only [List.map_toArray, List.map_cons, List.map_nil]); first | done | rfl | (simp only [List.length_drop, List.length_take]; rfl)) ?_; (with_reducible refine (canopylaw1_Syms.calls a0 _ _ l2 t667 _ ?side1 ?side2 A8.out).mono ?_); (case side1 => repeat (first | exact (Kd.C_below HR2.out HB.out) | (with_reducible refine Kd.C_alloc ?_ _) | (with_reducible refine Kd.C_drewN ?_ _) | (with_reducible refine Kd.C_drew ?_))); (case side2 => exact HC2.out); rintro e w17 ⟨v668, rfl, ho0, hb⟩; refine ⟨_, rfl, ?_⟩; have n0_ := Aside0.mk (Kd.R_lower ho0 (below_size (by repeat (first | (with_reducible first | exact HB.out | apply below_alloc | apply pw_below_drewN | apply below_drew1) | exact HB.out)))); have n1_ := Aside0.mk (below_step (by repeat (first | (with_reducible first | exact HB.out | apply below_alloc | apply pw_below_drewN | apply below_drew1) | exact HB.out)) hb); clear HB; have HO669 := n0_; have HB := n1_; clear n0_ n1_; (try clear hb); (try clear hb2); (try clear hk); (try clear hi); (try clear ho0); obtain ⟨Ao18, co18, eo18⟩ := Kd.R_slice HO669.out; subst eo18) | ((with_reducible refine gate_callee (f := 14) rfl ?_); refine goesL_ (some 29) rfl rfl Try.func14 (by kernel_rfl) rfl #[.slice Ao18 t667.length co18, .int .i64 a1, .slice A2 l2.length c2, .int .i64 4] rfl (by (try simp only [List.map_toArray, List.map_cons, List.map_nil]); first | done | rfl | (simp only [List.length_drop, List.length_take]; rfl)) ?_; (with_reducible refine (canopylaw3_Make.calls k _ _ t667 a1 _ _ l2 4 t670 t671 t672 t675 t678 t681 t684 _ ?side1 ?side2 ?side3 ?side4 A9.out).mono ?_); (case side1 => repeat (first | exact (Kd.R_reads' HO669.out).2.2 | (with_reducible refine Kd.C_alloc ?_ _) | (with_reducible refine Kd.C_drewN ?_ _) | (with_reducible refine Kd.C_drew ?_))); (case side2 => exact (Kd.R_reads' HO669.out).2.1); (case side3 => repeat (first | exact (Kd.C_below HR2.out HB.out) | (with_reducible refine Kd.C_alloc ?_ _) | (with_reducible refine Kd.C_drewN ?_ _) | (with_reducible refine Kd.C_drew ?_))); (case side4 => exact HC2.out); rintro e w19 ⟨v673, v676, v679, v682, v685, rfl, ho0, ho1, ho2, ho3, ho4, hb⟩; refine ⟨_, rfl, ?_⟩; have n0_ := Aside0.mk (Kd.R_below (by (with_reducible repeat (first | apply Kd.R_alloc | apply Kd.R_drewN | apply Kd.R_drew)); exact HO669.out) hb); have n1_ := Aside0.mk (Kd.R_lower ho0 (below_size (by repeat (first | (with_reducible first | exact HB.out | apply below_alloc | apply pw_below_drewN | apply below_drew1) | exact HB.out)))); have n2_ := Aside0.mk (Kd.R_lower ho1 (below_size (by repeat (first | (with_reducible first | exact HB.out | apply below_alloc | apply pw_below_drewN | apply below_drew1) | exact HB.out)))); have n3_ := Aside0.mk (Kd.R_lower ho2 (below_size (by repeat (first | (with_reducible first | exact HB.out | apply below_alloc | apply pw_below_drewN | apply below_drew1) | exact HB.out)))); have n4_ := Aside0.mk (Kd.R_lower ho3 (below_size (by repeat (first | (with_reducible first | exact HB.out | apply below_alloc | apply pw_below_drewN | apply below_drew1) | exact HB.out)))); have n5_ := Aside0.mk (Kd.R_lower ho4 (below_size (by repeat (first | (with_reducible first | exact HB.out | apply below_alloc | apply pw_below_drewN | apply below_drew1) | exact HB.out)))); have n6_ := Aside0.mk (below_step (by repeat (first | (with_reducible first | exact HB.out | apply below_alloc | apply pw_below_drewN | apply below_drew1) | exact HB.out)) hb); clear HO669; clear HB; have HO669 := n0_; have HO674 := n1_; have HO677 := n2_; have HO680 := n3_; have HO683 := n4_; have HO686 := n5_; have HB := n6_; clear n0_ n1_ n2_ n3_ n4_ n5_ n6_; (try clear hb); (try clear hb2); (try clear hk); (try clear hi); (try clear ho0); (try clear ho1); (try clear ho2); (try clear ho3); (try clear ho4)) | ((with_reducible refine gate_dst (N := 12) rfl ?_); refine box_event ?hg (N := 12) ?hd (cs := #[.int .i64 0, .int .i64 0, .slice none 0 0, .slice none 0 0, .slice none 0 0, .slice none 0 0, .slice none 0 0]) (t := 30) ?hr ?_; (case hd => rfl); (case hg => rfl); (case hr => first | (go_simp; done) | (go_simp; rfl)); intro gb687 hg w20 hbox hb; have n0_ := Aside0.mk (Kd.R_below (by (with_reducible repeat (first | apply Kd.R_alloc | apply Kd.R_drewN | apply Kd.R_drew)); exact HO669.out) hb); have n1_ := Aside0.mk (Kd.R_below (by (with_reducible repeat (first | apply Kd.R_alloc | apply Kd.R_drewN | apply Kd.R_drew)); exact HO674.out) hb); have n2_ := Aside0.mk (Kd.R_below (by (with_reducible repeat (first | apply Kd.R_alloc | apply Kd.R_drewN | apply Kd.R_drew)); exact HO677.out) hb); have n3_ := Aside0.mk (Kd.R_below (by (with_reducible repeat (first | apply Kd.R_alloc | apply Kd.R_drewN | apply Kd.R_drew)); exact HO680.out) hb); have n4_ := Aside0.mk (Kd.R_below (by (with_reducible repeat (first | apply Kd.R_alloc | apply Kd.R_drewN | apply Kd.R_drew)); exact HO683.out) hb); have n5_ := Aside0.mk (Kd.R_below (by (with_reducible repeat (first | apply Kd.R_alloc | apply Kd.R_drewN | apply Kd.R_drew)); exact HO686.out) hb); have n6_ := Aside0.mk (below_step (by repeat (first | (with_reducible first | exact HB.out | apply below_alloc | apply pw_below_drewN | apply below_drew1) | exact HB.out)) hb); have n7_ := Aside0.mk (hbox); have n8_ := Aside0.mk ((by rw [hg]; exact (below_size (by repeat (first | (with_reducible first | exact HB.out | apply below_alloc | apply pw_below_drewN | apply below_drew1) | exact HB.out))) : w.heap.size ≤ gb687)); have n9_ := Aside0.mk ((by rw [hg]; exact (below_size (by repeat (first | (with_reducible first | exact HB.out | apply below_alloc | apply pw_below_drewN | apply below_drew1) | exact HB.out))) : w.heap.size ≤ gb687)); clear HO669; clear HO674; clear HO677; clear HO680; clear HO683; clear HO686; clear HB; have HO669 := n0_; have HO674 := n1_; have HO677 := n2_; have HO680 := n3_; have HO683 := n4_; have HO686 := n5_; have HB := n6_; have BK687 := n7_; have GW687 := n8_; have GE687 := n9_; clear n0_ n1_ n2_ n3_ n4_ n5_ n6_ n7_ n8_ n9_; clear hb hbox hg; have hcz21_0 : w20.cell? ⟨gb687, 0, none⟩ = some (.int .i64 0) := (blk_cell BK687.out 0).trans rfl; have hcz21_1 : w20.cell? ⟨gb687, 1, none⟩ = some (.int .i64 0) := (blk_cell BK687.out 1).trans rfl; have hcz21_2 : w20.cell? ⟨gb687, 2, none⟩ = some (.slice none 0 0) := (blk_cell BK687.out 2).trans rfl; have hcz21_3 : w20.cell? ⟨gb687, 3, none⟩ = some (.slice none 0 0) := (blk_cell BK687.out 3).trans rfl; have hcz21_4 : w20.cell? ⟨gb687, 4, none⟩ = some (.slice none 0 0) := (blk_cell BK687.out 4).trans rfl; have hcz21_5 : w20.cell? ⟨gb687, 5, none⟩ = some (.slice none 0 0) := (blk_cell BK687.out 5).trans rfl; have hcz21_6 : w20.cell? ⟨gb687, 6, none⟩ = some (.slice none 0 0) := (blk_cell BK687.out 6).trans rfl; have hfz21_0 := blk_frozen BK687.out 0; have hfz21_1 := blk_frozen BK687.out 1; have hfz21_2 := blk_frozen BK687.out 2; have hfz21_3 := blk_frozen BK687.out 3; have hfz21_4 := blk_frozen BK687.out 4; have hfz21_5 := blk_frozen BK687.out 5; have hfz21_6 := blk_frozen BK687.out 6; obtain ⟨Ao22, co22, eo22⟩ := Kd.R_slice HO674.out; subst eo22; obtain ⟨Ao23, co23, eo23⟩ := Kd.R_slice HO677.out; subst eo23; obtain ⟨Ao24, co24, eo24⟩ := Kd.R_slice HO680.out; subst eo24; obtain ⟨Ao25, co25, eo25⟩ := Kd.R_slice HO683.out; subst eo25; obtain ⟨Ao26, co26, eo26⟩ := Kd.R_slice HO686.out; subst eo26) | ((with_reducible refine gate_callee (f := 16) rfl ?_); refine goesL_ (some 33) rfl rfl Try.func16 (by kernel_rfl) rfl #[.slice Ao18 t667.length co18, .slice A3 l3.length c3, .int .i64 10] rfl (by (try simp only [List.map_toArray, List.map_cons, List.map_nil]); first | done | rfl | (simp only [List.length_drop, List.length_take]; rfl)) ?_; (with_reducible refine (canopylaw1_Word.calls k _ _ t667 _ _ l3 10 t688 _ ?side1 ?side2 ?side3 ?side4 A10.out).mono ?_); (case side1 => refine (Kd.R_reads' (e := 46) (base := w.heap.size) (ok := fun k_ => True) (n := t667.length) (c := co18) ?_).2.2; exact (by (with_reducible repeat (first | apply Kd.R_alloc | apply Kd.R_drewN | apply Kd.R_drew)); exact (Kd.R_mono (Kd.R_far (p := ⟨gb687, 6, none⟩) (Kd.R_far (p := ⟨gb687, 5, none⟩) (Kd.R_far (p := ⟨gb687, 4, none⟩) (Kd.R_far (p := ⟨gb687, 3, none⟩) (Kd.R_far (p := ⟨gb687, 2, none⟩) (Kd.R_far (p := ⟨gb687, 1, none⟩) (Kd.R_far (p := ⟨gb687, 0, none⟩) (Kd.R_types HO669.out BK687.out (by decide)) (fun _ hk => hk.2) (.int .i64 t670)) (fun _ hk => hk.2) (.int .i64 t671)) (fun _ hk => hk.2) (.slice Ao22 t672.length co22)) (fun _ hk => hk.2) (.slice Ao23 t675.length co23)) (fun _ hk => hk.2) (.slice Ao24 t678.length co24)) (fun _ hk => hk.2) (.slice Ao25 t681.length co25)) (fun _ hk => hk.2) (.slice Ao26 t684.length co26)) (fun _ h_ => h_.1)))); (case side2 => exact (Kd.R_reads' HO669.out).2.1); (case side3 => exact Kd.C_below HR3.out (by repeat (first | (with_reducible first | exact HB.out | apply below_alloc | apply pw_below_drewN | apply below_drew1 | refine below_set ?_ GE687.out) | exact HB.out))); (case side4 => exact HC3.out); rintro e w27 ⟨v689, rfl, ho0, hb⟩; refine ⟨_, rfl, ?_⟩; have n0_ := Aside0.mk (Kd.R_below (by (with_reducible repeat (first | apply Kd.R_alloc | apply Kd.R_drewN | apply Kd.R_drew)); exact (Kd.R_mono (Kd.R_far (p := ⟨gb687, 6, none⟩) (Kd.R_far (p := ⟨gb687, 5, none⟩) (Kd.R_far (p := ⟨gb687, 4, none⟩) (Kd.R_far (p := ⟨gb687, 3, none⟩) (Kd.R_far (p := ⟨gb687, 2, none⟩) (Kd.R_far (p := ⟨gb687, 1, none⟩) (Kd.R_far (p := ⟨gb687, 0, none⟩) (Kd.R_types HO669.out BK687.out (by decide)) (fun _ hk => hk.2) (.int .i64 t670)) (fun _ hk => hk.2) (.int .i64 t671)) (fun _ hk => hk.2) (.slice Ao22 t672.length co22)) (fun _ hk => hk.2) (.slice Ao23 t675.length co23)) (fun _ hk => hk.2) (.slice Ao24 t678.length co24)) (fun _ hk => hk.2) (.slice Ao25 t681.length co25)) (fun _ hk => hk.2) (.slice Ao26 t684.length co26)) (fun _ h_ => h_.1))) hb); have n1_ := Aside0.mk (Kd.R_elder' (by (with_reducible repeat (first | apply Kd.R_alloc | apply Kd.R_drewN | apply Kd.R_drew)); exact (Kd.R_mono (Kd.R_far (p := ⟨gb687, 6, none⟩) (Kd.R_far (p := ⟨gb687, 5, none⟩) (Kd.R_far (p := ⟨gb687, 4, none⟩) (Kd.R_far (p := ⟨gb687, 3, none⟩) (Kd.R_far (p := ⟨gb687, 2, none⟩) (Kd.R_far (p := ⟨gb687, 1, none⟩) (Kd.R_far (p := ⟨gb687, 0, none⟩) (Kd.R_types HO674.out BK687.out (by decide)) (fun _ hk => hk.2) (.int .i64 t670)) (fun _ hk => hk.2) (.int .i64 t671)) (fun _ hk => hk.2) (.slice Ao22 t672.length co22)) (fun _ hk => hk.2) (.slice Ao23 t675.length co23)) (fun _ hk => hk.2) (.slice Ao24 t678.length co24)) (fun _ hk => hk.2) (.slice Ao25 t681.length co25)) (fun _ hk => hk.2) (.slice Ao26 t684.length co26)) (fun _ h_ => h_.1))) (Kd.R_base ho0) hb); have n2_ := Aside0.mk (Kd.R_elder' (by (with_reducible repeat (first | apply Kd.R_alloc | apply Kd.R_drewN | apply Kd.R_drew)); exact (Kd.R_mono (Kd.R_far (p := ⟨gb687, 6, none⟩) (Kd.R_far (p := ⟨gb687, 5, none⟩) (Kd.R_far (p := ⟨gb687, 4, none⟩) (Kd.R_far (p := ⟨gb687, 3, none⟩) (Kd.R_far (p := ⟨gb687, 2, none⟩) (Kd.R_far (p := ⟨gb687, 1, none⟩) (Kd.R_far (p := ⟨gb687, 0, none⟩) (Kd.R_types HO677.out BK687.out (by decide)) (fun _ hk => hk.2) (.int .i64 t670)) (fun _ hk => hk.2) (.int .i64 t671)) (fun _ hk => hk.2) (.slice Ao22 t672.length co22)) (fun _ hk => hk.2) (.slice Ao23 t675.length co23)) (fun _ hk => hk.2) (.slice Ao24 t678.length co24)) (fun _ hk => hk.2) (.slice Ao25 t681.length co25)) (fun _ hk => hk.2) (.slice Ao26 t684.length co26)) (fun _ h_ => h_.1))) (Kd.R_base ho0) hb); have n3_ := Aside0.mk (Kd.R_below (by (with_reducible repeat (first | apply Kd.R_alloc | apply Kd.R_drewN | apply Kd.R_drew)); exact (Kd.R_mono (Kd.R_far (p := ⟨gb687, 6, none⟩) (Kd.R_far (p := ⟨gb687, 5, none⟩) (Kd.R_far (p := ⟨gb687, 4, none⟩) (Kd.R_far (p := ⟨gb687, 3, none⟩) (Kd.R_far (p := ⟨gb687, 2, none⟩) (Kd.R_far (p := ⟨gb687, 1, none⟩) (Kd.R_far (p := ⟨gb687, 0, none⟩) (Kd.R_types HO680.out BK687.out (by decide)) (fun _ hk => hk.2) (.int .i64 t670)) (fun _ hk => hk.2) (.int .i64 t671)) (fun _ hk => hk.2) (.slice Ao22 t672.length co22)) (fun _ hk => hk.2) (.slice Ao23 t675.length co23)) (fun _ hk => hk.2) (.slice Ao24 t678.length co24)) (fun _ hk => hk.2) (.slice Ao25 t681.length co25)) (fun _ hk => hk.2) (.slice Ao26 t684.length co26)) (fun _ h_ => h_.1))) hb); have n4_ := Aside0.mk (Kd.R_below (by (with_reducible repeat (first | apply Kd.R_alloc | apply Kd.R_drewN | apply Kd.R_drew)); exact (Kd.R_mono (Kd.R_far (p := ⟨gb687, 6, none⟩) (Kd.R_far (p := ⟨gb687, 5, none⟩) (Kd.R_far (p := ⟨gb687, 4, none⟩) (Kd.R_far (p := ⟨gb687, 3, none⟩) (Kd.R_far (p := ⟨gb687, 2, none⟩) (Kd.R_far (p := ⟨gb687, 1, none⟩) (Kd.R_far (p := ⟨gb687, 0, none⟩) (Kd.R_types HO683.out BK687.out (by decide)) (fun _ hk => hk.2) (.int .i64 t670)) (fun _ hk => hk.2) (.int .i64 t671)) (fun _ hk => hk.2) (.slice Ao22 t672.length co22)) (fun _ hk => hk.2) (.slice Ao23 t675.length co23)) (fun _ hk => hk.2) (.slice Ao24 t678.length co24)) (fun _ hk => hk.2) (.slice Ao25 t681.length co25)) (fun _ hk => hk.2) (.slice Ao26 t684.length co26)) (fun _ h_ => h_.1))) hb); have n5_ := Aside0.mk (Kd.R_below (by (with_reducible repeat (first | apply Kd.R_alloc | apply Kd.R_drewN | apply Kd.R_drew)); exact (Kd.R_mono (Kd.R_far (p := ⟨gb687, 6, none⟩) (Kd.R_far (p := ⟨gb687, 5, none⟩) (Kd.R_far (p := ⟨gb687, 4, none⟩) (Kd.R_far (p := ⟨gb687, 3, none⟩) (Kd.R_far (p := ⟨gb687, 2, none⟩) (Kd.R_far (p := ⟨gb687, 1, none⟩) (Kd.R_far (p := ⟨gb687, 0, none⟩) (Kd.R_types HO686.out BK687.out (by decide)) (fun _ hk => hk.2) (.int .i64 t670)) (fun _ hk => hk.2) (.int .i64 t671)) (fun _ hk => hk.2) (.slice Ao22 t672.length co22)) (fun _ hk => hk.2) (.slice Ao23 t675.length co23)) (fun _ hk => hk.2) (.slice Ao24 t678.length co24)) (fun _ hk => hk.2) (.slice Ao25 t681.length co25)) (fun _ hk => hk.2) (.slice Ao26 t684.length co26)) (fun _ h_ => h_.1))) hb); have n6_ := Aside0.mk (Kd.R_lower (Kd.R_new' (Kd.R_new' ho0 (Kd.R_lt (by (with_reducible repeat (first | apply Kd.R_alloc | apply Kd.R_drewN | apply Kd.R_drew)); exact (Kd.R_mono (Kd.R_far (p := ⟨gb687, 6, none⟩) (Kd.R_far (p := ⟨gb687, 5, none⟩) (Kd.R_far (p := ⟨gb687, 4, none⟩) (Kd.R_far (p := ⟨gb687, 3, none⟩) (Kd.R_far (p := ⟨gb687, 2, none⟩) (Kd.R_far (p := ⟨gb687, 1, none⟩) (Kd.R_far (p := ⟨gb687, 0, none⟩) (Kd.R_types HO674.out BK687.out (by decide)) (fun _ hk => hk.2) (.int .i64 t670)) (fun _ hk => hk.2) (.int .i64 t671)) (fun _ hk => hk.2) (.slice Ao22 t672.length co22)) (fun _ hk => hk.2) (.slice Ao23 t675.length co23)) (fun _ hk => hk.2) (.slice Ao24 t678.length co24)) (fun _ hk => hk.2) (.slice Ao25 t681.length co25)) (fun _ hk => hk.2) (.slice Ao26 t684.length co26)) (fun _ h_ => h_.1))))) (Kd.R_lt (by (with_reducible repeat (first | apply Kd.R_alloc | apply Kd.R_drewN | apply Kd.R_drew)); exact (Kd.R_mono (Kd.R_far (p := ⟨gb687, 6, none⟩) (Kd.R_far (p := ⟨gb687, 5, none⟩) (Kd.R_far (p := ⟨gb687, 4, none⟩) (Kd.R_far (p := ⟨gb687, 3, none⟩) (Kd.R_far (p := ⟨gb687, 2, none⟩) (Kd.R_far (p := ⟨gb687, 1, none⟩) (Kd.R_far (p := ⟨gb687, 0, none⟩) (Kd.R_types HO677.out BK687.out (by decide)) (fun _ hk => hk.2) (.int .i64 t670)) (fun _ hk => hk.2) (.int .i64 t671)) (fun _ hk => hk.2) (.slice Ao22 t672.length co22)) (fun _ hk => hk.2) (.slice Ao23 t675.length co23)) (fun _ hk => hk.2) (.slice Ao24 t678.length co24)) (fun _ hk => hk.2) (.slice Ao25 t681.length co25)) (fun _ hk => hk.2) (.slice Ao26 t684.length co26)) (fun _ h_ => h_.1))))) (below_size (by repeat (first | (with_reducible first | exact HB.out | apply below_alloc | apply pw_below_drewN | apply below_drew1 | refine below_set ?_ GE687.out) | exact HB.out)))); have n7_ := Aside0.mk (blk_below (g := gb687) (o := .cells #[.int .i64 t670, .int .i64 t671, .slice Ao22 t672.length co22, .slice Ao23 t675.length co23, .slice Ao24 t678.length co24, .slice Ao25 t681.length co25, .slice Ao26 t684.length co26] 30 (0, 0)) (by (with_reducible repeat (first | refine blk_drewN ?_ _ | refine blk_drew ?_ | refine blk_alloc ?_ _)); refine blk_put (cs := #[.int .i64 t670, .int .i64 t671, .slice Ao22 t672.length co22, .slice Ao23 t675.length co23, .slice Ao24 t678.length co24, .slice Ao25 t681.length co25, .slice none 0 0]) ?_ 6 _ rfl; (with_reducible repeat (first | refine blk_drewN ?_ _ | refine blk_drew ?_ | refine blk_alloc ?_ _)); refine blk_put (cs := #[.int .i64 t670, .int .i64 t671, .slice Ao22 t672.length co22, .slice Ao23 t675.length co23, .slice Ao24 t678.length co24, .slice none 0 0, .slice none 0 0]) ?_ 5 _ rfl; (with_reducible repeat (first | refine blk_drewN ?_ _ | refine blk_drew ?_ | refine blk_alloc ?_ _)); refine blk_put (cs := #[.int .i64 t670, .int .i64 t671, .slice Ao22 t672.length co22, .slice Ao23 t675.length co23, .slice none 0 0, .slice none 0 0, .slice none 0 0]) ?_ 4 _ rfl; (with_reducible repeat (first | refine blk_drewN ?_ _ | refine blk_drew ?_ | refine blk_alloc ?_ _)); refine blk_put (cs := #[.int .i64 t670, .int .i64 t671, .slice Ao22 t672.length co22, .slice none 0 0, .slice none 0 0, .slice none 0 0, .slice none 0 0]) ?_ 3 _ rfl; (with_reducible repeat (first | refine blk_drewN ?_ _ | refine blk_drew ?_ | refine blk_alloc ?_ _)); refine blk_put (cs := #[.int .i64 t670, .int .i64 t671, .slice none 0 0, .slice none 0 0, .slice none 0 0, .slice none 0 0, .slice none 0 0]) ?_ 2 _ rfl; (with_reducible repeat (first | refine blk_drewN ?_ _ | refine blk_drew ?_ | refine blk_alloc ?_ _)); refine blk_put (cs := #[.int .i64 t670, .int .i64 0, .slice none 0 0, .slice none 0 0, .slice none 0 0, .slice none 0 0, .slice none 0 0]) ?_ 1 _ rfl; (with_reducible repeat (first | refine blk_drewN ?_ _ | refine blk_drew ?_ | refine blk_alloc ?_ _)); refine blk_put (cs := #[.int .i64 0, .int .i64 0, .slice none 0 0, .slice none 0 0, .slice none 0 0, .slice none 0 0, .slice none 0 0]) ?_ 0 _ rfl; (with_reducible repeat (first | refine blk_drewN ?_ _ | refine blk_drew ?_ | refine blk_alloc ?_ _)); exact BK687.out) hb); have n8_ := Aside0.mk (below_step (by repeat (first | (with_reducible first | exact HB.out | apply below_alloc | apply pw_below_drewN | apply below_drew1 | refine below_set ?_ GE687.out) | exact HB.out)) hb); clear HO669; clear HO674; clear HO677; clear HO680; clear HO683; clear HO686; clear BK687; clear HB; have HO669 := n0_; have HO674 := n1_; have HO677 := n2_; have HO680 := n3_; have HO683 := n4_; have HO686 := n5_; have HO690 := n6_; have BK687 := n7_; have HB := n8_; clear n0_ n1_ n2_ n3_ n4_ n5_ n6_ n7_ n8_; (try clear hb); (try clear hb2); (try clear hk); (try clear hi); (try clear ho0); obtain ⟨Ao28, co28, eo28⟩ := Kd.R_slice HO690.out; subst eo28) | ((with_reducible refine gate_callee (f := 15) rfl ?_); refine goesL_ (some 34) rfl rfl Try.func15 (by kernel_rfl) rfl #[.slice Ao18 t667.length co18, .slice Ao28 t688.length co28, .int .i64 5] rfl (by (try simp only [List.map_toArray, List.map_cons, List.map_nil]); first | done | rfl | (simp only [List.length_drop, List.length_take]; rfl)) ?_; (with_reducible refine (canopylaw4_few.calls k _ _ t667 (fun k_ => some k_ = (.slice Ao28 t688.length co28 : Value).ownBlock) (.slice Ao28 t688.length co28) t688 5 t691 w _ ?side1 ?side2 ?side3 ?side4 A11.out).mono ?_); (case side1 => repeat (first | (with_reducible first | exact HB.out | apply below_alloc | apply pw_below_drewN | apply below_drew1 | refine below_set ?_ GE687.out) | exact HB.out)); (case side2 => exact Kd.C_kept_own ((Kd.R_apart' HO669.out (Kd.R_typed HO690.out) (by decide))) (fun k_ hk_ hs_ => (hk_.2) hs_)); (case side3 => exact (Kd.R_reads' HO669.out).2.1); (case side4 => exact Kd.R_tight rfl HO690.out); rintro e w29 ⟨v692, rfl, ho0, hb, hkp⟩; refine ⟨_, rfl, ?_⟩; have n0_ := Aside0.mk (Kd.R_mono (ok' := fun k_ => True) (Kd.R_keptB ((Kd.R_apart' HO669.out (Kd.R_typed HO690.out) (by decide))) hkp (fun k_ hk_ hs_ => (hk_.2) hs_)) (fun k_ hk_ => trivial)); have n1_ := Aside0.mk (Kd.R_mono (ok' := fun k_ => some k_ ≠ (.slice Ao23 t675.length co23 : Value).ownBlock ∧ some k_ ≠ (v692 : Value).ownBlock) (Kd.R_keptB (HO674.out) hkp (fun k_ hk_ hs_ => (hk_.2) hs_)) (fun k_ hk_ => ⟨hk_.1.1, fun e_ => Or.elim (ho0.1 k_ e_.symm) (fun hs_ => hk_.2.1 hs_) (fun hn_ => Nat.not_le.2 hk_.2.2 hn_)⟩)); have n2_ := Aside0.mk (Kd.R_mono (ok' := fun k_ => some k_ ≠ (.slice Ao22 t672.length co22 : Value).ownBlock ∧ some k_ ≠ (v692 : Value).ownBlock) (Kd.R_keptB (HO677.out) hkp (fun k_ hk_ hs_ => (hk_.2) hs_)) (fun k_ hk_ => ⟨hk_.1.1, fun e_ => Or.elim (ho0.1 k_ e_.symm) (fun hs_ => hk_.2.1 hs_) (fun hn_ => Nat.not_le.2 hk_.2.2 hn_)⟩)); have n3_ := Aside0.mk (Kd.R_mono (ok' := fun k_ => True) (Kd.R_keptB ((Kd.R_apart' HO680.out (Kd.R_typed HO690.out) (by decide))) hkp (fun k_ hk_ hs_ => (hk_.2) hs_)) (fun k_ hk_ => trivial)); have n4_ := Aside0.mk (Kd.R_mono (ok' := fun k_ => True) (Kd.R_keptB ((Kd.R_apart' HO683.out (Kd.R_typed HO690.out) (by decide))) hkp (fun k_ hk_ hs_ => (hk_.2) hs_)) (fun k_ hk_ => trivial)); have n5_ := Aside0.mk (Kd.R_mono (ok' := fun k_ => True) (Kd.R_keptB ((Kd.R_apart' HO686.out (Kd.R_typed HO690.out) (by decide))) hkp (fun k_ hk_ hs_ => (hk_.2) hs_)) (fun k_ hk_ => trivial)); have n6_ := Aside0.mk (blk_kept (by (with_reducible repeat (first | refine blk_drewN ?_ _ | refine blk_drew ?_ | refine blk_alloc ?_ _)); exact BK687.out) hkp (fun hs_ => (fun e_ => (Kd.R_ne HO690.out BK687.out (by decide)) e_) hs_)); have n7_ := Aside0.mk (Kd.R_mono (ok' := fun k_ => some k_ ≠ (.slice Ao22 t672.length co22 : Value).ownBlock ∧ some k_ ≠ (.slice Ao23 t675.length co23 : Value).ownBlock) ho0 (fun k_ hk_ => ⟨Or.elim hk_ (fun hs_ => fun e_ => (((HO674.out).1 k_ e_.symm).2) hs_) (fun hn_ => (Kd.fresh' (Kd.R_lt (by (with_reducible repeat (first | apply Kd.R_alloc | apply Kd.R_drewN | apply Kd.R_drew)); exact HO674.out)) k_ hn_)), Or.elim hk_ (fun hs_ => fun e_ => (((HO677.out).1 k_ e_.symm).2) hs_) (fun hn_ => (Kd.fresh' (Kd.R_lt (by (with_reducible repeat (first | apply Kd.R_alloc | apply Kd.R_drewN | apply Kd.R_drew)); exact HO677.out)) k_ hn_))⟩)); have n8_ := Aside0.mk (hb); clear HO669; clear HO674; clear HO677; clear HO680; clear HO683; clear HO686; clear BK687; clear HB; clear HO690; have HO669 := n0_; have HO674 := n1_; have HO677 := n2_; have HO680 := n3_; have HO683 := n4_; have HO686 := n5_; have BK687 := n6_; have HO693 := n7_; have HB := n8_; clear n0_ n1_ n2_ n3_ n4_ n5_ n6_ n7_ n8_; (try clear hb); (try clear hkp); (try clear ho0); obtain ⟨Ao30, co30, eo30⟩ := Kd.R_slice HO693.out; subst eo30) | ((with_reducible refine gate_callee (f := 26) rfl ?_); refine goesL_ (some 39) rfl rfl Try.func26 (by kernel_rfl) rfl #[.int .i64 a4, .int .i64 (wrap64 ((t691.length : Int) + 1))] rfl (by (try simp only [List.map_toArray, List.map_cons, List.map_nil]); first | done | rfl | (simp only [List.length_drop, List.length_take]; rfl)) ?_; (with_reducible refine (canopylaw4_within.calls a4 (wrap64 ((t691.length : Int) + 1)) t694 _ A12.out).mono ?_); rintro e w' ⟨rfl, ⟨nd, rfl⟩⟩; refine ⟨_, rfl, ?_⟩; (try (rw [drewN_self w29]; generalize hq_ : World.drewN w29 _ = w29; have n0_ : Aside0 (Kd.R k46 46 w29 w.heap.size (fun _ => True) (.slice Ao18 t667.length co18) t667) := ⟨by rw [← hq_]; exact (by (with_reducible repeat (first | apply Kd.R_alloc | apply Kd.R_drewN | apply Kd.R_drew)); exact HO669.out)⟩; have n1_ : Aside0 (Kd.R (Kd.int .i64) 3 w29 w.heap.size (fun k_ => some k_ ≠ (.slice Ao23 t675.length co23 : Value).ownBlock ∧ some k_ ≠ (.slice Ao30 t691.length co30 : Value).ownBlock) (.slice Ao22 t672.length co22) t672) := ⟨by rw [← hq_]; exact (by (with_reducible repeat (first | apply Kd.R_alloc | apply Kd.R_drewN | apply Kd.R_drew)); exact HO674.out)⟩; have n2_ : Aside0 (Kd.R (Kd.int .i64) 3 w29 w.heap.size (fun k_ => some k_ ≠ (.slice Ao22 t672.length co22 : Value).ownBlock ∧ some k_ ≠ (.slice Ao30 t691.length co30 : Value).ownBlock) (.slice Ao23 t675.length co23) t675) := ⟨by rw [← hq_]; exact (by (with_reducible repeat (first | apply Kd.R_alloc | apply Kd.R_drewN | apply Kd.R_drew)); exact HO677.out)⟩; have n3_ : Aside0 (Kd.R k52 52 w29 w.heap.size (fun _ => True) (.slice Ao24 t678.length co24) t678) := ⟨by rw [← hq_]; exact (by (with_reducible repeat (first | apply Kd.R_alloc | apply Kd.R_drewN | apply Kd.R_drew)); exact HO680.out)⟩; have n4_ : Aside0 (Kd.R k54 54 w29 w.heap.size (fun _ => True) (.slice Ao25 t681.length co25) t681) := ⟨by rw [← hq_]; exact (by (with_reducible repeat (first | apply Kd.R_alloc | apply Kd.R_drewN | apply Kd.R_drew)); exact HO683.out)⟩; have n5_ : Aside0 (Kd.R k56 56 w29 w.heap.size (fun _ => True) (.slice Ao26 t684.length co26) t684) := ⟨by rw [← hq_]; exact (by (with_reducible repeat (first | apply Kd.R_alloc | apply Kd.R_drewN | apply Kd.R_drew)); exact HO686.out)⟩; have n6_ : Aside0 (Kd.R (Kd.int .i64) 3 w29 w.heap.size (fun k_ => some k_ ≠ (.slice Ao22 t672.length co22 : Value).ownBlock ∧ some k_ ≠ (.slice Ao23 t675.length co23 : Value).ownBlock) (.slice Ao30 t691.length co30) t691) := ⟨by rw [← hq_]; exact (by (with_reducible repeat (first | apply Kd.R_alloc | apply Kd.R_drewN | apply Kd.R_drew)); exact HO693.out)⟩; have n7_ : Aside0 (w29.heap[gb687]? = some (.cells #[.int .i64 t670, .int .i64 t671, .slice Ao22 t672.length co22, .slice Ao23 t675.length co23, .slice Ao24 t678.length co24, .slice Ao25 t681.length co25, .slice Ao26 t684.length co26] 30 (0, 0))) := ⟨by rw [← hq_]; exact (by (with_reducible repeat (first | refine blk_drewN ?_ _ | refine blk_drew ?_ | refine blk_alloc ?_ _)); exact BK687.out)⟩; have n8_ : Aside0 (Below w.heap.size w w29) := ⟨by rw [← hq_]; exact (by repeat (first | (with_reducible first | exact HB.out | apply below_alloc | apply pw_below_drewN | apply below_drew1 | refine below_set ?_ GE687.out) | exact HB.out))⟩; clear HO669 HO674 HO677 HO680 HO683 HO686 HO693 BK687 HB hq_; have HO669 := n0_; have HO674 := n1_; have HO677 := n2_; have HO680 := n3_; have HO683 := n4_; have HO686 := n5_; have HO693 := n6_; have BK687 := n7_; have HB := n8_; clear n0_ n1_ n2_ n3_ n4_ n5_ n6_ n7_ n8_)); have hcz31_0 : w29.cell? ⟨gb687, 0, none⟩ = some (.int .i64 t670) := (blk_cell BK687.out 0).trans rfl; have hcz31_1 : w29.cell? ⟨gb687, 1, none⟩ = some (.int .i64 t671) := (blk_cell BK687.out 1).trans rfl; have hcz31_2 : w29.cell? ⟨gb687, 2, none⟩ = some (.slice Ao22 t672.length co22) := (blk_cell BK687.out 2).trans rfl; have hcz31_3 : w29.cell? ⟨gb687, 3, none⟩ = some (.slice Ao23 t675.length co23) := (blk_cell BK687.out 3).trans rfl; have hcz31_4 : w29.cell? ⟨gb687, 4, none⟩ = some (.slice Ao24 t678.length co24) := (blk_cell BK687.out 4).trans rfl; have hcz31_5 : w29.cell? ⟨gb687, 5, none⟩ = some (.slice Ao25 t681.length co25) := (blk_cell BK687.out 5).trans rfl; have hcz31_6 : w29.cell? ⟨gb687, 6, none⟩ = some (.slice Ao26 t684.length co26) := (blk_cell BK687.out 6).trans rfl; have hfz31_0 := blk_frozen BK687.out 0; have hfz31_1 := blk_frozen BK687.out 1; have hfz31_2 := blk_frozen BK687.out 2; have hfz31_3 := blk_frozen BK687.out 3; have hfz31_4 := blk_frozen BK687.out 4; have hfz31_5 := blk_frozen BK687.out 5; have hfz31_6 := blk_frozen BK687.out 6) | ((with_reducible refine gate_dst (N := 15) rfl ?_); refine box_event ?hg (N := 15) ?hd (cs := #[.int .i64 0, .int .i64 0, .slice none 0 0, .slice none 0 0, .slice none 0 0, .slice none 0 0, .slice none 0 0]) (t := 30) ?hr ?_; (case hd => rfl); (case hg => rfl); (case hr => first | (go_simp; done) | (go_simp; rfl)); intro gb695 hg w32 hbox hb; have n0_ := Aside0.mk (Kd.R_below (by (with_reducible repeat (first | apply Kd.R_alloc | apply Kd.R_drewN | apply Kd.R_drew)); exact HO669.out) hb); have n1_ := Aside0.mk (Kd.R_below (by (with_reducible repeat (first | apply Kd.R_alloc | apply Kd.R_drewN | apply Kd.R_drew)); exact HO674.out) hb); have n2_ := Aside0.mk (Kd.R_below (by (with_reducible repeat (first | apply Kd.R_alloc | apply Kd.R_drewN | apply Kd.R_drew)); exact HO677.out) hb); have n3_ := Aside0.mk (Kd.R_below (by (with_reducible repeat (first | apply Kd.R_alloc | apply Kd.R_drewN | apply Kd.R_drew)); exact HO680.out) hb); have n4_ := Aside0.mk (Kd.R_below (by (with_reducible repeat (first | apply Kd.R_alloc | apply Kd.R_drewN | apply Kd.R_drew)); exact HO683.out) hb); have n5_ := Aside0.mk (Kd.R_below (by (with_reducible repeat (first | apply Kd.R_alloc | apply Kd.R_drewN | apply Kd.R_drew)); exact HO686.out) hb); have n6_ := Aside0.mk (Kd.R_below (by (with_reducible repeat (first | apply Kd.R_alloc | apply Kd.R_drewN | apply Kd.R_drew)); exact HO693.out) hb); have n7_ := Aside0.mk (blk_below (g := gb687) (o := .cells #[.int .i64 t670, .int .i64 t671, .slice Ao22 t672.length co22, .slice Ao23 t675.length co23, .slice Ao24 t678.length co24, .slice Ao25 t681.length co25, .slice Ao26 t684.length co26] 30 (0, 0)) (by (with_reducible repeat (first | refine blk_drewN ?_ _ | refine blk_drew ?_ | refine blk_alloc ?_ _)); exact BK687.out) hb); have n8_ := Aside0.mk (below_step (by repeat (first | (with_reducible first | exact HB.out | apply below_alloc | apply pw_below_drewN | apply below_drew1 | refine below_set ?_ GE687.out) | exact HB.out)) hb); have n9_ := Aside0.mk (hbox); have n10_ := Aside0.mk ((by rw [hg]; exact (below_size (by repeat (first | (with_reducible first | exact HB.out | apply below_alloc | apply pw_below_drewN | apply below_drew1 | refine below_set ?_ GE687.out) | exact HB.out))) : w.heap.size ≤ gb695)); have n11_ := Aside0.mk ((by rw [hg]; exact (below_size (by repeat (first | (with_reducible first | exact HB.out | apply below_alloc | apply pw_below_drewN | apply below_drew1 | refine below_set ?_ GE687.out) | exact HB.out))) : w.heap.size ≤ gb695)); have n12_ := Aside0.mk ((by rw [hg]; exact Nat.ne_of_lt (blk_lt (g := gb687) (o := .cells #[.int .i64 t670, .int .i64 t671, .slice Ao22 t672.length co22, .slice Ao23 t675.length co23, .slice Ao24 t678.length co24, .slice Ao25 t681.length co25, .slice Ao26 t684.length co26] 30 (0, 0)) (by (with_reducible repeat (first | refine blk_drewN ?_ _ | refine blk_drew ?_ | refine blk_alloc ?_ _)); exact BK687.out)) : gb687 ≠ gb695)); have n13_ := Aside0.mk ((by rw [hg]; exact Nat.ne_of_gt (blk_lt (g := gb687) (o := .cells #[.int .i64 t670, .int .i64 t671, .slice Ao22 t672.length co22, .slice Ao23 t675.length co23, .slice Ao24 t678.length co24, .slice Ao25 t681.length co25, .slice Ao26 t684.length co26] 30 (0, 0)) (by (with_reducible repeat (first | refine blk_drewN ?_ _ | refine blk_drew ?_ | refine blk_alloc ?_ _)); exact BK687.out)) : gb695 ≠ gb687)); clear HO669; clear HO674; clear HO677; clear HO680; clear HO683; clear HO686; clear HO693; clear BK687; clear HB; have HO669 := n0_; have HO674 := n1_; have HO677 := n2_; have HO680 := n3_; have HO683 := n4_; have HO686 := n5_; have HO693 := n6_; have BK687 := n7_; have HB := n8_; have BK695 := n9_; have GW695 := n10_; have GE695 := n11_; have NB687_695 := n12_; have NB695_687 := n13_; clear n0_ n1_ n2_ n3_ n4_ n5_ n6_ n7_ n8_ n9_ n10_ n11_ n12_ n13_; clear hb hbox hg; have hnb33 := NB695_687.out; have hnc33 := NB687_695.out; have hcz34_0 : w32.cell? ⟨gb695, 0, none⟩ = some (.int .i64 0) := (blk_cell BK695.out 0).trans rfl; have hcz34_1 : w32.cell? ⟨gb695, 1, none⟩ = some (.int .i64 0) := (blk_cell BK695.out 1).trans rfl; have hcz34_2 : w32.cell? ⟨gb695, 2, none⟩ = some (.slice none 0 0) := (blk_cell BK695.out 2).trans rfl; have hcz34_3 : w32.cell? ⟨gb695, 3, none⟩ = some (.slice none 0 0) := (blk_cell BK695.out 3).trans rfl; have hcz34_4 : w32.cell? ⟨gb695, 4, none⟩ = some (.slice none 0 0) := (blk_cell BK695.out 4).trans rfl; have hcz34_5 : w32.cell? ⟨gb695, 5, none⟩ = some (.slice none 0 0) := (blk_cell BK695.out 5).trans rfl; have hcz34_6 : w32.cell? ⟨gb695, 6, none⟩ = some (.slice none 0 0) := (blk_cell BK695.out 6).trans rfl; have hfz34_0 := blk_frozen BK695.out 0; have hfz34_1 := blk_frozen BK695.out 1; have hfz34_2 := blk_frozen BK695.out 2; have hfz34_3 := blk_frozen BK695.out 3; have hfz34_4 := blk_frozen BK695.out 4; have hfz34_5 := blk_frozen BK695.out 5; have hfz34_6 := blk_frozen BK695.out 6; have hcz35_0 : w32.cell? ⟨gb687, 0, none⟩ = some (.int .i64 t670) := (blk_cell BK687.out 0).trans rfl; have hcz35_1 : w32.cell? ⟨gb687, 1, none⟩ = some (.int .i64 t671) := (blk_cell BK687.out 1).trans rfl; have hcz35_2 : w32.cell? ⟨gb687, 2, none⟩ = some (.slice Ao22 t672.length co22) := (blk_cell BK687.out 2).trans rfl; have hcz35_3 : w32.cell? ⟨gb687, 3, none⟩ = some (.slice Ao23 t675.length co23) := (blk_cell BK687.out 3).trans rfl; have hcz35_4 : w32.cell? ⟨gb687, 4, none⟩ = some (.slice Ao24 t678.length co24) := (blk_cell BK687.out 4).trans rfl; have hcz35_5 : w32.cell? ⟨gb687, 5, none⟩ = some (.slice Ao25 t681.length co25) := (blk_cell BK687.out 5).trans rfl; have hcz35_6 : w32.cell? ⟨gb687, 6, none⟩ = some (.slice Ao26 t684.length co26) := (blk_cell BK687.out 6).trans rfl; have hfz35_0 := blk_frozen BK687.out 0; have hfz35_1 := blk_frozen BK687.out 1; have hfz35_2 := blk_frozen BK687.out 2; have hfz35_3 := blk_frozen BK687.out 3; have hfz35_4 := blk_frozen BK687.out 4; have hfz35_5 := blk_frozen BK687.out 5; have hfz35_6 := blk_frozen BK687.out 6) | ((with_reducible refine gate_dst (N := 44) rfl ?_); refine Kd.R_make Kd.bool _ 4 rfl (N := 44) rfl 59 _ _ rfl t670 rfl rfl Try.underlying59 (.bool false) 1 info4 rfl (by decide) (by omega) false (ok := fun _ => True) (okp := fun _ => True) rfl (fun _ hk => hk) trivial (of_decide_eq_true (by first | (with_reducible assumption) | assumption)) (Nat.le_trans (Nat.mul_le_mul_right _ (of_decide_eq_true (by first | (with_reducible assumption) | assumption) : t670.toNat ≤ 281474976710656)) (by omega)) (Below.refl _ _) (Nat.le_refl _) ?_; intro v697 w36 ho37 hb hg_ hnew_; clear hg_ hnew_; (first | rw [← Ny696.out] at ho37 | (simp only [Int.reduceToNat] at ho37; rw [← Ny696.out] at ho37)); have n0_ := Aside0.mk (Kd.R_below (by (with_reducible repeat (first | apply Kd.R_alloc | apply Kd.R_drewN | apply Kd.R_drew)); exact (Kd.R_mono (Kd.R_far (p := ⟨gb695, 3, none⟩) (Kd.R_far (p := ⟨gb695, 6, none⟩) (Kd.R_far (p := ⟨gb695, 5, none⟩) (Kd.R_far (p := ⟨gb695, 4, none⟩) (Kd.R_far (p := ⟨gb695, 3, none⟩) (Kd.R_far (p := ⟨gb695, 2, none⟩) (Kd.R_far (p := ⟨gb695, 1, none⟩) (Kd.R_far (p := ⟨gb695, 0, none⟩) (Kd.R_types HO669.out BK695.out (by decide)) (fun _ hk => hk.2) (.int .i64 t670)) (fun _ hk => hk.2) (.int .i64 t671)) (fun _ hk => hk.2) (.slice Ao22 t672.length co22)) (fun _ hk => hk.2) (.slice Ao23 t675.length co23)) (fun _ hk => hk.2) (.slice Ao24 t678.length co24)) (fun _ hk => hk.2) (.slice Ao25 t681.length co25)) (fun _ hk => hk.2) (.slice Ao26 t684.length co26)) (fun _ hk => hk.2) (.slice none 0 0)) (fun _ h_ => h_.1))) hb); have n1_ := Aside0.mk (Kd.R_below (by (with_reducible repeat (first | apply Kd.R_alloc | apply Kd.R_drewN | apply Kd.R_drew)); exact (Kd.R_mono (Kd.R_far (p := ⟨gb695, 3, none⟩) (Kd.R_far (p := ⟨gb695, 6, none⟩) (Kd.R_far (p := ⟨gb695, 5, none⟩) (Kd.R_far (p := ⟨gb695, 4, none⟩) (Kd.R_far (p := ⟨gb695, 3, none⟩) (Kd.R_far (p := ⟨gb695, 2, none⟩) (Kd.R_far (p := ⟨gb695, 1, none⟩) (Kd.R_far (p := ⟨gb695, 0, none⟩) (Kd.R_types HO674.out BK695.out (by decide)) (fun _ hk => hk.2) (.int .i64 t670)) (fun _ hk => hk.2) (.int .i64 t671)) (fun _ hk => hk.2) (.slice Ao22 t672.length co22)) (fun _ hk => hk.2) (.slice Ao23 t675.length co23)) (fun _ hk => hk.2) (.slice Ao24 t678.length co24)) (fun _ hk => hk.2) (.slice Ao25 t681.length co25)) (fun _ hk => hk.2) (.slice Ao26 t684.length co26)) (fun _ hk => hk.2) (.slice none 0 0)) (fun _ h_ => h_.1))) hb); have n2_ := Aside0.mk (Kd.R_below (by (with_reducible repeat (first | apply Kd.R_alloc | apply Kd.R_drewN | apply Kd.R_drew)); exact (Kd.R_mono (Kd.R_far (p := ⟨gb695, 3, none⟩) (Kd.R_far (p := ⟨gb695, 6, none⟩) (Kd.R_far (p := ⟨gb695, 5, none⟩) (Kd.R_far (p := ⟨gb695, 4, none⟩) (Kd.R_far (p := ⟨gb695, 3, none⟩) (Kd.R_far (p := ⟨gb695, 2, none⟩) (Kd.R_far (p := ⟨gb695, 1, none⟩) (Kd.R_far (p := ⟨gb695, 0, none⟩) (Kd.R_types HO677.out BK695.out (by decide)) (fun _ hk => hk.2) (.int .i64 t670)) (fun _ hk => hk.2) (.int .i64 t671)) (fun _ hk => hk.2) (.slice Ao22 t672.length co22)) (fun _ hk => hk.2) (.slice Ao23 t675.length co23)) (fun _ hk => hk.2) (.slice Ao24 t678.length co24)) (fun _ hk => hk.2) (.slice Ao25 t681.length co25)) (fun _ hk => hk.2) (.slice Ao26 t684.length co26)) (fun _ hk => hk.2) (.slice none 0 0)) (fun _ h_ => h_.1))) hb); have n3_ := Aside0.mk (Kd.R_below (by (with_reducible repeat (first | apply Kd.R_alloc | apply Kd.R_drewN | apply Kd.R_drew)); exact (Kd.R_mono (Kd.R_far (p := ⟨gb695, 3, none⟩) (Kd.R_far (p := ⟨gb695, 6, none⟩) (Kd.R_far (p := ⟨gb695, 5, none⟩) (Kd.R_far (p := ⟨gb695, 4, none⟩) (Kd.R_far (p := ⟨gb695, 3, none⟩) (Kd.R_far (p := ⟨gb695, 2, none⟩) (Kd.R_far (p := ⟨gb695, 1, none⟩) (Kd.R_far (p := ⟨gb695, 0, none⟩) (Kd.R_types HO680.out BK695.out (by decide)) (fun _ hk => hk.2) (.int .i64 t670)) (fun _ hk => hk.2) (.int .i64 t671)) (fun _ hk => hk.2) (.slice Ao22 t672.length co22)) (fun _ hk => hk.2) (.slice Ao23 t675.length co23)) (fun _ hk => hk.2) (.slice Ao24 t678.length co24)) (fun _ hk => hk.2) (.slice Ao25 t681.length co25)) (fun _ hk => hk.2) (.slice Ao26 t684.length co26)) (fun _ hk => hk.2) (.slice none 0 0)) (fun _ h_ => h_.1))) hb); have n4_ := Aside0.mk (Kd.R_below (by (with_reducible repeat (first | apply Kd.R_alloc | apply Kd.R_drewN | apply Kd.R_drew)); exact (Kd.R_mono (Kd.R_far (p := ⟨gb695, 3, none⟩) (Kd.R_far (p := ⟨gb695, 6, none⟩) (Kd.R_far (p := ⟨gb695, 5, none⟩) (Kd.R_far (p := ⟨gb695, 4, none⟩) (Kd.R_far (p := ⟨gb695, 3, none⟩) (Kd.R_far (p := ⟨gb695, 2, none⟩) (Kd.R_far (p := ⟨gb695, 1, none⟩) (Kd.R_far (p := ⟨gb695, 0, none⟩) (Kd.R_types HO683.out BK695.out (by decide)) (fun _ hk => hk.2) (.int .i64 t670)) (fun _ hk => hk.2) (.int .i64 t671)) (fun _ hk => hk.2) (.slice Ao22 t672.length co22)) (fun _ hk => hk.2) (.slice Ao23 t675.length co23)) (fun _ hk => hk.2) (.slice Ao24 t678.length co24)) (fun _ hk => hk.2) (.slice Ao25 t681.length co25)) (fun _ hk => hk.2) (.slice Ao26 t684.length co26)) (fun _ hk => hk.2) (.slice none 0 0)) (fun _ h_ => h_.1))) hb); have n5_ := Aside0.mk (Kd.R_below (by (with_reducible repeat (first | apply Kd.R_alloc | apply Kd.R_drewN | apply Kd.R_drew)); exact (Kd.R_mono (Kd.R_far (p := ⟨gb695, 3, none⟩) (Kd.R_far (p := ⟨gb695, 6, none⟩) (Kd.R_far (p := ⟨gb695, 5, none⟩) (Kd.R_far (p := ⟨gb695, 4, none⟩) (Kd.R_far (p := ⟨gb695, 3, none⟩) (Kd.R_far (p := ⟨gb695, 2, none⟩) (Kd.R_far (p := ⟨gb695, 1, none⟩) (Kd.R_far (p := ⟨gb695, 0, none⟩) (Kd.R_types HO686.out BK695.out (by decide)) (fun _ hk => hk.2) (.int .i64 t670)) (fun _ hk => hk.2) (.int .i64 t671)) (fun _ hk => hk.2) (.slice Ao22 t672.length co22)) (fun _ hk => hk.2) (.slice Ao23 t675.length co23)) (fun _ hk => hk.2) (.slice Ao24 t678.length co24)) (fun _ hk => hk.2) (.slice Ao25 t681.length co25)) (fun _ hk => hk.2) (.slice Ao26 t684.length co26)) (fun _ hk => hk.2) (.slice none 0 0)) (fun _ h_ => h_.1))) hb); have n6_ := Aside0.mk (Kd.R_below (by (with_reducible repeat (first | apply Kd.R_alloc | apply Kd.R_drewN | apply Kd.R_drew)); exact (Kd.R_mono (Kd.R_far (p := ⟨gb695, 3, none⟩) (Kd.R_far (p := ⟨gb695, 6, none⟩) (Kd.R_far (p := ⟨gb695, 5, none⟩) (Kd.R_far (p := ⟨gb695, 4, none⟩) (Kd.R_far (p := ⟨gb695, 3, none⟩) (Kd.R_far (p := ⟨gb695, 2, none⟩) (Kd.R_far (p := ⟨gb695, 1, none⟩) (Kd.R_far (p := ⟨gb695, 0, none⟩) (Kd.R_types HO693.out BK695.out (by decide)) (fun _ hk => hk.2) (.int .i64 t670)) (fun _ hk => hk.2) (.int .i64 t671)) (fun _ hk => hk.2) (.slice Ao22 t672.length co22)) (fun _ hk => hk.2) (.slice Ao23 t675.length co23)) (fun _ hk => hk.2) (.slice Ao24 t678.length co24)) (fun _ hk => hk.2) (.slice Ao25 t681.length co25)) (fun _ hk => hk.2) (.slice Ao26 t684.length co26)) (fun _ hk => hk.2) (.slice none 0 0)) (fun _ h_ => h_.1))) hb); have n7_ := Aside0.mk (Kd.R_lower ho37 (below_size (by repeat (first | (with_reducible first | exact HB.out | apply below_alloc | apply pw_below_drewN | apply below_drew1 | refine below_set ?_ GE687.out | refine below_set ?_ GE695.out) | exact HB.out)))); have n8_ := Aside0.mk (blk_below (g := gb687) (o := .cells #[.int .i64 t670, .int .i64 t671, .slice Ao22 t672.length co22, .slice Ao23 t675.length co23, .slice Ao24 t678.length co24, .slice Ao25 t681.length co25, .slice Ao26 t684.length co26] 30 (0, 0)) (by (with_reducible repeat (first | refine blk_drewN ?_ _ | refine blk_drew ?_ | refine blk_alloc ?_ _)); refine blk_far ?_ NB687_695.out _; (with_reducible repeat (first | refine blk_drewN ?_ _ | refine blk_drew ?_ | refine blk_alloc ?_ _)); refine blk_far ?_ NB687_695.out _; (with_reducible repeat (first | refine blk_drewN ?_ _ | refine blk_drew ?_ | refine blk_alloc ?_ _)); refine blk_far ?_ NB687_695.out _; (with_reducible repeat (first | refine blk_drewN ?_ _ | refine blk_drew ?_ | refine blk_alloc ?_ _)); refine blk_far ?_ NB687_695.out _; (with_reducible repeat (first | refine blk_drewN ?_ _ | refine blk_drew ?_ | refine blk_alloc ?_ _)); refine blk_far ?_ NB687_695.out _; (with_reducible repeat (first | refine blk_drewN ?_ _ | refine blk_drew ?_ | refine blk_alloc ?_ _)); refine blk_far ?_ NB687_695.out _; (with_reducible repeat (first | refine blk_drewN ?_ _ | refine blk_drew ?_ | refine blk_alloc ?_ _)); refine blk_far ?_ NB687_695.out _; (with_reducible repeat (first | refine blk_drewN ?_ _ | refine blk_drew ?_ | refine blk_alloc ?_ _)); refine blk_far ?_ NB687_695.out _; (with_reducible repeat (first | refine blk_drewN ?_ _ | refine blk_drew ?_ | refine blk_alloc ?_ _)); exact BK687.out) hb); have n9_ := Aside0.mk (blk_below (g := gb695) (o := .cells #[.int .i64 t670, .int .i64 t671, .slice Ao22 t672.length co22, .slice none 0 0, .slice Ao24 t678.length co24, .slice Ao25 t681.length co25, .slice Ao26 t684.length co26] 30 (0, 0)) (by (with_reducible repeat (first | refine blk_drewN ?_ _ | refine blk_drew ?_ | refine blk_alloc ?_ _)); refine blk_put (cs := #[.int .i64 t670, .int .i64 t671, .slice Ao22 t672.length co22, .slice Ao23 t675.length co23, .slice Ao24 t678.length co24, .slice Ao25 t681.length co25, .slice Ao26 t684.length co26]) ?_ 3 _ rfl; (with_reducible repeat (first | refine blk_drewN ?_ _ | refine blk_drew ?_ | refine blk_alloc ?_ _)); refine blk_put (cs := #[.int .i64 t670, .int .i64 t671, .slice Ao22 t672.length co22, .slice Ao23 t675.length co23, .slice Ao24 t678.length co24, .slice Ao25 t681.length co25, .slice none 0 0]) ?_ 6 _ rfl; (with_reducible repeat (first | refine blk_drewN ?_ _ | refine blk_drew ?_ | refine blk_alloc ?_ _)); refine blk_put (cs := #[.int .i64 t670, .int .i64 t671, .slice Ao22 t672.length co22, .slice Ao23 t675.length co23, .slice Ao24 t678.length co24, .slice none 0 0, .slice none 0 0]) ?_ 5 _ rfl; (with_reducible repeat (first | refine blk_drewN ?_ _ | refine blk_drew ?_ | refine blk_alloc ?_ _)); refine blk_put (cs := #[.int .i64 t670, .int .i64 t671, .slice Ao22 t672.length co22, .slice Ao23 t675.length co23, .slice none 0 0, .slice none 0 0, .slice none 0 0]) ?_ 4 _ rfl; (with_reducible repeat (first | refine blk_drewN ?_ _ | refine blk_drew ?_ | refine blk_alloc ?_ _)); refine blk_put (cs := #[.int .i64 t670, .int .i64 t671, .slice Ao22 t672.length co22, .slice none 0 0, .slice none 0 0, .slice none 0 0, .slice none 0 0]) ?_ 3 _ rfl; (with_reducible repeat (first | refine blk_drewN ?_ _ | refine blk_drew ?_ | refine blk_alloc ?_ _)); refine blk_put (cs := #[.int .i64 t670, .int .i64 t671, .slice none 0 0, .slice none 0 0, .slice none 0 0, .slice none 0 0, .slice none 0 0]) ?_ 2 _ rfl; (with_reducible repeat (first | refine blk_drewN ?_ _ | refine blk_drew ?_ | refine blk_alloc ?_ _)); refine blk_put (cs := #[.int .i64 t670, .int .i64 0, .slice none 0 0, .slice none 0 0, .slice none 0 0, .slice none 0 0, .slice none 0 0]) ?_ 1 _ rfl; (with_reducible repeat (first | refine blk_drewN ?_ _ | refine blk_drew ?_ | refine blk_alloc ?_ _)); refine blk_put (cs := #[.int .i64 0, .int .i64 0, .slice none 0 0, .slice none 0 0, .slice none 0 0, .slice none 0 0, .slice none 0 0]) ?_ 0 _ rfl; (with_reducible repeat (first | refine blk_drewN ?_ _ | refine blk_drew ?_ | refine blk_alloc ?_ _)); exact BK695.out) hb); have n10_ := Aside0.mk (below_step (by repeat (first | (with_reducible first | exact HB.out | apply below_alloc | apply pw_below_drewN | apply below_drew1 | refine below_set ?_ GE687.out | refine below_set ?_ GE695.out) | exact HB.out)) hb); clear HO669; clear HO674; clear HO677; clear HO680; clear HO683; clear HO686; clear HO693; clear BK687; clear BK695; clear HB; have HO669 := n0_; have HO674 := n1_; have HO677 := n2_; have HO680 := n3_; have HO683 := n4_; have HO686 := n5_; have HO693 := n6_; have HO698 := n7_; have BK687 := n8_; have BK695 := n9_; have HB := n10_; clear n0_ n1_ n2_ n3_ n4_ n5_ n6_ n7_ n8_ n9_ n10_; clear hb ho37; have hcz38_0 : w36.cell? ⟨gb687, 0, none⟩ = some (.int .i64 t670) := (blk_cell BK687.out 0).trans rfl; have hcz38_1 : w36.cell? ⟨gb687, 1, none⟩ = some (.int .i64 t671) := (blk_cell BK687.out 1).trans rfl; have hcz38_2 : w36.cell? ⟨gb687, 2, none⟩ = some (.slice Ao22 t672.length co22) := (blk_cell BK687.out 2).trans rfl; have hcz38_3 : w36.cell? ⟨gb687, 3, none⟩ = some (.slice Ao23 t675.length co23) := (blk_cell BK687.out 3).trans rfl; have hcz38_4 : w36.cell? ⟨gb687, 4, none⟩ = some (.slice Ao24 t678.length co24) := (blk_cell BK687.out 4).trans rfl; have hcz38_5 : w36.cell? ⟨gb687, 5, none⟩ = some (.slice Ao25 t681.length co25) := (blk_cell BK687.out 5).trans rfl; have hcz38_6 : w36.cell? ⟨gb687, 6, none⟩ = some (.slice Ao26 t684.length co26) := (blk_cell BK687.out 6).trans rfl; have hfz38_0 := blk_frozen BK687.out 0; have hfz38_1 := blk_frozen BK687.out 1; have hfz38_2 := blk_frozen BK687.out 2; have hfz38_3 := blk_frozen BK687.out 3; have hfz38_4 := blk_frozen BK687.out 4; have hfz38_5 := blk_frozen BK687.out 5; have hfz38_6 := blk_frozen BK687.out 6) | ((with_reducible refine gate_callee (f := 17) rfl ?_); refine goesL_ (some 46) rfl rfl Try.func17 (by kernel_rfl) rfl #[.agg #[.int .i64 t670, .int .i64 t671, .slice Ao22 t672.length co22, .slice Ao23 t675.length co23, .slice Ao24 t678.length co24, .slice Ao25 t681.length co25, .slice Ao26 t684.length co26]] rfl (by (try simp only [List.map_toArray, List.map_cons, List.map_nil]); first | done | rfl | (simp only [List.length_drop, List.length_take]; rfl)) ?_; (with_reducible refine (runs_Start.calls t670 t671 _ _ t672 _ _ t675 _ _ t678 _ _ t681 _ _ t684 t699 _ ?side1 ?side2 ?side3 ?side4 ?side5 ?side6 ?side7 ?side8 ?side9 ?side10 A15.out).mono ?_); (case side1 => repeat (first | exact (Kd.R_reads' HO674.out).2.2 | (with_reducible refine Kd.C_alloc ?_ _) | (with_reducible refine Kd.C_drewN ?_ _) | (with_reducible refine Kd.C_drew ?_))); (case side2 => exact (Kd.R_reads' HO674.out).2.1); (case side3 => repeat (first | exact (Kd.R_reads' HO677.out).2.2 | (with_reducible refine Kd.C_alloc ?_ _) | (with_reducible refine Kd.C_drewN ?_ _) | (with_reducible refine Kd.C_drew ?_))); (case side4 => exact (Kd.R_reads' HO677.out).2.1); (case side5 => repeat (first | exact (Kd.R_reads' HO680.out).2.2 | (with_reducible refine Kd.C_alloc ?_ _) | (with_reducible refine Kd.C_drewN ?_ _) | (with_reducible refine Kd.C_drew ?_))); (case side6 => exact (Kd.R_reads' HO680.out).2.1); (case side7 => repeat (first | exact (Kd.R_reads' HO683.out).2.2 | (with_reducible refine Kd.C_alloc ?_ _) | (with_reducible refine Kd.C_drewN ?_ _) | (with_reducible refine Kd.C_drew ?_))); (case side8 => exact (Kd.R_reads' HO683.out).2.1); (case side9 => repeat (first | exact (Kd.R_reads' HO686.out).2.2 | (with_reducible refine Kd.C_alloc ?_ _) | (with_reducible refine Kd.C_drewN ?_ _) | (with_reducible refine Kd.C_drew ?_))); (case side10 => exact (Kd.R_reads' HO686.out).2.1); rintro e w39 ⟨v700, rfl, ho0, hb⟩; refine ⟨_, rfl, ?_⟩; have n0_ := Aside0.mk (Kd.R_below (by (with_reducible repeat (first | apply Kd.R_alloc | apply Kd.R_drewN | apply Kd.R_drew)); exact HO669.out) hb); have n1_ := Aside0.mk (Kd.R_below (by (with_reducible repeat (first | apply Kd.R_alloc | apply Kd.R_drewN | apply Kd.R_drew)); exact HO674.out) hb); have n2_ := Aside0.mk (Kd.R_below (by (with_reducible repeat (first | apply Kd.R_alloc | apply Kd.R_drewN | apply Kd.R_drew)); exact HO677.out) hb); have n3_ := Aside0.mk (Kd.R_below (by (with_reducible repeat (first | apply Kd.R_alloc | apply Kd.R_drewN | apply Kd.R_drew)); exact HO680.out) hb); have n4_ := Aside0.mk (Kd.R_below (by (with_reducible repeat (first | apply Kd.R_alloc | apply Kd.R_drewN | apply Kd.R_drew)); exact HO683.out) hb); have n5_ := Aside0.mk (Kd.R_below (by (with_reducible repeat (first | apply Kd.R_alloc | apply Kd.R_drewN | apply Kd.R_drew)); exact HO686.out) hb); have n6_ := Aside0.mk (Kd.R_below (by (with_reducible repeat (first | apply Kd.R_alloc | apply Kd.R_drewN | apply Kd.R_drew)); exact HO693.out) hb); have n7_ := Aside0.mk (Kd.R_below (by (with_reducible repeat (first | apply Kd.R_alloc | apply Kd.R_drewN | apply Kd.R_drew)); exact HO698.out) hb); have n8_ := Aside0.mk (Kd.S_lower (Kd.S_new' (Kd.S_new' (Kd.S_new' ho0 (Kd.R_lt (by (with_reducible repeat (first | apply Kd.R_alloc | apply Kd.R_drewN | apply Kd.R_drew)); exact HO674.out))) (Kd.R_lt (by (with_reducible repeat (first | apply Kd.R_alloc | apply Kd.R_drewN | apply Kd.R_drew)); exact HO677.out))) (Kd.R_lt (by (with_reducible repeat (first | apply Kd.R_alloc | apply Kd.R_drewN | apply Kd.R_drew)); exact HO693.out))) (below_size (by repeat (first | (with_reducible first | exact HB.out | apply below_alloc | apply pw_below_drewN | apply below_drew1 | refine below_set ?_ GE687.out | refine below_set ?_ GE695.out) | exact HB.out)))); have n9_ := Aside0.mk (blk_below (g := gb687) (o := .cells #[.int .i64 t670, .int .i64 t671, .slice Ao22 t672.length co22, .slice Ao23 t675.length co23, .slice Ao24 t678.length co24, .slice Ao25 t681.length co25, .slice Ao26 t684.length co26] 30 (0, 0)) (by (with_reducible repeat (first | refine blk_drewN ?_ _ | refine blk_drew ?_ | refine blk_alloc ?_ _)); exact BK687.out) hb); have n10_ := Aside0.mk (blk_below (g := gb695) (o := .cells #[.int .i64 t670, .int .i64 t671, .slice Ao22 t672.length co22, .slice none 0 0, .slice Ao24 t678.length co24, .slice Ao25 t681.length co25, .slice Ao26 t684.length co26] 30 (0, 0)) (by (with_reducible repeat (first | refine blk_drewN ?_ _ | refine blk_drew ?_ | refine blk_alloc ?_ _)); exact BK695.out) hb); have n11_ := Aside0.mk (below_step (by repeat (first | (with_reducible first | exact HB.out | apply below_alloc | apply pw_below_drewN | apply below_drew1 | refine below_set ?_ GE687.out | refine below_set ?_ GE695.out) | exact HB.out)) hb); clear HO669; clear HO674; clear HO677; clear HO680; clear HO683; clear HO686; clear HO693; clear HO698; clear BK687; clear BK695; clear HB; have HO669 := n0_; have HO674 := n1_; have HO677 := n2_; have HO680 := n3_; have HO683 := n4_; have HO686 := n5_; have HO693 := n6_; have HO698 := n7_; have HO701 := n8_; have BK687 := n9_; have BK695 := n10_; have HB := n11_; clear n0_ n1_ n2_ n3_ n4_ n5_ n6_ n7_ n8_ n9_ n10_ n11_; (try clear hb); (try clear hb2); (try clear hk); (try clear hi); (try clear ho0)))
    go_loopg [17, 18] k (fun kq v17 v18 w' => ∃ (x17_1 : List (S48)) (x18_1 : Int), v18 = .int .i64 x18_1 ∧ Aside0 (canopylaw4_RunsParts.l0 kq t667 t691 t694 y696 x17_1 x18_1 t670 t671 t672 t675 t678 t681 t684 t670 t671 t672 t678 t681 t684 = some r) ∧ Aside0 (kq ≤ k) ∧ Aside0 (Kd.R k46 46 w' w.heap.size (fun _ => True) (.slice Ao18 t667.length co18) t667) ∧ Aside0 (Kd.R (Kd.int .i64) 3 w' w.heap.size (fun k_ => some k_ ≠ ((.slice Ao22 t672.length co22) : Value).ownBlock ∧ some k_ ≠ ((.slice Ao23 t675.length co23) : Value).ownBlock ∧ some k_ ≠ ((.slice Ao22 t672.length co22) : Value).ownBlock) (.slice Ao30 t691.length co30) t691) ∧ Aside0 (Kd.R Kd.bool 4 w' w.heap.size (fun _ => True) v697 y696) ∧ Aside0 (Kd.S k48 48 w' w.heap.size (fun k_ => some k_ ≠ ((.slice Ao30 t691.length co30) : Value).ownBlock ∧ some k_ ≠ ((.slice Ao22 t672.length co22) : Value).ownBlock ∧ some k_ ≠ ((.slice Ao23 t675.length co23) : Value).ownBlock ∧ some k_ ≠ ((.slice Ao22 t672.length co22) : Value).ownBlock) v17 x17_1) ∧ Aside0 (Kd.R (Kd.int .i64) 3 w' w.heap.size (fun k_ => some k_ ≠ ((.slice Ao30 t691.length co30) : Value).ownBlock ∧ some k_ ≠ ((.slice Ao23 t675.length co23) : Value).ownBlock) (.slice Ao22 t672.length co22) t672) ∧ Aside0 (Kd.R (Kd.int .i64) 3 w' w.heap.size (fun k_ => some k_ ≠ ((.slice Ao30 t691.length co30) : Value).ownBlock ∧ some k_ ≠ ((.slice Ao22 t672.length co22) : Value).ownBlock ∧ some k_ ≠ ((.slice Ao22 t672.length co22) : Value).ownBlock) (.slice Ao23 t675.length co23) t675) ∧ Aside0 (Kd.R k52 52 w' w.heap.size (fun _ => True) (.slice Ao24 t678.length co24) t678) ∧ Aside0 (Kd.R k54 54 w' w.heap.size (fun _ => True) (.slice Ao25 t681.length co25) t681) ∧ Aside0 (Kd.R k56 56 w' w.heap.size (fun _ => True) (.slice Ao26 t684.length co26) t684) ∧ Aside0 (Kd.R (Kd.int .i64) 3 w' w.heap.size (fun k_ => some k_ ≠ ((.slice Ao30 t691.length co30) : Value).ownBlock ∧ some k_ ≠ ((.slice Ao23 t675.length co23) : Value).ownBlock) (.slice Ao22 t672.length co22) t672) ∧ Aside0 (Kd.R k52 52 w' w.heap.size (fun _ => True) (.slice Ao24 t678.length co24) t678) ∧ Aside0 (Kd.R k54 54 w' w.heap.size (fun _ => True) (.slice Ao25 t681.length co25) t681) ∧ Aside0 (Kd.R k56 56 w' w.heap.size (fun _ => True) (.slice Ao26 t684.length co26) t684) ∧ Aside0 (w'.heap[gb687]? = some (.cells #[.int .i64 t670, .int .i64 t671, (.slice Ao22 t672.length co22), (.slice Ao23 t675.length co23), (.slice Ao24 t678.length co24), (.slice Ao25 t681.length co25), (.slice Ao26 t684.length co26)] 30 (0, 0))) ∧ Aside0 (w'.heap[gb695]? = some (.cells #[.int .i64 t670, .int .i64 t671, (.slice Ao22 t672.length co22), (.slice none 0 0), (.slice Ao24 t678.length co24), (.slice Ao25 t681.length co25), (.slice Ao26 t684.length co26)] 30 (0, 0))) ∧ Aside0 (Below w.heap.size w w'))
    case atStart => exact ⟨(t699), (0), (by first | rfl | (simp; done) | (simp [*]; done)), H', ⟨Nat.le_refl _⟩, ⟨by (with_reducible repeat (first | apply Kd.R_alloc | apply Kd.R_drewN | apply Kd.R_drew)); exact HO669.out⟩, ⟨by (with_reducible repeat (first | apply Kd.R_alloc | apply Kd.R_drewN | apply Kd.R_drew)); exact Kd.R_mono HO693.out (fun _ hk => ⟨hk.1, ⟨hk.2, hk.1⟩⟩)⟩, ⟨by (with_reducible repeat (first | apply Kd.R_alloc | apply Kd.R_drewN | apply Kd.R_drew)); exact HO698.out⟩, ⟨by (with_reducible repeat (first | apply Kd.S_alloc | apply Kd.S_drewN | apply Kd.S_drew)); exact Kd.S_mono HO701.out (fun _ hk => ⟨hk.2, ⟨hk.1.1.2, ⟨hk.1.2, hk.1.1.2⟩⟩⟩)⟩, ⟨by (with_reducible repeat (first | apply Kd.R_alloc | apply Kd.R_drewN | apply Kd.R_drew)); exact Kd.R_mono HO674.out (fun _ hk => ⟨hk.2, hk.1⟩)⟩, ⟨by (with_reducible repeat (first | apply Kd.R_alloc | apply Kd.R_drewN | apply Kd.R_drew)); exact Kd.R_mono HO677.out (fun _ hk => ⟨hk.2, ⟨hk.1, hk.1⟩⟩)⟩, ⟨by (with_reducible repeat (first | apply Kd.R_alloc | apply Kd.R_drewN | apply Kd.R_drew)); exact HO680.out⟩, ⟨by (with_reducible repeat (first | apply Kd.R_alloc | apply Kd.R_drewN | apply Kd.R_drew)); exact HO683.out⟩, ⟨by (with_reducible repeat (first | apply Kd.R_alloc | apply Kd.R_drewN | apply Kd.R_drew)); exact HO686.out⟩, ⟨by (with_reducible repeat (first | apply Kd.R_alloc | apply Kd.R_drewN | apply Kd.R_drew)); exact Kd.R_mono HO674.out (fun _ hk => ⟨hk.2, hk.1⟩)⟩, ⟨by (with_reducible repeat (first | apply Kd.R_alloc | apply Kd.R_drewN | apply Kd.R_drew)); exact HO680.out⟩, ⟨by (with_reducible repeat (first | apply Kd.R_alloc | apply Kd.R_drewN | apply Kd.R_drew)); exact HO683.out⟩, ⟨by (with_reducible repeat (first | apply Kd.R_alloc | apply Kd.R_drewN | apply Kd.R_drew)); exact HO686.out⟩, ⟨by (with_reducible repeat (first | refine blk_drewN ?_ _ | refine blk_drew ?_ | refine blk_alloc ?_ _)); exact BK687.out⟩, ⟨by (with_reducible repeat (first | refine blk_drewN ?_ _ | refine blk_drew ?_ | refine blk_alloc ?_ _)); exact BK695.out⟩, ⟨by repeat (first | (with_reducible first | exact HB.out | apply below_alloc | apply pw_below_drewN | apply below_drew1 | refine below_set ?_ GE687.out | refine below_set ?_ GE695.out) | exact HB.out)⟩⟩
    case round =>
     clear H'
     try clear c1
     try clear c2
     try clear p2
     try clear c3
     try clear p6
     try clear c7
     try clear c9
     try clear c12
     try clear c13
     try clear c13b0
     try clear c13b1
     try clear c14
     try clear c14b0
     try clear c14b1
     try clear c15
     try clear c16
     try clear c17
     try clear c26
     try clear c33
     try clear hcz21_0
     try clear hcz21_1
     try clear hcz21_2
     try clear hcz21_3
     try clear hcz21_4
     try clear hcz21_5
     try clear hcz21_6
     try clear hcz31_0
     try clear hcz31_1
     try clear hcz31_2
     try clear hcz31_3
     try clear hcz31_4
     try clear hcz31_5
     try clear hcz31_6
     try clear hcz34_0
     try clear hcz34_1
     try clear hcz34_2
     try clear hcz34_3
     try clear hcz34_4
     try clear hcz34_5
     try clear hcz34_6
     try clear hcz35_0
     try clear hcz35_1
     try clear hcz35_2
     try clear hcz35_3
     try clear hcz35_4
     try clear hcz35_5
     try clear hcz35_6
     try clear hcz38_0
     try clear hcz38_1
     try clear hcz38_2
     try clear hcz38_3
     try clear hcz38_4
     try clear hcz38_5
     try clear hcz38_6
     try clear hfz21_0
     try clear hfz21_1
     try clear hfz21_2
     try clear hfz21_3
     try clear hfz21_4
     try clear hfz21_5
     try clear hfz21_6
     try clear hfz31_0
     try clear hfz31_1
     try clear hfz31_2
     try clear hfz31_3
     try clear hfz31_4
     try clear hfz31_5
     try clear hfz31_6
     try clear hfz34_0
     try clear hfz34_1
     try clear hfz34_2
     try clear hfz34_3
     try clear hfz34_4
     try clear hfz34_5
     try clear hfz34_6
     try clear hfz35_0
     try clear hfz35_1
     try clear hfz35_2
     try clear hfz35_3
     try clear hfz35_4
     try clear hfz35_5
     try clear hfz35_6
     try clear hfz38_0
     try clear hfz38_1
     try clear hfz38_2
     try clear hfz38_3
     try clear hfz38_4
     try clear hfz38_5
     try clear hfz38_6
     obtain ⟨x17_1, x18_1, rfl, HA, HK1, HO_11, HO_13, HO_16, HO_17, HO_688002, HO_688003, HO_688004, HO_688005, HO_688006, HO_696002, HO_696004, HO_696005, HO_696006, BK687, BK695, HB⟩ := hrel
     cases gk with
     | zero => exact absurd HA.out (by simp [canopylaw4_RunsParts.l0])
     | succ k1 =>
      have H := HA.out
      clear HA
      simp only [canopylaw4_RunsParts.l0] at H
      by_cases c40 : x18_1 < t694
      ·rw [if_pos c40] at H
       have c40b0 : decide (x18_1 < t694) = true := decide_eq_true c40
       clear c40
       by_cases c41 : 0 ≤ x18_1
       ·rw [if_pos c41] at H
        have c41b0 : decide (0 ≤ x18_1) = true := decide_eq_true c41
        clear c41
        by_cases c42 : x18_1 < (t691.length : Int)
        ·rw [if_pos c42] at H
         have c42b0 : decide (x18_1 < (t691.length : Int)) = true := decide_eq_true c42
         clear c42
         replace H := Option.bind_eq_some_iff.mp H
         obtain ⟨t703, A430, H⟩ := H
         replace H : (canopylaw4_RunsParts.l0 k1 t667 t691 t694 y696 t703 (wrap64 (x18_1 + 1)) t670 t671 t672 t675 t678 t681 t684 t670 t671 t672 t678 t681 t684) = some r := H
         have A43 := Aside0.mk A430
         clear A430
         have H' := Aside0.mk H
         clear H
         try go_wp2
         have n0_ := Aside0.mk (Kd.R_drew HO_11.out)
         have n1_ := Aside0.mk (Kd.R_drew HO_13.out)
         have n2_ := Aside0.mk (Kd.R_drew HO_16.out)
         have n3_ := Aside0.mk (Kd.S_drew HO_17.out)
         have n4_ := Aside0.mk (Kd.R_drew HO_688002.out)
         have n5_ := Aside0.mk (Kd.R_drew HO_688003.out)
         have n6_ := Aside0.mk (Kd.R_drew HO_688004.out)
         have n7_ := Aside0.mk (Kd.R_drew HO_688005.out)
         have n8_ := Aside0.mk (Kd.R_drew HO_688006.out)
         have n9_ := Aside0.mk (Kd.R_drew HO_696002.out)
         have n10_ := Aside0.mk (Kd.R_drew HO_696004.out)
         have n11_ := Aside0.mk (Kd.R_drew HO_696005.out)
         have n12_ := Aside0.mk (Kd.R_drew HO_696006.out)
         have n13_ := Aside0.mk (blk_drew BK687.out)
         have n14_ := Aside0.mk (blk_drew BK695.out)
         have n15_ := Aside0.mk (below_drew1 HB.out)
         clear HO_11
         clear HO_13
         clear HO_16
         clear HO_17
         clear HO_688002
         clear HO_688003
         clear HO_688004
         clear HO_688005
         clear HO_688006
         clear HO_696002
         clear HO_696004
         clear HO_696005
         clear HO_696006
         clear BK687
         clear BK695
         clear HB
         have HO_11 := n0_
         have HO_13 := n1_
         have HO_16 := n2_
         have HO_17 := n3_
         have HO_688002 := n4_
         have HO_688003 := n5_
         have HO_688004 := n6_
         have HO_688005 := n7_
         have HO_688006 := n8_
         have HO_696002 := n9_
         have HO_696004 := n10_
         have HO_696005 := n11_
         have HO_696006 := n12_
         have BK687 := n13_
         have BK695 := n14_
         have HB := n15_
         clear n0_ n1_ n2_ n3_ n4_ n5_ n6_ n7_ n8_ n9_ n10_ n11_ n12_ n13_ n14_ n15_
         have p702 : 0 ≤ (x18_1 : Int) := of_decide_eq_true (by first | (with_reducible assumption) | assumption)
         have q702 : x18_1 < (t691.length : Int) := of_decide_eq_true (by first | (with_reducible assumption) | assumption)
         obtain ⟨ad702, e702, hx702_0⟩ := Kd.at_int (Kd.R_reads' HO_13.out).2.2 x18_1 p702 q702
         cases e702
         replace p702 := eq_true p702
         replace q702 := eq_true q702
         obtain ⟨Ao45, co45, eo45⟩ := Kd.S_slice HO_17.out
         (first | subst eo45 | (injection eo45 with f1_ f2_ f3_; have f4_ := f1_.symm; have f5_ := f3_.symm; clear f1_ f2_ f3_; subst f4_; subst f5_))
         refine start_ (n := 9) (S := fun w' => w'.cell? ⟨gb687, 0, none⟩ = some (.int .i64 t670) ∧ w'.cell? ⟨gb687, 1, none⟩ = some (.int .i64 t671) ∧ w'.cell? ⟨gb687, 2, none⟩ = some (.slice Ao22 t672.length co22) ∧ w'.cell? ⟨gb687, 3, none⟩ = some (.slice Ao23 t675.length co23) ∧ w'.cell? ⟨gb687, 4, none⟩ = some (.slice Ao24 t678.length co24) ∧ w'.cell? ⟨gb687, 5, none⟩ = some (.slice Ao25 t681.length co25) ∧ w'.cell? ⟨gb687, 6, none⟩ = some (.slice Ao26 t684.length co26) ∧ w'.cell? (ad702.add (x18_1).toNat) = some (.int .i64 (rd t691 x18_1))) (ds := []) #[false, false, false, false, false, false, false, false, false] (by kernel_rfl) rfl rfl ⟨(blk_cell BK687.out 0).trans rfl, (blk_cell BK687.out 1).trans rfl, (blk_cell BK687.out 2).trans rfl, (blk_cell BK687.out 3).trans rfl, (blk_cell BK687.out 4).trans rfl, (blk_cell BK687.out 5).trans rfl, (blk_cell BK687.out 6).trans rfl, hx702_0⟩ (fun hHeld => ?_); refine with_tabW canopylaw4_RunsParts.tab14 canopylaw4_RunsParts.bits14 (fun HT_ HW_ => ?_)
         generalize wr.drew = w44 at HO_11 HO_13 HO_16 HO_17 HO_688002 HO_688003 HO_688004 HO_688005 HO_688006 HO_696002 HO_696004 HO_696005 HO_696006 BK687 BK695 HB hx702_0 hHeld ⊢
         refine pure_ (i := 0) (N := some 52) (v := ?_) (a' := ?_) #[true, false, false, false, false, false, false, false, false] rfl rfl (any_of HT_.out (by kernel_rfl)) (fun _ _ _ h => h) (Or.inl ⟨by rfl, ?_⟩) ?_ ?_
         rotate_left
         ·intro w'
          go_simp
          with_reducible rfl
         rotate_left
         ·simp only [Act.put, List.setIfInBounds_toArray, List.set_cons_zero, List.set_cons_succ, i64_w, i32_w]
          rfl
         refine pure_ (i := 2) (N := some 54) (v := ?_) (a' := ?_) #[true, false, true, false, false, false, false, false, false] rfl rfl (any_of HT_.out (by kernel_rfl)) (fun _ _ _ h => h) (Or.inl ⟨by rfl, ?_⟩) ?_ ?_
         rotate_left
         ·intro w'
          go_simp
          with_reducible rfl
         rotate_left
         ·simp only [Act.put, List.setIfInBounds_toArray, List.set_cons_zero, List.set_cons_succ, i64_w, i32_w]
          rfl
         refine pure_ (i := 3) (N := some 55) (v := ?_) (a' := ?_) #[true, false, true, true, false, false, false, false, false] rfl rfl (any_of HT_.out (by kernel_rfl)) (fun _ _ _ h => h) (Or.inl ⟨by rfl, ?_⟩) ?_ ?_
         rotate_left
         ·intro w'
          go_simp
          with_reducible rfl
         rotate_left
         ·simp only [Act.put, List.setIfInBounds_toArray, List.set_cons_zero, List.set_cons_succ, i64_w, i32_w]
          rfl
         refine pure_ (i := 4) (N := some 56) (v := ?_) (a' := ?_) #[true, false, true, true, true, false, false, false, false] rfl rfl (any_of HT_.out (by kernel_rfl)) (fun _ _ _ h => h) (Or.inl ⟨by rfl, ?_⟩) ?_ ?_
         rotate_left
         ·intro w'
          go_simp
          with_reducible rfl
         rotate_left
         ·simp only [Act.put, List.setIfInBounds_toArray, List.set_cons_zero, List.set_cons_succ, i64_w, i32_w]
          rfl
         refine pure_ (i := 5) (N := some 57) (v := ?_) (a' := ?_) #[true, false, true, true, true, true, false, false, false] rfl rfl (any_of HT_.out (by kernel_rfl)) (fun _ _ _ h => h) (Or.inl ⟨by rfl, ?_⟩) ?_ ?_
         rotate_left
         ·intro w'
          go_simp
          with_reducible rfl
         rotate_left
         ·simp only [Act.put, List.setIfInBounds_toArray, List.set_cons_zero, List.set_cons_succ, i64_w, i32_w]
          rfl
         refine take_ (i := 1) (N := some 53) (v := ?_) (a' := ?_) #[true, true, true, true, true, true, false, false, false] rfl rfl (take_ofW HT_.out HW_.out (by kernel_rfl)) (fun _ _ _ h => h) (Or.inl ⟨by rfl, ?_⟩) hHeld ?_ ?_
         rotate_left
         ·rintro w' ⟨s0, s1, s2, s3, s4, s5, s6, s7⟩
          go_simp
          with_reducible rfl
         rotate_left
         ·simp only [Act.put, List.setIfInBounds_toArray, List.set_cons_zero, List.set_cons_succ, i64_w, i32_w]
          rfl
         refine take_ (i := 6) (N := some 58) (v := ?_) (a' := ?_) #[true, true, true, true, true, true, true, false, false] rfl rfl (take_ofW HT_.out HW_.out (by kernel_rfl)) (fun _ _ _ h => h) (Or.inl ⟨by rfl, ?_⟩) hHeld ?_ ?_
         rotate_left
         ·rintro w' ⟨s0, s1, s2, s3, s4, s5, s6, s7⟩
          go_simp
          with_reducible rfl
         rotate_left
         ·simp only [Act.put, List.setIfInBounds_toArray, List.set_cons_zero, List.set_cons_succ, i64_w, i32_w]
          rfl
         refine one_ (i := 7) (N := some 59) #[true, true, true, true, true, true, true, true, false] rfl rfl (one_of HT_.out (by kernel_rfl)) (by decide) (fun K hK => ?_)
         refine goes_ Try.func21 (by kernel_rfl) rfl #[.slice Ao18 t667.length co18, .agg #[.int .i64 t670, .int .i64 t671, .slice Ao22 t672.length co22, .slice Ao23 t675.length co23, .slice Ao24 t678.length co24, .slice Ao25 t681.length co25, .slice Ao26 t684.length co26], .slice Ao45 x17_1.length co45, .int .i64 (rd t691 x18_1)] (by rfl) rfl rfl (by (try simp only [List.map_toArray, List.map_cons, List.map_nil]); first | done | rfl | (simp only [List.length_drop, List.length_take]; rfl)) ?_
         with_reducible refine (runs_Step.calls _ _ t667 t670 t671 _ _ t672 _ _ t675 _ _ t678 _ _ t681 _ _ t684 _ _ x17_1 (rd t691 x18_1) t703 _ ?side1 ?side2 ?side3 ?side4 ?side5 ?side6 ?side7 ?side8 ?side9 ?side10 ?side11 ?side12 ?side13 ?side14 A43.out).mono ?_
         (case side1 => repeat (first | exact (Kd.R_reads' HO_11.out).2.2 | (with_reducible refine Kd.C_alloc ?_ _) | (with_reducible refine Kd.C_drewN ?_ _) | (with_reducible refine Kd.C_drew ?_)))
         (case side2 => exact (Kd.R_reads' HO_11.out).2.1)
         (case side3 => repeat (first | exact (Kd.R_reads' HO_688002.out).2.2 | (with_reducible refine Kd.C_alloc ?_ _) | (with_reducible refine Kd.C_drewN ?_ _) | (with_reducible refine Kd.C_drew ?_)))
         (case side4 => exact (Kd.R_reads' HO_688002.out).2.1)
         (case side5 => repeat (first | exact (Kd.R_reads' HO_688003.out).2.2 | (with_reducible refine Kd.C_alloc ?_ _) | (with_reducible refine Kd.C_drewN ?_ _) | (with_reducible refine Kd.C_drew ?_)))
         (case side6 => exact (Kd.R_reads' HO_688003.out).2.1)
         (case side7 => repeat (first | exact (Kd.R_reads' HO_688004.out).2.2 | (with_reducible refine Kd.C_alloc ?_ _) | (with_reducible refine Kd.C_drewN ?_ _) | (with_reducible refine Kd.C_drew ?_)))
         (case side8 => exact (Kd.R_reads' HO_688004.out).2.1)
         (case side9 => repeat (first | exact (Kd.R_reads' HO_688005.out).2.2 | (with_reducible refine Kd.C_alloc ?_ _) | (with_reducible refine Kd.C_drewN ?_ _) | (with_reducible refine Kd.C_drew ?_)))
         (case side10 => exact (Kd.R_reads' HO_688005.out).2.1)
         (case side11 => repeat (first | exact (Kd.R_reads' HO_688006.out).2.2 | (with_reducible refine Kd.C_alloc ?_ _) | (with_reducible refine Kd.C_drewN ?_ _) | (with_reducible refine Kd.C_drew ?_)))
         (case side12 => exact (Kd.R_reads' HO_688006.out).2.1)
         (case side13 => repeat (first | exact (Kd.S_reads' HO_17.out).2.2 | (with_reducible refine Kd.C_alloc ?_ _) | (with_reducible refine Kd.C_drewN ?_ _) | (with_reducible refine Kd.C_drew ?_)))
         (case side14 => exact (Kd.S_reads' HO_17.out).2.1)
         rintro e w46 ⟨v704, rfl, ho0, hb⟩
         have HS7_ := (hb.cell (World.block_lt_of_cell? _ _ (hHeld.2.2.2.2.2.2.2))).trans (hHeld.2.2.2.2.2.2.2)
         refine ⟨_, rfl, ?_⟩
         have n0_ := Aside0.mk (Kd.R_below (by (with_reducible repeat (first | apply Kd.R_alloc | apply Kd.R_drewN | apply Kd.R_drew)); exact HO_11.out) hb)
         have n1_ := Aside0.mk (Kd.R_below (by (with_reducible repeat (first | apply Kd.R_alloc | apply Kd.R_drewN | apply Kd.R_drew)); exact HO_13.out) hb)
         have n2_ := Aside0.mk (Kd.R_below (by (with_reducible repeat (first | apply Kd.R_alloc | apply Kd.R_drewN | apply Kd.R_drew)); exact HO_16.out) hb)
         have n3_ := Aside0.mk (Kd.S_elder' (by (with_reducible repeat (first | apply Kd.S_alloc | apply Kd.S_drewN | apply Kd.S_drew)); exact HO_17.out) (Kd.S_base ho0) hb)
         have n4_ := Aside0.mk (Kd.R_below (by (with_reducible repeat (first | apply Kd.R_alloc | apply Kd.R_drewN | apply Kd.R_drew)); exact HO_688002.out) hb)
         have n5_ := Aside0.mk (Kd.R_below (by (with_reducible repeat (first | apply Kd.R_alloc | apply Kd.R_drewN | apply Kd.R_drew)); exact HO_688003.out) hb)
         have n6_ := Aside0.mk (Kd.R_below (by (with_reducible repeat (first | apply Kd.R_alloc | apply Kd.R_drewN | apply Kd.R_drew)); exact HO_688004.out) hb)
         have n7_ := Aside0.mk (Kd.R_below (by (with_reducible repeat (first | apply Kd.R_alloc | apply Kd.R_drewN | apply Kd.R_drew)); exact HO_688005.out) hb)
         have n8_ := Aside0.mk (Kd.R_below (by (with_reducible repeat (first | apply Kd.R_alloc | apply Kd.R_drewN | apply Kd.R_drew)); exact HO_688006.out) hb)
         have n9_ := Aside0.mk (Kd.R_below (by (with_reducible repeat (first | apply Kd.R_alloc | apply Kd.R_drewN | apply Kd.R_drew)); exact HO_696002.out) hb)
         have n10_ := Aside0.mk (Kd.R_below (by (with_reducible repeat (first | apply Kd.R_alloc | apply Kd.R_drewN | apply Kd.R_drew)); exact HO_696004.out) hb)
         have n11_ := Aside0.mk (Kd.R_below (by (with_reducible repeat (first | apply Kd.R_alloc | apply Kd.R_drewN | apply Kd.R_drew)); exact HO_696005.out) hb)
         have n12_ := Aside0.mk (Kd.R_below (by (with_reducible repeat (first | apply Kd.R_alloc | apply Kd.R_drewN | apply Kd.R_drew)); exact HO_696006.out) hb)
         have n13_ := Aside0.mk (Kd.S_lower (Kd.S_new' (Kd.S_new' (Kd.S_new' (Kd.S_new' (Kd.S_new' ho0 (Kd.R_lt (by (with_reducible repeat (first | apply Kd.R_alloc | apply Kd.R_drewN | apply Kd.R_drew)); exact HO_13.out))) (Kd.S_lt (by (with_reducible repeat (first | apply Kd.S_alloc | apply Kd.S_drewN | apply Kd.S_drew)); exact HO_17.out))) (Kd.R_lt (by (with_reducible repeat (first | apply Kd.R_alloc | apply Kd.R_drewN | apply Kd.R_drew)); exact HO_688002.out))) (Kd.R_lt (by (with_reducible repeat (first | apply Kd.R_alloc | apply Kd.R_drewN | apply Kd.R_drew)); exact HO_688003.out))) (Kd.R_lt (by (with_reducible repeat (first | apply Kd.R_alloc | apply Kd.R_drewN | apply Kd.R_drew)); exact HO_696002.out))) (below_size (by repeat (first | (with_reducible first | exact HB.out | apply below_alloc | apply pw_below_drewN | apply below_drew1 | refine below_set ?_ GE687.out | refine below_set ?_ GE695.out) | exact HB.out))))
         have n14_ := Aside0.mk (blk_below (g := gb687) (o := .cells #[.int .i64 t670, .int .i64 t671, .slice Ao22 t672.length co22, .slice Ao23 t675.length co23, .slice Ao24 t678.length co24, .slice Ao25 t681.length co25, .slice Ao26 t684.length co26] 30 (0, 0)) (by (with_reducible repeat (first | refine blk_drewN ?_ _ | refine blk_drew ?_ | refine blk_alloc ?_ _)); exact BK687.out) hb)
         have n15_ := Aside0.mk (blk_below (g := gb695) (o := .cells #[.int .i64 t670, .int .i64 t671, .slice Ao22 t672.length co22, .slice none 0 0, .slice Ao24 t678.length co24, .slice Ao25 t681.length co25, .slice Ao26 t684.length co26] 30 (0, 0)) (by (with_reducible repeat (first | refine blk_drewN ?_ _ | refine blk_drew ?_ | refine blk_alloc ?_ _)); exact BK695.out) hb)
         have n16_ := Aside0.mk (below_step (by repeat (first | (with_reducible first | exact HB.out | apply below_alloc | apply pw_below_drewN | apply below_drew1 | refine below_set ?_ GE687.out | refine below_set ?_ GE695.out) | exact HB.out)) hb)
         clear HO_11
         clear HO_13
         clear HO_16
         clear HO_17
         clear HO_688002
         clear HO_688003
         clear HO_688004
         clear HO_688005
         clear HO_688006
         clear HO_696002
         clear HO_696004
         clear HO_696005
         clear HO_696006
         clear BK687
         clear BK695
         clear HB
         have HO_11 := n0_
         have HO_13 := n1_
         have HO_16 := n2_
         have HO_17 := n3_
         have HO_688002 := n4_
         have HO_688003 := n5_
         have HO_688004 := n6_
         have HO_688005 := n7_
         have HO_688006 := n8_
         have HO_696002 := n9_
         have HO_696004 := n10_
         have HO_696005 := n11_
         have HO_696006 := n12_
         have HO705 := n13_
         have BK687 := n14_
         have BK695 := n15_
         have HB := n16_
         clear n0_ n1_ n2_ n3_ n4_ n5_ n6_ n7_ n8_ n9_ n10_ n11_ n12_ n13_ n14_ n15_ n16_
         (try clear hb)
         (try clear hb2)
         (try clear hk)
         (try clear hi)
         (try clear ho0)
         refine hK.out _ _ ⟨(blk_cell BK687.out 0).trans rfl, (blk_cell BK687.out 1).trans rfl, (blk_cell BK687.out 2).trans rfl, (blk_cell BK687.out 3).trans rfl, (blk_cell BK687.out 4).trans rfl, (blk_cell BK687.out 5).trans rfl, (blk_cell BK687.out 6).trans rfl, HS7_⟩ (fun hHeld => ?_)
         clear hK K
         refine norm_ (a' := ?_) ?_ ?_
         rotate_left
         ·show Act.put _ (some 59) _ = _
          simp only [Act.put, List.setIfInBounds_toArray, List.set_cons_zero, List.set_cons_succ, i64_w, i32_w]
          rfl
         refine pure_ (i := 8) (N := some 17) (v := ?_) (a' := ?_) #[true, true, true, true, true, true, true, true, true] rfl rfl (any_of HT_.out (by kernel_rfl)) (fun _ _ _ h => h) (Or.inl ⟨by rfl, ?_⟩) ?_ ?_
         rotate_left
         ·intro w'
          go_simp
          with_reducible rfl
         rotate_left
         ·simp only [Act.put, List.setIfInBounds_toArray, List.set_cons_zero, List.set_cons_succ, i64_w, i32_w]
          rfl
         refine done_ (done_of HT_.out (by kernel_rfl)) ?_
         try go_wp2
         go_roundg k1
         case measure => have := HK1.out; omega
         case rel => exact ⟨(t703), (wrap64 (x18_1 + 1)), (by first | rfl | (simp; done) | (simp [*]; done)), H', ⟨by have := HK1.out; omega⟩, ⟨by (with_reducible repeat (first | apply Kd.R_alloc | apply Kd.R_drewN | apply Kd.R_drew)); exact HO_11.out⟩, ⟨by (with_reducible repeat (first | apply Kd.R_alloc | apply Kd.R_drewN | apply Kd.R_drew)); exact HO_13.out⟩, ⟨by (with_reducible repeat (first | apply Kd.R_alloc | apply Kd.R_drewN | apply Kd.R_drew)); exact HO_16.out⟩, ⟨by (with_reducible repeat (first | apply Kd.S_alloc | apply Kd.S_drewN | apply Kd.S_drew)); exact Kd.S_mono HO705.out (fun _ hk => ⟨hk.1.1.1.1.2, ⟨hk.1.1.2, ⟨hk.1.2, hk.2⟩⟩⟩)⟩, ⟨by (with_reducible repeat (first | apply Kd.R_alloc | apply Kd.R_drewN | apply Kd.R_drew)); exact HO_688002.out⟩, ⟨by (with_reducible repeat (first | apply Kd.R_alloc | apply Kd.R_drewN | apply Kd.R_drew)); exact HO_688003.out⟩, ⟨by (with_reducible repeat (first | apply Kd.R_alloc | apply Kd.R_drewN | apply Kd.R_drew)); exact HO_688004.out⟩, ⟨by (with_reducible repeat (first | apply Kd.R_alloc | apply Kd.R_drewN | apply Kd.R_drew)); exact HO_688005.out⟩, ⟨by (with_reducible repeat (first | apply Kd.R_alloc | apply Kd.R_drewN | apply Kd.R_drew)); exact HO_688006.out⟩, ⟨by (with_reducible repeat (first | apply Kd.R_alloc | apply Kd.R_drewN | apply Kd.R_drew)); exact HO_696002.out⟩, ⟨by (with_reducible repeat (first | apply Kd.R_alloc | apply Kd.R_drewN | apply Kd.R_drew)); exact HO_696004.out⟩, ⟨by (with_reducible repeat (first | apply Kd.R_alloc | apply Kd.R_drewN | apply Kd.R_drew)); exact HO_696005.out⟩, ⟨by (with_reducible repeat (first | apply Kd.R_alloc | apply Kd.R_drewN | apply Kd.R_drew)); exact HO_696006.out⟩, ⟨by (with_reducible repeat (first | refine blk_drewN ?_ _ | refine blk_drew ?_ | refine blk_alloc ?_ _)); exact BK687.out⟩, ⟨by (with_reducible repeat (first | refine blk_drewN ?_ _ | refine blk_drew ?_ | refine blk_alloc ?_ _)); exact BK695.out⟩, ⟨by repeat (first | (with_reducible first | exact HB.out | apply below_alloc | apply pw_below_drewN | apply below_drew1 | refine below_set ?_ GE687.out | refine below_set ?_ GE695.out) | exact HB.out)⟩⟩
        ·rw [if_neg c42] at H
         exact absurd H (by simp)
       ·rw [if_neg c41] at H
        exact absurd H (by simp)
      ·rw [if_neg c40] at H
       have c40b0 : decide (x18_1 < t694) = false := decide_eq_false c40
       clear c40
       have H' := Aside0.mk H
       clear H
       go_wp2
       go_loopg [19] k1 (fun kq v19 w' => ∃ (x16_2 : List Bool) (x19_2 : Int), v19 = .int .i64 x19_2 ∧ Aside0 (canopylaw4_RunsParts.l1 kq t667 t691 t694 x16_2 x17_1 x19_2 t670 t671 t672 t675 t678 t681 t684 t670 t671 t672 t678 t681 t684 = some r) ∧ Aside0 (kq ≤ k1) ∧ Aside0 (Kd.R k46 46 w' w.heap.size (fun _ => True) (.slice Ao18 t667.length co18) t667) ∧ Aside0 (Kd.R (Kd.int .i64) 3 w' w.heap.size (fun k_ => some k_ ≠ ((.slice Ao22 t672.length co22) : Value).ownBlock ∧ some k_ ≠ ((.slice Ao23 t675.length co23) : Value).ownBlock ∧ some k_ ≠ ((.slice Ao22 t672.length co22) : Value).ownBlock) (.slice Ao30 t691.length co30) t691) ∧ Aside0 (Kd.R Kd.bool 4 w' w.heap.size (fun _ => True) v697 x16_2) ∧ Aside0 (Kd.S k48 48 w' w.heap.size (fun k_ => some k_ ≠ ((.slice Ao30 t691.length co30) : Value).ownBlock ∧ some k_ ≠ ((.slice Ao22 t672.length co22) : Value).ownBlock ∧ some k_ ≠ ((.slice Ao23 t675.length co23) : Value).ownBlock ∧ some k_ ≠ ((.slice Ao22 t672.length co22) : Value).ownBlock) u17 x17_1) ∧ Aside0 (Kd.R (Kd.int .i64) 3 w' w.heap.size (fun k_ => some k_ ≠ ((.slice Ao30 t691.length co30) : Value).ownBlock ∧ some k_ ≠ ((.slice Ao23 t675.length co23) : Value).ownBlock) (.slice Ao22 t672.length co22) t672) ∧ Aside0 (Kd.R (Kd.int .i64) 3 w' w.heap.size (fun k_ => some k_ ≠ ((.slice Ao30 t691.length co30) : Value).ownBlock ∧ some k_ ≠ ((.slice Ao22 t672.length co22) : Value).ownBlock ∧ some k_ ≠ ((.slice Ao22 t672.length co22) : Value).ownBlock) (.slice Ao23 t675.length co23) t675) ∧ Aside0 (Kd.R k52 52 w' w.heap.size (fun _ => True) (.slice Ao24 t678.length co24) t678) ∧ Aside0 (Kd.R k54 54 w' w.heap.size (fun _ => True) (.slice Ao25 t681.length co25) t681) ∧ Aside0 (Kd.R k56 56 w' w.heap.size (fun _ => True) (.slice Ao26 t684.length co26) t684) ∧ Aside0 (Kd.R (Kd.int .i64) 3 w' w.heap.size (fun k_ => some k_ ≠ ((.slice Ao30 t691.length co30) : Value).ownBlock ∧ some k_ ≠ ((.slice Ao23 t675.length co23) : Value).ownBlock) (.slice Ao22 t672.length co22) t672) ∧ Aside0 (Kd.R k52 52 w' w.heap.size (fun _ => True) (.slice Ao24 t678.length co24) t678) ∧ Aside0 (Kd.R k54 54 w' w.heap.size (fun _ => True) (.slice Ao25 t681.length co25) t681) ∧ Aside0 (Kd.R k56 56 w' w.heap.size (fun _ => True) (.slice Ao26 t684.length co26) t684) ∧ Aside0 (w'.heap[gb687]? = some (.cells #[.int .i64 t670, .int .i64 t671, (.slice Ao22 t672.length co22), (.slice Ao23 t675.length co23), (.slice Ao24 t678.length co24), (.slice Ao25 t681.length co25), (.slice Ao26 t684.length co26)] 30 (0, 0))) ∧ Aside0 (w'.heap[gb695]? = some (.cells #[.int .i64 t670, .int .i64 t671, (.slice Ao22 t672.length co22), (.slice none 0 0), (.slice Ao24 t678.length co24), (.slice Ao25 t681.length co25), (.slice Ao26 t684.length co26)] 30 (0, 0))) ∧ Aside0 (Below w.heap.size w w'))
       case atStart => exact ⟨(y696), (0), (by first | rfl | (simp; done) | (simp [*]; done)), H', ⟨Nat.le_refl _⟩, ⟨by (with_reducible repeat (first | apply Kd.R_alloc | apply Kd.R_drewN | apply Kd.R_drew)); exact HO_11.out⟩, ⟨by (with_reducible repeat (first | apply Kd.R_alloc | apply Kd.R_drewN | apply Kd.R_drew)); exact HO_13.out⟩, ⟨by (with_reducible repeat (first | apply Kd.R_alloc | apply Kd.R_drewN | apply Kd.R_drew)); exact HO_16.out⟩, ⟨by (with_reducible repeat (first | apply Kd.S_alloc | apply Kd.S_drewN | apply Kd.S_drew)); exact HO_17.out⟩, ⟨by (with_reducible repeat (first | apply Kd.R_alloc | apply Kd.R_drewN | apply Kd.R_drew)); exact HO_688002.out⟩, ⟨by (with_reducible repeat (first | apply Kd.R_alloc | apply Kd.R_drewN | apply Kd.R_drew)); exact HO_688003.out⟩, ⟨by (with_reducible repeat (first | apply Kd.R_alloc | apply Kd.R_drewN | apply Kd.R_drew)); exact HO_688004.out⟩, ⟨by (with_reducible repeat (first | apply Kd.R_alloc | apply Kd.R_drewN | apply Kd.R_drew)); exact HO_688005.out⟩, ⟨by (with_reducible repeat (first | apply Kd.R_alloc | apply Kd.R_drewN | apply Kd.R_drew)); exact HO_688006.out⟩, ⟨by (with_reducible repeat (first | apply Kd.R_alloc | apply Kd.R_drewN | apply Kd.R_drew)); exact HO_696002.out⟩, ⟨by (with_reducible repeat (first | apply Kd.R_alloc | apply Kd.R_drewN | apply Kd.R_drew)); exact HO_696004.out⟩, ⟨by (with_reducible repeat (first | apply Kd.R_alloc | apply Kd.R_drewN | apply Kd.R_drew)); exact HO_696005.out⟩, ⟨by (with_reducible repeat (first | apply Kd.R_alloc | apply Kd.R_drewN | apply Kd.R_drew)); exact HO_696006.out⟩, ⟨by (with_reducible repeat (first | refine blk_drewN ?_ _ | refine blk_drew ?_ | refine blk_alloc ?_ _)); exact BK687.out⟩, ⟨by (with_reducible repeat (first | refine blk_drewN ?_ _ | refine blk_drew ?_ | refine blk_alloc ?_ _)); exact BK695.out⟩, ⟨by repeat (first | (with_reducible first | exact HB.out | apply below_alloc | apply pw_below_drewN | apply below_drew1 | refine below_set ?_ GE687.out | refine below_set ?_ GE695.out) | exact HB.out)⟩⟩
       case round =>
        clear H'
        try clear c1
        try clear c2
        try clear p2
        try clear c3
        try clear c4
        try clear p6
        try clear c7
        try clear p7
        try clear q7
        try clear hx7
        try clear c9
        try clear c12
        try clear c13
        try clear c13b0
        try clear c13b1
        try clear c14
        try clear c14b0
        try clear c14b1
        try clear c15
        try clear c16
        try clear c17
        try clear c21
        try clear c26
        try clear c33
        try clear c40
        try clear c40b0
        try clear c41
        try clear c41b0
        try clear c42
        try clear c42b0
        try clear hcz21_0
        try clear hcz21_1
        try clear hcz21_2
        try clear hcz21_3
        try clear hcz21_4
        try clear hcz21_5
        try clear hcz21_6
        try clear hcz31_0
        try clear hcz31_1
        try clear hcz31_2
        try clear hcz31_3
        try clear hcz31_4
        try clear hcz31_5
        try clear hcz31_6
        try clear hcz34_0
        try clear hcz34_1
        try clear hcz34_2
        try clear hcz34_3
        try clear hcz34_4
        try clear hcz34_5
        try clear hcz34_6
        try clear hcz35_0
        try clear hcz35_1
        try clear hcz35_2
        try clear hcz35_3
        try clear hcz35_4
        try clear hcz35_5
        try clear hcz35_6
        try clear hcz38_0
        try clear hcz38_1
        try clear hcz38_2
        try clear hcz38_3
        try clear hcz38_4
        try clear hcz38_5
        try clear hcz38_6
        try clear hfz21_0
        try clear hfz21_1
        try clear hfz21_2
        try clear hfz21_3
        try clear hfz21_4
        try clear hfz21_5
        try clear hfz21_6
        try clear hfz31_0
        try clear hfz31_1
        try clear hfz31_2
        try clear hfz31_3
        try clear hfz31_4
        try clear hfz31_5
        try clear hfz31_6
        try clear hfz34_0
        try clear hfz34_1
        try clear hfz34_2
        try clear hfz34_3
        try clear hfz34_4
        try clear hfz34_5
        try clear hfz34_6
        try clear hfz35_0
        try clear hfz35_1
        try clear hfz35_2
        try clear hfz35_3
        try clear hfz35_4
        try clear hfz35_5
        try clear hfz35_6
        try clear hfz38_0
        try clear hfz38_1
        try clear hfz38_2
        try clear hfz38_3
        try clear hfz38_4
        try clear hfz38_5
        try clear hfz38_6
        try clear hx702_0
        try clear p2
        try clear p6
        try clear p702
        try clear q702
        obtain ⟨x16_2, x19_2, rfl, HA, HK2, HO_11, HO_13, HO_16, HO_17, HO_688002, HO_688003, HO_688004, HO_688005, HO_688006, HO_696002, HO_696004, HO_696005, HO_696006, BK687, BK695, HB⟩ := hrel
        cases gk with
        | zero => exact absurd HA.out (by simp [canopylaw4_RunsParts.l1])
        | succ k2 =>
         have H := HA.out
         clear HA
         simp only [canopylaw4_RunsParts.l1] at H
         by_cases c47 : x19_2 < (x17_1.length : Int)
         ·rw [if_pos c47] at H
          have c47b0 : decide (x19_2 < (x17_1.length : Int)) = true := decide_eq_true c47
          clear c47
          by_cases c48 : 0 ≤ x19_2
          ·rw [if_pos c48] at H
           have c48b0 : decide (0 ≤ x19_2) = true := decide_eq_true c48
           clear c48
           by_cases c49 : ((rd_T48 x17_1 x19_2).f0) < 0
           ·rw [if_pos c49] at H
            have c49b0 : decide (((rd_T48 x17_1 x19_2).f0) < 0) = true := decide_eq_true c49
            clear c49
            obtain rfl := Option.some.inj H
            obtain ⟨Ao50, co50, eo50⟩ := Kd.S_slice HO_17.out
            subst eo50
            try go_wp2
            have n0_ := Aside0.mk (Kd.R_drew HO_11.out)
            have n1_ := Aside0.mk (Kd.R_drew HO_13.out)
            have n2_ := Aside0.mk (Kd.R_drew HO_16.out)
            have n3_ := Aside0.mk (Kd.S_drew HO_17.out)
            have n4_ := Aside0.mk (Kd.R_drew HO_688002.out)
            have n5_ := Aside0.mk (Kd.R_drew HO_688003.out)
            have n6_ := Aside0.mk (Kd.R_drew HO_688004.out)
            have n7_ := Aside0.mk (Kd.R_drew HO_688005.out)
            have n8_ := Aside0.mk (Kd.R_drew HO_688006.out)
            have n9_ := Aside0.mk (Kd.R_drew HO_696002.out)
            have n10_ := Aside0.mk (Kd.R_drew HO_696004.out)
            have n11_ := Aside0.mk (Kd.R_drew HO_696005.out)
            have n12_ := Aside0.mk (Kd.R_drew HO_696006.out)
            have n13_ := Aside0.mk (blk_drew BK687.out)
            have n14_ := Aside0.mk (blk_drew BK695.out)
            have n15_ := Aside0.mk (below_drew1 HB.out)
            clear HO_11
            clear HO_13
            clear HO_16
            clear HO_17
            clear HO_688002
            clear HO_688003
            clear HO_688004
            clear HO_688005
            clear HO_688006
            clear HO_696002
            clear HO_696004
            clear HO_696005
            clear HO_696006
            clear BK687
            clear BK695
            clear HB
            have HO_11 := n0_
            have HO_13 := n1_
            have HO_16 := n2_
            have HO_17 := n3_
            have HO_688002 := n4_
            have HO_688003 := n5_
            have HO_688004 := n6_
            have HO_688005 := n7_
            have HO_688006 := n8_
            have HO_696002 := n9_
            have HO_696004 := n10_
            have HO_696005 := n11_
            have HO_696006 := n12_
            have BK687 := n13_
            have BK695 := n14_
            have HB := n15_
            clear n0_ n1_ n2_ n3_ n4_ n5_ n6_ n7_ n8_ n9_ n10_ n11_ n12_ n13_ n14_ n15_
            have p706 : 0 ≤ (x19_2 : Int) := of_decide_eq_true (by first | (with_reducible assumption) | assumption)
            have q706 : x19_2 < (x17_1.length : Int) := of_decide_eq_true (by first | (with_reducible assumption) | assumption)
            obtain ⟨ad706, A706_1, c706_1, e706, hx706_0, hx706_1, hl706_1, hi706_1⟩ := at_T48 (Kd.S_reads' HO_17.out).2.2 x19_2 p706 q706
            cases e706
            obtain ⟨ce706, hce706, hMe706, hcc706⟩ := Kd.S_get HO_17.out z48 x19_2 p706 (by first | exact q706 | exact of_decide_eq_true (by first | (with_reducible assumption) | assumption) | (have e_ := (Kd.S_reads' HO_17.out).1; omega))
            obtain ⟨ve706_1, rfl, ge706_1⟩ := k48_openM hMe706
            have hv706_1 := hcc706 1 _ rfl
            rw [add_field _ _ 1 (by omega)] at hv706_1
            replace hv706_1 := Option.some.inj (hv706_1.symm.trans hx706_1)
            rw [hv706_1] at ge706_1
            have HL706_1 := Aside0.mk (show Kd.R (Kd.int .i64) 3 _ _ _ _ ((rd_T48 x17_1 x19_2).f1) from ge706_1)
            clear hv706_1 ge706_1
            clear hcc706 hce706
            have HR706_1 := Aside0.mk hi706_1
            have HC706_1 := Aside0.mk hl706_1
            clear hi706_1 hl706_1
            replace p706 := eq_true p706
            replace q706 := eq_true q706
            refine start_ (n := 16) (S := fun w' => w'.cell? (ad706.add ((x19_2).toNat * 2)) = some (.int .i64 ((rd_T48 x17_1 x19_2).f0)) ∧ w'.cell? ⟨(ad706.add ((x19_2).toNat * 2)).block, (ad706.add ((x19_2).toNat * 2)).off + 1, none⟩ = some (.slice A706_1 ((rd_T48 x17_1 x19_2).f1).length c706_1)) (ds := []) bzp0 (by kernel_rfl) rfl rfl ⟨hx706_0, hx706_1⟩ (fun hHeld => ?_); refine with_tabW canopylaw4_RunsParts.tab18 canopylaw4_RunsParts.bits18 (fun HT_ HW_ => ?_)
            generalize wr.drew = w51 at HO_11 HO_13 HO_16 HO_17 HO_688002 HO_688003 HO_688004 HO_688005 HO_688006 HO_696002 HO_696004 HO_696005 HO_696006 BK687 BK695 HB HL706_1 HR706_1 hx706_0 hx706_1 hHeld ⊢
            refine pure_ (i := 0) (N := some 66) (v := ?_) (a' := ?_) bzp1 rfl rfl (any_of HT_.out (by kernel_rfl)) (fun _ _ _ h => h) (Or.inl ⟨by rfl, ?_⟩) ?_ ?_
            rotate_left
            ·intro w'
             go_simp
             with_reducible rfl
            rotate_left
            ·simp only [Act.put, List.setIfInBounds_toArray, List.set_cons_zero, List.set_cons_succ, i64_w, i32_w]
             rfl
            refine pure_ (i := 1) (N := some 67) (v := ?_) (a' := ?_) bzp2 rfl rfl (any_of HT_.out (by kernel_rfl)) (fun _ _ _ h => h) (Or.inl ⟨by rfl, ?_⟩) ?_ ?_
            rotate_left
            ·intro w'
             go_simp
             with_reducible rfl
            rotate_left
            ·simp only [Act.put, List.setIfInBounds_toArray, List.set_cons_zero, List.set_cons_succ, i64_w, i32_w]
             rfl
            refine pure_ (i := 2) (N := some 68) (v := ?_) (a' := ?_) bzp3 rfl rfl (any_of HT_.out (by kernel_rfl)) (fun _ _ _ h => h) (Or.inl ⟨by rfl, ?_⟩) ?_ ?_
            rotate_left
            ·intro w'
             go_simp
             with_reducible rfl
            rotate_left
            ·simp only [Act.put, List.setIfInBounds_toArray, List.set_cons_zero, List.set_cons_succ, i64_w, i32_w]
             rfl
            refine pure_ (i := 3) (N := some 69) (v := ?_) (a' := ?_) bzp4 rfl rfl (any_of HT_.out (by kernel_rfl)) (fun _ _ _ h => h) (Or.inl ⟨by rfl, ?_⟩) ?_ ?_
            rotate_left
            ·intro w'
             go_simp
             with_reducible rfl
            rotate_left
            ·simp only [Act.put, List.setIfInBounds_toArray, List.set_cons_zero, List.set_cons_succ, i64_w, i32_w]
             rfl
            refine take_ (i := 4) (N := some 70) (v := ?_) (a' := ?_) bzp5 rfl rfl (take_ofW HT_.out HW_.out (by kernel_rfl)) (fun _ _ _ h => h) (Or.inl ⟨by rfl, ?_⟩) hHeld ?_ ?_
            rotate_left
            ·rintro w' ⟨s0, s1⟩
             go_simp
             with_reducible rfl
            rotate_left
            ·simp only [Act.put, List.setIfInBounds_toArray, List.set_cons_zero, List.set_cons_succ, i64_w, i32_w]
             rfl
            refine pure_ (i := 5) (N := some 71) (v := ?_) (a' := ?_) bzp6 rfl rfl (any_of HT_.out (by kernel_rfl)) (fun _ _ _ h => h) (Or.inl ⟨by rfl, ?_⟩) ?_ ?_
            rotate_left
            ·intro w'
             go_simp
             with_reducible rfl
            rotate_left
            ·simp only [Act.put, List.setIfInBounds_toArray, List.set_cons_zero, List.set_cons_succ, i64_w, i32_w]
             rfl
            refine pure_ (i := 6) (N := some 72) (v := ?_) (a' := ?_) bzp7 rfl rfl (any_of HT_.out (by kernel_rfl)) (fun _ _ _ h => h) (Or.inl ⟨by rfl, ?_⟩) ?_ ?_
            rotate_left
            ·intro w'
             go_simp
             with_reducible rfl
            rotate_left
            ·simp only [Act.put, List.setIfInBounds_toArray, List.set_cons_zero, List.set_cons_succ, i64_w, i32_w]
             rfl
            refine pure_ (i := 7) (N := some 73) (v := undef) (a' := ?_) bzp8 rfl rfl (any_of HT_.out (by kernel_rfl)) (fun _ _ _ h => h) (Or.inr ⟨by rfl, rfl⟩) ?_ ?_
            rotate_left
            ·simp only [Act.put, List.setIfInBounds_toArray, List.set_cons_zero, List.set_cons_succ, i64_w, i32_w]
             rfl
            refine pure_ (i := 8) (N := some 74) (v := undef) (a' := ?_) bzp9 rfl rfl (any_of HT_.out (by kernel_rfl)) (fun _ _ _ h => h) (Or.inr ⟨by rfl, rfl⟩) ?_ ?_
            rotate_left
            ·simp only [Act.put, List.setIfInBounds_toArray, List.set_cons_zero, List.set_cons_succ, i64_w, i32_w]
             rfl
            refine pure_ (i := 9) (N := some 75) (v := undef) (a' := ?_) bzp10 rfl rfl (any_of HT_.out (by kernel_rfl)) (fun _ _ _ h => h) (Or.inr ⟨by rfl, rfl⟩) ?_ ?_
            rotate_left
            ·simp only [Act.put, List.setIfInBounds_toArray, List.set_cons_zero, List.set_cons_succ, i64_w, i32_w]
             rfl
            refine pure_ (i := 10) (N := some 76) (v := undef) (a' := ?_) bzp11 rfl rfl (any_of HT_.out (by kernel_rfl)) (fun _ _ _ h => h) (Or.inr ⟨by rfl, rfl⟩) ?_ ?_
            rotate_left
            ·simp only [Act.put, List.setIfInBounds_toArray, List.set_cons_zero, List.set_cons_succ, i64_w, i32_w]
             rfl
            refine pure_ (i := 11) (N := some 77) (v := undef) (a' := ?_) #[true, true, true, true, true, true, true, true, true, true, true, true, false, false, false, false] rfl rfl (any_of HT_.out (by kernel_rfl)) (fun _ _ _ h => h) (Or.inr ⟨by rfl, rfl⟩) ?_ ?_
            rotate_left
            ·simp only [Act.put, List.setIfInBounds_toArray, List.set_cons_zero, List.set_cons_succ, i64_w, i32_w]
             rfl
            refine pure_ (i := 12) (N := some 78) (v := undef) (a' := ?_) bzp12 rfl rfl (any_of HT_.out (by kernel_rfl)) (fun _ _ _ h => h) (Or.inr ⟨by rfl, rfl⟩) ?_ ?_
            rotate_left
            ·simp only [Act.put, List.setIfInBounds_toArray, List.set_cons_zero, List.set_cons_succ, i64_w, i32_w]
             rfl
            refine pure_ (i := 13) (N := some 79) (v := undef) (a' := ?_) bzp13 rfl rfl (any_of HT_.out (by kernel_rfl)) (fun _ _ _ h => h) (Or.inr ⟨by rfl, rfl⟩) ?_ ?_
            rotate_left
            ·simp only [Act.put, List.setIfInBounds_toArray, List.set_cons_zero, List.set_cons_succ, i64_w, i32_w]
             rfl
            refine pure_ (i := 14) (N := some 80) (v := undef) (a' := ?_) bzp14 rfl rfl (any_of HT_.out (by kernel_rfl)) (fun _ _ _ h => h) (Or.inr ⟨by rfl, rfl⟩) ?_ ?_
            rotate_left
            ·simp only [Act.put, List.setIfInBounds_toArray, List.set_cons_zero, List.set_cons_succ, i64_w, i32_w]
             rfl
            refine pure_ (i := 15) (N := some 81) (v := ?_) (a' := ?_) bzp15 rfl rfl (any_of HT_.out (by kernel_rfl)) (fun _ _ _ h => h) (Or.inl ⟨by rfl, ?_⟩) ?_ ?_
            rotate_left
            ·intro w'
             go_simp
             with_reducible rfl
            rotate_left
            ·simp only [Act.put, List.setIfInBounds_toArray, List.set_cons_zero, List.set_cons_succ, i64_w, i32_w]
             rfl
            refine done_ (done_of HT_.out (by kernel_rfl)) ?_
            try go_wp2
            go_ret
            exact ⟨by first | rfl | (simp [errW_none, errW_some] <;> rfl) | (simp [*, errW_none, errW_some] <;> rfl), by repeat (first | (with_reducible first | exact HB.out | apply below_alloc | apply pw_below_drewN | apply below_drew1 | refine below_set ?_ GE687.out | refine below_set ?_ GE695.out) | exact HB.out)⟩
           ·rw [if_neg c49] at H
            have c49b0 : decide (((rd_T48 x17_1 x19_2).f0) < 0) = false := decide_eq_false c49
            clear c49
            by_cases c52 : ((rd_T48 x17_1 x19_2).f0) ≥ t670
            ·rw [if_pos c52] at H
             have c52b0 : decide (t670 ≤ ((rd_T48 x17_1 x19_2).f0)) = true := decide_eq_true c52
             clear c52
             obtain rfl := Option.some.inj H
             obtain ⟨Ao53, co53, eo53⟩ := Kd.S_slice HO_17.out
             subst eo53
             try go_wp2
             have n0_ := Aside0.mk (Kd.R_drew HO_11.out)
             have n1_ := Aside0.mk (Kd.R_drew HO_13.out)
             have n2_ := Aside0.mk (Kd.R_drew HO_16.out)
             have n3_ := Aside0.mk (Kd.S_drew HO_17.out)
             have n4_ := Aside0.mk (Kd.R_drew HO_688002.out)
             have n5_ := Aside0.mk (Kd.R_drew HO_688003.out)
             have n6_ := Aside0.mk (Kd.R_drew HO_688004.out)
             have n7_ := Aside0.mk (Kd.R_drew HO_688005.out)
             have n8_ := Aside0.mk (Kd.R_drew HO_688006.out)
             have n9_ := Aside0.mk (Kd.R_drew HO_696002.out)
             have n10_ := Aside0.mk (Kd.R_drew HO_696004.out)
             have n11_ := Aside0.mk (Kd.R_drew HO_696005.out)
             have n12_ := Aside0.mk (Kd.R_drew HO_696006.out)
             have n13_ := Aside0.mk (blk_drew BK687.out)
             have n14_ := Aside0.mk (blk_drew BK695.out)
             have n15_ := Aside0.mk (below_drew1 HB.out)
             clear HO_11
             clear HO_13
             clear HO_16
             clear HO_17
             clear HO_688002
             clear HO_688003
             clear HO_688004
             clear HO_688005
             clear HO_688006
             clear HO_696002
             clear HO_696004
             clear HO_696005
             clear HO_696006
             clear BK687
             clear BK695
             clear HB
             have HO_11 := n0_
             have HO_13 := n1_
             have HO_16 := n2_
             have HO_17 := n3_
             have HO_688002 := n4_
             have HO_688003 := n5_
             have HO_688004 := n6_
             have HO_688005 := n7_
             have HO_688006 := n8_
             have HO_696002 := n9_
             have HO_696004 := n10_
             have HO_696005 := n11_
             have HO_696006 := n12_
             have BK687 := n13_
             have BK695 := n14_
             have HB := n15_
             clear n0_ n1_ n2_ n3_ n4_ n5_ n6_ n7_ n8_ n9_ n10_ n11_ n12_ n13_ n14_ n15_
             have p706 : 0 ≤ (x19_2 : Int) := of_decide_eq_true (by first | (with_reducible assumption) | assumption)
             have q706 : x19_2 < (x17_1.length : Int) := of_decide_eq_true (by first | (with_reducible assumption) | assumption)
             obtain ⟨ad706, A706_1, c706_1, e706, hx706_0, hx706_1, hl706_1, hi706_1⟩ := at_T48 (Kd.S_reads' HO_17.out).2.2 x19_2 p706 q706
             cases e706
             obtain ⟨ce706, hce706, hMe706, hcc706⟩ := Kd.S_get HO_17.out z48 x19_2 p706 (by first | exact q706 | exact of_decide_eq_true (by first | (with_reducible assumption) | assumption) | (have e_ := (Kd.S_reads' HO_17.out).1; omega))
             obtain ⟨ve706_1, rfl, ge706_1⟩ := k48_openM hMe706
             have hv706_1 := hcc706 1 _ rfl
             rw [add_field _ _ 1 (by omega)] at hv706_1
             replace hv706_1 := Option.some.inj (hv706_1.symm.trans hx706_1)
             rw [hv706_1] at ge706_1
             have HL706_1 := Aside0.mk (show Kd.R (Kd.int .i64) 3 _ _ _ _ ((rd_T48 x17_1 x19_2).f1) from ge706_1)
             clear hv706_1 ge706_1
             clear hcc706 hce706
             have HR706_1 := Aside0.mk hi706_1
             have HC706_1 := Aside0.mk hl706_1
             clear hi706_1 hl706_1
             replace p706 := eq_true p706
             replace q706 := eq_true q706
             have p707 : 0 ≤ (x19_2 : Int) := of_decide_eq_true (by first | (with_reducible assumption) | assumption)
             have q707 : x19_2 < (x17_1.length : Int) := of_decide_eq_true (by first | (with_reducible assumption) | assumption)
             obtain ⟨ad707, A707_1, c707_1, e707, hx707_0, hx707_1, hl707_1, hi707_1⟩ := at_T48 (Kd.S_reads' HO_17.out).2.2 x19_2 p707 q707
             obtain rfl : ad706 = ad707 := (by injection e707)
             obtain ⟨ce707, hce707, hMe707, hcc707⟩ := Kd.S_get HO_17.out z48 x19_2 p707 (by first | exact q707 | exact of_decide_eq_true (by first | (with_reducible assumption) | assumption) | (have e_ := (Kd.S_reads' HO_17.out).1; omega))
             obtain ⟨ve707_1, rfl, ge707_1⟩ := k48_openM hMe707
             have hv707_1 := hcc707 1 _ rfl
             rw [add_field _ _ 1 (by omega)] at hv707_1
             replace hv707_1 := Option.some.inj (hv707_1.symm.trans hx707_1)
             rw [hv707_1] at ge707_1
             have HL707_1 := Aside0.mk (show Kd.R (Kd.int .i64) 3 _ _ _ _ ((rd_T48 x17_1 x19_2).f1) from ge707_1)
             clear hv707_1 ge707_1
             clear hcc707 hce707
             have HR707_1 := Aside0.mk hi707_1
             have HC707_1 := Aside0.mk hl707_1
             clear hi707_1 hl707_1
             replace p707 := eq_true p707
             replace q707 := eq_true q707
             have ea_ := Option.some.inj (hx706_1.symm.trans hx707_1)
             injection ea_ with ea_ en_ ec_
             subst ea_
             subst ec_
             clear en_
             refine start_ (n := 16) (S := fun w' => w'.cell? ⟨gb687, 0, none⟩ = some (.int .i64 t670) ∧ w'.cell? ⟨gb687, 1, none⟩ = some (.int .i64 t671) ∧ w'.cell? ⟨gb687, 2, none⟩ = some (.slice Ao22 t672.length co22) ∧ w'.cell? ⟨gb687, 3, none⟩ = some (.slice Ao23 t675.length co23) ∧ w'.cell? ⟨gb687, 4, none⟩ = some (.slice Ao24 t678.length co24) ∧ w'.cell? ⟨gb687, 5, none⟩ = some (.slice Ao25 t681.length co25) ∧ w'.cell? ⟨gb687, 6, none⟩ = some (.slice Ao26 t684.length co26) ∧ w'.cell? (ad706.add ((x19_2).toNat * 2)) = some (.int .i64 ((rd_T48 x17_1 x19_2).f0)) ∧ w'.cell? ⟨(ad706.add ((x19_2).toNat * 2)).block, (ad706.add ((x19_2).toNat * 2)).off + 1, none⟩ = some (.slice A706_1 ((rd_T48 x17_1 x19_2).f1).length c706_1) ∧ w'.cell? (ad706.add ((x19_2).toNat * 2)) = some (.int .i64 ((rd_T48 x17_1 x19_2).f0)) ∧ w'.cell? ⟨(ad706.add ((x19_2).toNat * 2)).block, (ad706.add ((x19_2).toNat * 2)).off + 1, none⟩ = some (.slice A706_1 ((rd_T48 x17_1 x19_2).f1).length c706_1)) (ds := []) bzp0 (by kernel_rfl) rfl rfl ⟨(blk_cell BK687.out 0).trans rfl, (blk_cell BK687.out 1).trans rfl, (blk_cell BK687.out 2).trans rfl, (blk_cell BK687.out 3).trans rfl, (blk_cell BK687.out 4).trans rfl, (blk_cell BK687.out 5).trans rfl, (blk_cell BK687.out 6).trans rfl, hx706_0, hx706_1, hx707_0, hx707_1⟩ (fun hHeld => ?_); refine with_tabW canopylaw4_RunsParts.tab18 canopylaw4_RunsParts.bits18 (fun HT_ HW_ => ?_)
             generalize wr.drew = w54 at HO_11 HO_13 HO_16 HO_17 HO_688002 HO_688003 HO_688004 HO_688005 HO_688006 HO_696002 HO_696004 HO_696005 HO_696006 BK687 BK695 HB HL706_1 HL707_1 HR706_1 HR707_1 hx706_0 hx706_1 hx707_0 hx707_1 hHeld ⊢
             refine pure_ (i := 0) (N := some 66) (v := ?_) (a' := ?_) bzp1 rfl rfl (any_of HT_.out (by kernel_rfl)) (fun _ _ _ h => h) (Or.inl ⟨by rfl, ?_⟩) ?_ ?_
             rotate_left
             ·intro w'
              go_simp
              with_reducible rfl
             rotate_left
             ·simp only [Act.put, List.setIfInBounds_toArray, List.set_cons_zero, List.set_cons_succ, i64_w, i32_w]
              rfl
             refine pure_ (i := 1) (N := some 67) (v := ?_) (a' := ?_) bzp2 rfl rfl (any_of HT_.out (by kernel_rfl)) (fun _ _ _ h => h) (Or.inl ⟨by rfl, ?_⟩) ?_ ?_
             rotate_left
             ·intro w'
              go_simp
              with_reducible rfl
             rotate_left
             ·simp only [Act.put, List.setIfInBounds_toArray, List.set_cons_zero, List.set_cons_succ, i64_w, i32_w]
              rfl
             refine pure_ (i := 2) (N := some 68) (v := ?_) (a' := ?_) bzp3 rfl rfl (any_of HT_.out (by kernel_rfl)) (fun _ _ _ h => h) (Or.inl ⟨by rfl, ?_⟩) ?_ ?_
             rotate_left
             ·intro w'
              go_simp
              with_reducible rfl
             rotate_left
             ·simp only [Act.put, List.setIfInBounds_toArray, List.set_cons_zero, List.set_cons_succ, i64_w, i32_w]
              rfl
             refine pure_ (i := 3) (N := some 69) (v := ?_) (a' := ?_) bzp4 rfl rfl (any_of HT_.out (by kernel_rfl)) (fun _ _ _ h => h) (Or.inl ⟨by rfl, ?_⟩) ?_ ?_
             rotate_left
             ·intro w'
              go_simp
              with_reducible rfl
             rotate_left
             ·simp only [Act.put, List.setIfInBounds_toArray, List.set_cons_zero, List.set_cons_succ, i64_w, i32_w]
              rfl
             refine take_ (i := 4) (N := some 70) (v := ?_) (a' := ?_) bzp5 rfl rfl (take_ofW HT_.out HW_.out (by kernel_rfl)) (fun _ _ _ h => h) (Or.inl ⟨by rfl, ?_⟩) hHeld ?_ ?_
             rotate_left
             ·rintro w' ⟨s0, s1, s2, s3, s4, s5, s6, s7, s8, s9, s10⟩
              go_simp
              with_reducible rfl
             rotate_left
             ·simp only [Act.put, List.setIfInBounds_toArray, List.set_cons_zero, List.set_cons_succ, i64_w, i32_w]
              rfl
             refine pure_ (i := 5) (N := some 71) (v := ?_) (a' := ?_) bzp6 rfl rfl (any_of HT_.out (by kernel_rfl)) (fun _ _ _ h => h) (Or.inl ⟨by rfl, ?_⟩) ?_ ?_
             rotate_left
             ·intro w'
              go_simp
              with_reducible rfl
             rotate_left
             ·simp only [Act.put, List.setIfInBounds_toArray, List.set_cons_zero, List.set_cons_succ, i64_w, i32_w]
              rfl
             refine pure_ (i := 6) (N := some 72) (v := ?_) (a' := ?_) bzp7 rfl rfl (any_of HT_.out (by kernel_rfl)) (fun _ _ _ h => h) (Or.inl ⟨by rfl, ?_⟩) ?_ ?_
             rotate_left
             ·intro w'
              go_simp
              with_reducible rfl
             rotate_left
             ·simp only [Act.put, List.setIfInBounds_toArray, List.set_cons_zero, List.set_cons_succ, i64_w, i32_w]
              rfl
             refine pure_ (i := 7) (N := some 73) (v := ?_) (a' := ?_) bzp8 rfl rfl (any_of HT_.out (by kernel_rfl)) (fun _ _ _ h => h) (Or.inl ⟨by rfl, ?_⟩) ?_ ?_
             rotate_left
             ·intro w'
              go_simp
              with_reducible rfl
             rotate_left
             ·simp only [Act.put, List.setIfInBounds_toArray, List.set_cons_zero, List.set_cons_succ, i64_w, i32_w]
              rfl
             refine pure_ (i := 8) (N := some 74) (v := ?_) (a' := ?_) bzp9 rfl rfl (any_of HT_.out (by kernel_rfl)) (fun _ _ _ h => h) (Or.inl ⟨by rfl, ?_⟩) ?_ ?_
             rotate_left
             ·intro w'
              go_simp
              with_reducible rfl
             rotate_left
             ·simp only [Act.put, List.setIfInBounds_toArray, List.set_cons_zero, List.set_cons_succ, i64_w, i32_w]
              rfl
             refine pure_ (i := 9) (N := some 75) (v := ?_) (a' := ?_) bzp10 rfl rfl (any_of HT_.out (by kernel_rfl)) (fun _ _ _ h => h) (Or.inl ⟨by rfl, ?_⟩) ?_ ?_
             rotate_left
             ·intro w'
              go_simp
              with_reducible rfl
             rotate_left
             ·simp only [Act.put, List.setIfInBounds_toArray, List.set_cons_zero, List.set_cons_succ, i64_w, i32_w]
              rfl
             refine pure_ (i := 10) (N := some 76) (v := ?_) (a' := ?_) bzp11 rfl rfl (any_of HT_.out (by kernel_rfl)) (fun _ _ _ h => h) (Or.inl ⟨by rfl, ?_⟩) ?_ ?_
             rotate_left
             ·intro w'
              go_simp
              with_reducible rfl
             rotate_left
             ·simp only [Act.put, List.setIfInBounds_toArray, List.set_cons_zero, List.set_cons_succ, i64_w, i32_w]
              rfl
             refine pure_ (i := 12) (N := some 78) (v := ?_) (a' := ?_) bzp16 rfl rfl (any_of HT_.out (by kernel_rfl)) (fun _ _ _ h => h) (Or.inl ⟨by rfl, ?_⟩) ?_ ?_
             rotate_left
             ·intro w'
              go_simp
              with_reducible rfl
             rotate_left
             ·simp only [Act.put, List.setIfInBounds_toArray, List.set_cons_zero, List.set_cons_succ, i64_w, i32_w]
              rfl
             refine take_ (i := 11) (N := some 77) (v := ?_) (a' := ?_) bzp12 rfl rfl (take_ofW HT_.out HW_.out (by kernel_rfl)) (fun _ _ _ h => h) (Or.inl ⟨by rfl, ?_⟩) hHeld ?_ ?_
             rotate_left
             ·rintro w' ⟨s0, s1, s2, s3, s4, s5, s6, s7, s8, s9, s10⟩
              go_simp
              with_reducible rfl
             rotate_left
             ·simp only [Act.put, List.setIfInBounds_toArray, List.set_cons_zero, List.set_cons_succ, i64_w, i32_w]
              rfl
             refine take_ (i := 13) (N := some 79) (v := ?_) (a' := ?_) bzp13 rfl rfl (take_ofW HT_.out HW_.out (by kernel_rfl)) (fun _ _ _ h => h) (Or.inl ⟨by rfl, ?_⟩) hHeld ?_ ?_
             rotate_left
             ·rintro w' ⟨s0, s1, s2, s3, s4, s5, s6, s7, s8, s9, s10⟩
              go_simp
              with_reducible rfl
             rotate_left
             ·simp only [Act.put, List.setIfInBounds_toArray, List.set_cons_zero, List.set_cons_succ, i64_w, i32_w]
              rfl
             refine pure_ (i := 14) (N := some 80) (v := ?_) (a' := ?_) bzp14 rfl rfl (any_of HT_.out (by kernel_rfl)) (fun _ _ _ h => h) (Or.inl ⟨by rfl, ?_⟩) ?_ ?_
             rotate_left
             ·intro w'
              go_simp
              with_reducible rfl
             rotate_left
             ·simp only [Act.put, List.setIfInBounds_toArray, List.set_cons_zero, List.set_cons_succ, i64_w, i32_w]
              rfl
             refine pure_ (i := 15) (N := some 81) (v := ?_) (a' := ?_) bzp15 rfl rfl (any_of HT_.out (by kernel_rfl)) (fun _ _ _ h => h) (Or.inl ⟨by rfl, ?_⟩) ?_ ?_
             rotate_left
             ·intro w'
              go_simp
              with_reducible rfl
             rotate_left
             ·simp only [Act.put, List.setIfInBounds_toArray, List.set_cons_zero, List.set_cons_succ, i64_w, i32_w]
              rfl
             refine done_ (done_of HT_.out (by kernel_rfl)) ?_
             try go_wp2
             go_ret
             exact ⟨by first | rfl | (simp [errW_none, errW_some] <;> rfl) | (simp [*, errW_none, errW_some] <;> rfl), by repeat (first | (with_reducible first | exact HB.out | apply below_alloc | apply pw_below_drewN | apply below_drew1 | refine below_set ?_ GE687.out | refine below_set ?_ GE695.out) | exact HB.out)⟩
            ·rw [if_neg c52] at H
             have c52b0 : decide (t670 ≤ ((rd_T48 x17_1 x19_2).f0)) = false := decide_eq_false c52
             clear c52
             by_cases c55 : 0 ≤ ((rd_T48 x17_1 x19_2).f0)
             ·rw [if_pos c55] at H
              have c55b0 : decide (0 ≤ ((rd_T48 x17_1 x19_2).f0)) = true := decide_eq_true c55
              clear c55
              by_cases c56 : ((rd_T48 x17_1 x19_2).f0) < (x16_2.length : Int)
              ·rw [if_pos c56] at H
               have c56b0 : decide (((rd_T48 x17_1 x19_2).f0) < (x16_2.length : Int)) = true := decide_eq_true c56
               clear c56
               obtain ⟨y709, hy709⟩ : ∃ y_ : List Bool, y_ = (x16_2.set (((rd_T48 x17_1 x19_2).f0) : Int).toNat true) := ⟨_, rfl⟩
               replace H : (canopylaw4_RunsParts.l1 k2 t667 t691 t694 y709 x17_1 (wrap64 (x19_2 + 1)) t670 t671 t672 t675 t678 t681 t684 t670 t671 t672 t678 t681 t684) = some r := by first | (rw [hy709]; with_reducible exact H) | (have H2_ := (Option.bind_some _ _).symm.trans H; rw [hy709]; with_reducible exact H2_) | (have H2_ := (Option.bind_some _ _).symm.trans H; with_reducible exact H2_) | with_reducible exact H | (rw [hy709]; exact H) | exact H
               have Ny709 := Aside0.mk hy709
               clear hy709
               have H' := Aside0.mk H
               clear H
               obtain ⟨Ao58, co58, eo58⟩ := Kd.S_slice HO_17.out
               subst eo58
               try go_wp2
               have n0_ := Aside0.mk (Kd.R_drew HO_11.out)
               have n1_ := Aside0.mk (Kd.R_drew HO_13.out)
               have n2_ := Aside0.mk (Kd.R_drew HO_16.out)
               have n3_ := Aside0.mk (Kd.S_drew HO_17.out)
               have n4_ := Aside0.mk (Kd.R_drew HO_688002.out)
               have n5_ := Aside0.mk (Kd.R_drew HO_688003.out)
               have n6_ := Aside0.mk (Kd.R_drew HO_688004.out)
               have n7_ := Aside0.mk (Kd.R_drew HO_688005.out)
               have n8_ := Aside0.mk (Kd.R_drew HO_688006.out)
               have n9_ := Aside0.mk (Kd.R_drew HO_696002.out)
               have n10_ := Aside0.mk (Kd.R_drew HO_696004.out)
               have n11_ := Aside0.mk (Kd.R_drew HO_696005.out)
               have n12_ := Aside0.mk (Kd.R_drew HO_696006.out)
               have n13_ := Aside0.mk (blk_drew BK687.out)
               have n14_ := Aside0.mk (blk_drew BK695.out)
               have n15_ := Aside0.mk (below_drew1 HB.out)
               clear HO_11
               clear HO_13
               clear HO_16
               clear HO_17
               clear HO_688002
               clear HO_688003
               clear HO_688004
               clear HO_688005
               clear HO_688006
               clear HO_696002
               clear HO_696004
               clear HO_696005
               clear HO_696006
               clear BK687
               clear BK695
               clear HB
               have HO_11 := n0_
               have HO_13 := n1_
               have HO_16 := n2_
               have HO_17 := n3_
               have HO_688002 := n4_
               have HO_688003 := n5_
               have HO_688004 := n6_
               have HO_688005 := n7_
               have HO_688006 := n8_
               have HO_696002 := n9_
               have HO_696004 := n10_
               have HO_696005 := n11_
               have HO_696006 := n12_
               have BK687 := n13_
               have BK695 := n14_
               have HB := n15_
               clear n0_ n1_ n2_ n3_ n4_ n5_ n6_ n7_ n8_ n9_ n10_ n11_ n12_ n13_ n14_ n15_
               have p706 : 0 ≤ (x19_2 : Int) := of_decide_eq_true (by first | (with_reducible assumption) | assumption)
               have q706 : x19_2 < (x17_1.length : Int) := of_decide_eq_true (by first | (with_reducible assumption) | assumption)
               obtain ⟨ad706, A706_1, c706_1, e706, hx706_0, hx706_1, hl706_1, hi706_1⟩ := at_T48 (Kd.S_reads' HO_17.out).2.2 x19_2 p706 q706
               cases e706
               obtain ⟨ce706, hce706, hMe706, hcc706⟩ := Kd.S_get HO_17.out z48 x19_2 p706 (by first | exact q706 | exact of_decide_eq_true (by first | (with_reducible assumption) | assumption) | (have e_ := (Kd.S_reads' HO_17.out).1; omega))
               obtain ⟨ve706_1, rfl, ge706_1⟩ := k48_openM hMe706
               have hv706_1 := hcc706 1 _ rfl
               rw [add_field _ _ 1 (by omega)] at hv706_1
               replace hv706_1 := Option.some.inj (hv706_1.symm.trans hx706_1)
               rw [hv706_1] at ge706_1
               have HL706_1 := Aside0.mk (show Kd.R (Kd.int .i64) 3 _ _ _ _ ((rd_T48 x17_1 x19_2).f1) from ge706_1)
               clear hv706_1 ge706_1
               clear hcc706 hce706
               have HR706_1 := Aside0.mk hi706_1
               have HC706_1 := Aside0.mk hl706_1
               clear hi706_1 hl706_1
               replace p706 := eq_true p706
               replace q706 := eq_true q706
               have p707 : 0 ≤ (x19_2 : Int) := of_decide_eq_true (by first | (with_reducible assumption) | assumption)
               have q707 : x19_2 < (x17_1.length : Int) := of_decide_eq_true (by first | (with_reducible assumption) | assumption)
               obtain ⟨ad707, A707_1, c707_1, e707, hx707_0, hx707_1, hl707_1, hi707_1⟩ := at_T48 (Kd.S_reads' HO_17.out).2.2 x19_2 p707 q707
               obtain rfl : ad706 = ad707 := (by injection e707)
               obtain ⟨ce707, hce707, hMe707, hcc707⟩ := Kd.S_get HO_17.out z48 x19_2 p707 (by first | exact q707 | exact of_decide_eq_true (by first | (with_reducible assumption) | assumption) | (have e_ := (Kd.S_reads' HO_17.out).1; omega))
               obtain ⟨ve707_1, rfl, ge707_1⟩ := k48_openM hMe707
               have hv707_1 := hcc707 1 _ rfl
               rw [add_field _ _ 1 (by omega)] at hv707_1
               replace hv707_1 := Option.some.inj (hv707_1.symm.trans hx707_1)
               rw [hv707_1] at ge707_1
               have HL707_1 := Aside0.mk (show Kd.R (Kd.int .i64) 3 _ _ _ _ ((rd_T48 x17_1 x19_2).f1) from ge707_1)
               clear hv707_1 ge707_1
               clear hcc707 hce707
               have HR707_1 := Aside0.mk hi707_1
               have HC707_1 := Aside0.mk hl707_1
               clear hi707_1 hl707_1
               replace p707 := eq_true p707
               replace q707 := eq_true q707
               have ea_ := Option.some.inj (hx706_1.symm.trans hx707_1)
               injection ea_ with ea_ en_ ec_
               subst ea_
               subst ec_
               clear en_
               refine start_ (n := 16) (S := fun w' => w'.cell? ⟨gb687, 0, none⟩ = some (.int .i64 t670) ∧ w'.cell? ⟨gb687, 1, none⟩ = some (.int .i64 t671) ∧ w'.cell? ⟨gb687, 2, none⟩ = some (.slice Ao22 t672.length co22) ∧ w'.cell? ⟨gb687, 3, none⟩ = some (.slice Ao23 t675.length co23) ∧ w'.cell? ⟨gb687, 4, none⟩ = some (.slice Ao24 t678.length co24) ∧ w'.cell? ⟨gb687, 5, none⟩ = some (.slice Ao25 t681.length co25) ∧ w'.cell? ⟨gb687, 6, none⟩ = some (.slice Ao26 t684.length co26) ∧ w'.cell? (ad706.add ((x19_2).toNat * 2)) = some (.int .i64 ((rd_T48 x17_1 x19_2).f0)) ∧ w'.cell? ⟨(ad706.add ((x19_2).toNat * 2)).block, (ad706.add ((x19_2).toNat * 2)).off + 1, none⟩ = some (.slice A706_1 ((rd_T48 x17_1 x19_2).f1).length c706_1) ∧ w'.cell? (ad706.add ((x19_2).toNat * 2)) = some (.int .i64 ((rd_T48 x17_1 x19_2).f0)) ∧ w'.cell? ⟨(ad706.add ((x19_2).toNat * 2)).block, (ad706.add ((x19_2).toNat * 2)).off + 1, none⟩ = some (.slice A706_1 ((rd_T48 x17_1 x19_2).f1).length c706_1)) (ds := []) bzp0 (by kernel_rfl) rfl rfl ⟨(blk_cell BK687.out 0).trans rfl, (blk_cell BK687.out 1).trans rfl, (blk_cell BK687.out 2).trans rfl, (blk_cell BK687.out 3).trans rfl, (blk_cell BK687.out 4).trans rfl, (blk_cell BK687.out 5).trans rfl, (blk_cell BK687.out 6).trans rfl, hx706_0, hx706_1, hx707_0, hx707_1⟩ (fun hHeld => ?_); refine with_tabW canopylaw4_RunsParts.tab18 canopylaw4_RunsParts.bits18 (fun HT_ HW_ => ?_)
               generalize wr.drew = w59 at HO_11 HO_13 HO_16 HO_17 HO_688002 HO_688003 HO_688004 HO_688005 HO_688006 HO_696002 HO_696004 HO_696005 HO_696006 BK687 BK695 HB HL706_1 HL707_1 HR706_1 HR707_1 hx706_0 hx706_1 hx707_0 hx707_1 hHeld ⊢
               refine pure_ (i := 0) (N := some 66) (v := ?_) (a' := ?_) bzp1 rfl rfl (any_of HT_.out (by kernel_rfl)) (fun _ _ _ h => h) (Or.inl ⟨by rfl, ?_⟩) ?_ ?_
               rotate_left
               ·intro w'
                go_simp
                with_reducible rfl
               rotate_left
               ·simp only [Act.put, List.setIfInBounds_toArray, List.set_cons_zero, List.set_cons_succ, i64_w, i32_w]
                rfl
               refine pure_ (i := 1) (N := some 67) (v := ?_) (a' := ?_) bzp2 rfl rfl (any_of HT_.out (by kernel_rfl)) (fun _ _ _ h => h) (Or.inl ⟨by rfl, ?_⟩) ?_ ?_
               rotate_left
               ·intro w'
                go_simp
                with_reducible rfl
               rotate_left
               ·simp only [Act.put, List.setIfInBounds_toArray, List.set_cons_zero, List.set_cons_succ, i64_w, i32_w]
                rfl
               refine pure_ (i := 2) (N := some 68) (v := ?_) (a' := ?_) bzp3 rfl rfl (any_of HT_.out (by kernel_rfl)) (fun _ _ _ h => h) (Or.inl ⟨by rfl, ?_⟩) ?_ ?_
               rotate_left
               ·intro w'
                go_simp
                with_reducible rfl
               rotate_left
               ·simp only [Act.put, List.setIfInBounds_toArray, List.set_cons_zero, List.set_cons_succ, i64_w, i32_w]
                rfl
               refine pure_ (i := 3) (N := some 69) (v := ?_) (a' := ?_) bzp4 rfl rfl (any_of HT_.out (by kernel_rfl)) (fun _ _ _ h => h) (Or.inl ⟨by rfl, ?_⟩) ?_ ?_
               rotate_left
               ·intro w'
                go_simp
                with_reducible rfl
               rotate_left
               ·simp only [Act.put, List.setIfInBounds_toArray, List.set_cons_zero, List.set_cons_succ, i64_w, i32_w]
                rfl
               refine take_ (i := 4) (N := some 70) (v := ?_) (a' := ?_) bzp5 rfl rfl (take_ofW HT_.out HW_.out (by kernel_rfl)) (fun _ _ _ h => h) (Or.inl ⟨by rfl, ?_⟩) hHeld ?_ ?_
               rotate_left
               ·rintro w' ⟨s0, s1, s2, s3, s4, s5, s6, s7, s8, s9, s10⟩
                go_simp
                with_reducible rfl
               rotate_left
               ·simp only [Act.put, List.setIfInBounds_toArray, List.set_cons_zero, List.set_cons_succ, i64_w, i32_w]
                rfl
               refine pure_ (i := 5) (N := some 71) (v := ?_) (a' := ?_) bzp6 rfl rfl (any_of HT_.out (by kernel_rfl)) (fun _ _ _ h => h) (Or.inl ⟨by rfl, ?_⟩) ?_ ?_
               rotate_left
               ·intro w'
                go_simp
                with_reducible rfl
               rotate_left
               ·simp only [Act.put, List.setIfInBounds_toArray, List.set_cons_zero, List.set_cons_succ, i64_w, i32_w]
                rfl
               refine pure_ (i := 6) (N := some 72) (v := ?_) (a' := ?_) bzp7 rfl rfl (any_of HT_.out (by kernel_rfl)) (fun _ _ _ h => h) (Or.inl ⟨by rfl, ?_⟩) ?_ ?_
               rotate_left
               ·intro w'
                go_simp
                with_reducible rfl
               rotate_left
               ·simp only [Act.put, List.setIfInBounds_toArray, List.set_cons_zero, List.set_cons_succ, i64_w, i32_w]
                rfl
               refine pure_ (i := 7) (N := some 73) (v := ?_) (a' := ?_) bzp8 rfl rfl (any_of HT_.out (by kernel_rfl)) (fun _ _ _ h => h) (Or.inl ⟨by rfl, ?_⟩) ?_ ?_
               rotate_left
               ·intro w'
                go_simp
                with_reducible rfl
               rotate_left
               ·simp only [Act.put, List.setIfInBounds_toArray, List.set_cons_zero, List.set_cons_succ, i64_w, i32_w]
                rfl
               refine pure_ (i := 8) (N := some 74) (v := ?_) (a' := ?_) bzp9 rfl rfl (any_of HT_.out (by kernel_rfl)) (fun _ _ _ h => h) (Or.inl ⟨by rfl, ?_⟩) ?_ ?_
               rotate_left
               ·intro w'
                go_simp
                with_reducible rfl
               rotate_left
               ·simp only [Act.put, List.setIfInBounds_toArray, List.set_cons_zero, List.set_cons_succ, i64_w, i32_w]
                rfl
               refine pure_ (i := 9) (N := some 75) (v := ?_) (a' := ?_) bzp10 rfl rfl (any_of HT_.out (by kernel_rfl)) (fun _ _ _ h => h) (Or.inl ⟨by rfl, ?_⟩) ?_ ?_
               rotate_left
               ·intro w'
                go_simp
                with_reducible rfl
               rotate_left
               ·simp only [Act.put, List.setIfInBounds_toArray, List.set_cons_zero, List.set_cons_succ, i64_w, i32_w]
                rfl
               refine pure_ (i := 10) (N := some 76) (v := ?_) (a' := ?_) bzp11 rfl rfl (any_of HT_.out (by kernel_rfl)) (fun _ _ _ h => h) (Or.inl ⟨by rfl, ?_⟩) ?_ ?_
               rotate_left
               ·intro w'
                go_simp
                with_reducible rfl
               rotate_left
               ·simp only [Act.put, List.setIfInBounds_toArray, List.set_cons_zero, List.set_cons_succ, i64_w, i32_w]
                rfl
               refine pure_ (i := 12) (N := some 78) (v := ?_) (a' := ?_) bzp16 rfl rfl (any_of HT_.out (by kernel_rfl)) (fun _ _ _ h => h) (Or.inl ⟨by rfl, ?_⟩) ?_ ?_
               rotate_left
               ·intro w'
                go_simp
                with_reducible rfl
               rotate_left
               ·simp only [Act.put, List.setIfInBounds_toArray, List.set_cons_zero, List.set_cons_succ, i64_w, i32_w]
                rfl
               refine take_ (i := 11) (N := some 77) (v := ?_) (a' := ?_) bzp12 rfl rfl (take_ofW HT_.out HW_.out (by kernel_rfl)) (fun _ _ _ h => h) (Or.inl ⟨by rfl, ?_⟩) hHeld ?_ ?_
               rotate_left
               ·rintro w' ⟨s0, s1, s2, s3, s4, s5, s6, s7, s8, s9, s10⟩
                go_simp
                with_reducible rfl
               rotate_left
               ·simp only [Act.put, List.setIfInBounds_toArray, List.set_cons_zero, List.set_cons_succ, i64_w, i32_w]
                rfl
               refine take_ (i := 13) (N := some 79) (v := ?_) (a' := ?_) bzp13 rfl rfl (take_ofW HT_.out HW_.out (by kernel_rfl)) (fun _ _ _ h => h) (Or.inl ⟨by rfl, ?_⟩) hHeld ?_ ?_
               rotate_left
               ·rintro w' ⟨s0, s1, s2, s3, s4, s5, s6, s7, s8, s9, s10⟩
                go_simp
                with_reducible rfl
               rotate_left
               ·simp only [Act.put, List.setIfInBounds_toArray, List.set_cons_zero, List.set_cons_succ, i64_w, i32_w]
                rfl
               refine pure_ (i := 14) (N := some 80) (v := ?_) (a' := ?_) bzp14 rfl rfl (any_of HT_.out (by kernel_rfl)) (fun _ _ _ h => h) (Or.inl ⟨by rfl, ?_⟩) ?_ ?_
               rotate_left
               ·intro w'
                go_simp
                with_reducible rfl
               rotate_left
               ·simp only [Act.put, List.setIfInBounds_toArray, List.set_cons_zero, List.set_cons_succ, i64_w, i32_w]
                rfl
               refine pure_ (i := 15) (N := some 81) (v := ?_) (a' := ?_) bzp15 rfl rfl (any_of HT_.out (by kernel_rfl)) (fun _ _ _ h => h) (Or.inl ⟨by rfl, ?_⟩) ?_ ?_
               rotate_left
               ·intro w'
                go_simp
                with_reducible rfl
               rotate_left
               ·simp only [Act.put, List.setIfInBounds_toArray, List.set_cons_zero, List.set_cons_succ, i64_w, i32_w]
                rfl
               refine done_ (done_of HT_.out (by kernel_rfl)) ?_
               have p708 : 0 ≤ (x19_2 : Int) := of_decide_eq_true (by first | (with_reducible assumption) | assumption)
               have q708 : x19_2 < (x17_1.length : Int) := of_decide_eq_true (by first | (with_reducible assumption) | assumption)
               obtain ⟨ad708, A708_1, c708_1, e708, hx708_0, hx708_1, hl708_1, hi708_1⟩ := at_T48 (Kd.S_reads' HO_17.out).2.2 x19_2 p708 q708
               obtain rfl : ad706 = ad708 := (by injection e708)
               obtain ⟨ce708, hce708, hMe708, hcc708⟩ := Kd.S_get HO_17.out z48 x19_2 p708 (by first | exact q708 | exact of_decide_eq_true (by first | (with_reducible assumption) | assumption) | (have e_ := (Kd.S_reads' HO_17.out).1; omega))
               obtain ⟨ve708_1, rfl, ge708_1⟩ := k48_openM hMe708
               have hv708_1 := hcc708 1 _ rfl
               rw [add_field _ _ 1 (by omega)] at hv708_1
               replace hv708_1 := Option.some.inj (hv708_1.symm.trans hx708_1)
               rw [hv708_1] at ge708_1
               have HL708_1 := Aside0.mk (show Kd.R (Kd.int .i64) 3 _ _ _ _ ((rd_T48 x17_1 x19_2).f1) from ge708_1)
               clear hv708_1 ge708_1
               clear hcc708 hce708
               have HR708_1 := Aside0.mk hi708_1
               have HC708_1 := Aside0.mk hl708_1
               clear hi708_1 hl708_1
               replace p708 := eq_true p708
               replace q708 := eq_true q708
               have ea_ := Option.some.inj (hx706_1.symm.trans hx708_1)
               injection ea_ with ea_ en_ ec_
               subst ea_
               subst ec_
               clear en_
               have p57 : 0 ≤ (((rd_T48 x17_1 x19_2).f0) : Int) := of_decide_eq_true (by first | (with_reducible assumption) | assumption)
               have q57 : (((rd_T48 x17_1 x19_2).f0) : Int) < ((x16_2.length : Int) : Int) := of_decide_eq_true (by first | (with_reducible assumption) | assumption)
               obtain ⟨go57, co57, eo57, gb57, gl57, cl57, HG57⟩ := Kd.R_form HO_16.out (by omega)
               (first | cases eo57 | (injection eo57 with ea_ en_ ec_; (first | subst ea_ | (injection ea_ with ea_; subst ea_)); subst ec_; clear en_))
               have GB57 := Aside0.mk gb57
               have GG57 := Aside0.mk HG57
               clear gb57 gl57 HG57
               obtain ⟨hx57_0, hf57_0⟩ := Kd.R_celln false HO_16.out (((rd_T48 x17_1 x19_2).f0) : Int) p57 q57
               replace p57 := eq_true p57
               replace q57 := eq_true q57
               obtain ⟨hy60_, hz60_⟩ := Kd.R_celln false HO_16.out (((rd_T48 x17_1 x19_2).f0) : Int) (of_decide_eq_true (by first | (with_reducible assumption) | assumption)) (of_decide_eq_true (by first | (with_reducible assumption) | assumption))
               have HP60 := Kd.R_putg HO_16.out (((rd_T48 x17_1 x19_2).f0) : Int) true
               try go_wp2_with (first | ((with_reducible refine gate_store (t := 4) (p := 88) rfl ?_); refine store_event (t := 4) (p := 88) (v := ?vo_w61) (w1 := (w59.setCell ⟨go57, (((rd_T48 x17_1 x19_2).f0) : Int).toNat, none⟩ (.bool true))) ?hg ?ho ?hn ?hr ?_; (case ho => rfl); (case hg => rfl); (case hn => rfl); (case hr => first | (go_simp; done) | (go_simp; rfl)); intro w61 hw; have hg : w59.grownBy w61 (some go57) := (by rw [hw]; exact HP60.2); have hp_ : Kd.R Kd.bool 4 w61 w.heap.size (fun _ => True) (.slice (some ⟨go57, 0, none⟩) x16_2.length co57) y709 := (by rw [hw, Ny709.out]; exact HP60.1); clear HP60; have n0_ := Aside0.mk (Kd.R_over' (v := (.slice (some ⟨go57, 0, none⟩) x16_2.length co57)) (by (with_reducible repeat (first | apply Kd.R_alloc | apply Kd.R_drewN | apply Kd.R_drew)); exact HO_11.out) (Kd.R_typed HO_16.out) (by decide) hg); have n1_ := Aside0.mk (Kd.R_over' (v := (.slice (some ⟨go57, 0, none⟩) x16_2.length co57)) (by (with_reducible repeat (first | apply Kd.R_alloc | apply Kd.R_drewN | apply Kd.R_drew)); exact HO_13.out) (Kd.R_typed HO_16.out) (by decide) hg); have n2_ := Aside0.mk (hp_); have n3_ := Aside0.mk (Kd.S_over' (v := (.slice (some ⟨go57, 0, none⟩) x16_2.length co57)) (by (with_reducible repeat (first | apply Kd.S_alloc | apply Kd.S_drewN | apply Kd.S_drew)); exact HO_17.out) (Kd.R_typed HO_16.out) (by decide) hg); have n4_ := Aside0.mk (Kd.R_over' (v := (.slice (some ⟨go57, 0, none⟩) x16_2.length co57)) (by (with_reducible repeat (first | apply Kd.R_alloc | apply Kd.R_drewN | apply Kd.R_drew)); exact HO_688002.out) (Kd.R_typed HO_16.out) (by decide) hg); have n5_ := Aside0.mk (Kd.R_over' (v := (.slice (some ⟨go57, 0, none⟩) x16_2.length co57)) (by (with_reducible repeat (first | apply Kd.R_alloc | apply Kd.R_drewN | apply Kd.R_drew)); exact HO_688003.out) (Kd.R_typed HO_16.out) (by decide) hg); have n6_ := Aside0.mk (Kd.R_over' (v := (.slice (some ⟨go57, 0, none⟩) x16_2.length co57)) (by (with_reducible repeat (first | apply Kd.R_alloc | apply Kd.R_drewN | apply Kd.R_drew)); exact HO_688004.out) (Kd.R_typed HO_16.out) (by decide) hg); have n7_ := Aside0.mk (Kd.R_over' (v := (.slice (some ⟨go57, 0, none⟩) x16_2.length co57)) (by (with_reducible repeat (first | apply Kd.R_alloc | apply Kd.R_drewN | apply Kd.R_drew)); exact HO_688005.out) (Kd.R_typed HO_16.out) (by decide) hg); have n8_ := Aside0.mk (Kd.R_over' (v := (.slice (some ⟨go57, 0, none⟩) x16_2.length co57)) (by (with_reducible repeat (first | apply Kd.R_alloc | apply Kd.R_drewN | apply Kd.R_drew)); exact HO_688006.out) (Kd.R_typed HO_16.out) (by decide) hg); have n9_ := Aside0.mk (Kd.R_over' (v := (.slice (some ⟨go57, 0, none⟩) x16_2.length co57)) (by (with_reducible repeat (first | apply Kd.R_alloc | apply Kd.R_drewN | apply Kd.R_drew)); exact HO_696002.out) (Kd.R_typed HO_16.out) (by decide) hg); have n10_ := Aside0.mk (Kd.R_over' (v := (.slice (some ⟨go57, 0, none⟩) x16_2.length co57)) (by (with_reducible repeat (first | apply Kd.R_alloc | apply Kd.R_drewN | apply Kd.R_drew)); exact HO_696004.out) (Kd.R_typed HO_16.out) (by decide) hg); have n11_ := Aside0.mk (Kd.R_over' (v := (.slice (some ⟨go57, 0, none⟩) x16_2.length co57)) (by (with_reducible repeat (first | apply Kd.R_alloc | apply Kd.R_drewN | apply Kd.R_drew)); exact HO_696005.out) (Kd.R_typed HO_16.out) (by decide) hg); have n12_ := Aside0.mk (Kd.R_over' (v := (.slice (some ⟨go57, 0, none⟩) x16_2.length co57)) (by (with_reducible repeat (first | apply Kd.R_alloc | apply Kd.R_drewN | apply Kd.R_drew)); exact HO_696006.out) (Kd.R_typed HO_16.out) (by decide) hg); have n13_ := Aside0.mk (blk_grown (g := gb687) (o := .cells #[.int .i64 t670, .int .i64 t671, .slice Ao22 t672.length co22, .slice Ao23 t675.length co23, .slice Ao24 t678.length co24, .slice Ao25 t681.length co25, .slice Ao26 t684.length co26] 30 (0, 0)) (by (with_reducible repeat (first | refine blk_drewN ?_ _ | refine blk_drew ?_ | refine blk_alloc ?_ _)); exact BK687.out) hg (Kd.R_ne HO_16.out BK687.out (by decide))); have n14_ := Aside0.mk (blk_grown (g := gb695) (o := .cells #[.int .i64 t670, .int .i64 t671, .slice Ao22 t672.length co22, .slice none 0 0, .slice Ao24 t678.length co24, .slice Ao25 t681.length co25, .slice Ao26 t684.length co26] 30 (0, 0)) (by (with_reducible repeat (first | refine blk_drewN ?_ _ | refine blk_drew ?_ | refine blk_alloc ?_ _)); exact BK695.out) hg (Kd.R_ne HO_16.out BK695.out (by decide))); have n15_ := Aside0.mk (Kd.R_over' (v := (.slice (some ⟨go57, 0, none⟩) x16_2.length co57)) (by (with_reducible repeat (first | apply Kd.R_alloc | apply Kd.R_drewN | apply Kd.R_drew)); exact HL706_1.out) (Kd.R_typed HO_16.out) (by decide) hg); have n16_ := Aside0.mk (Kd.R_over' (v := (.slice (some ⟨go57, 0, none⟩) x16_2.length co57)) (by (with_reducible repeat (first | apply Kd.R_alloc | apply Kd.R_drewN | apply Kd.R_drew)); exact HL707_1.out) (Kd.R_typed HO_16.out) (by decide) hg); have n17_ := Aside0.mk (Kd.R_over' (v := (.slice (some ⟨go57, 0, none⟩) x16_2.length co57)) (by (with_reducible repeat (first | apply Kd.R_alloc | apply Kd.R_drewN | apply Kd.R_drew)); exact HL708_1.out) (Kd.R_typed HO_16.out) (by decide) hg); have n18_ := Aside0.mk ((by rw [hw]; exact below_set (HB.out) GB57.out : Below w.heap.size w w61)); clear HO_11; clear HO_13; clear HO_16; clear HO_17; clear HO_688002; clear HO_688003; clear HO_688004; clear HO_688005; clear HO_688006; clear HO_696002; clear HO_696004; clear HO_696005; clear HO_696006; clear BK687; clear BK695; clear HL706_1; clear HL707_1; clear HL708_1; clear HB; have HO_11 := n0_; have HO_13 := n1_; have HO_16 := n2_; have HO_17 := n3_; have HO_688002 := n4_; have HO_688003 := n5_; have HO_688004 := n6_; have HO_688005 := n7_; have HO_688006 := n8_; have HO_696002 := n9_; have HO_696004 := n10_; have HO_696005 := n11_; have HO_696006 := n12_; have BK687 := n13_; have BK695 := n14_; have HL706_1 := n15_; have HL707_1 := n16_; have HL708_1 := n17_; have HB := n18_; clear n0_ n1_ n2_ n3_ n4_ n5_ n6_ n7_ n8_ n9_ n10_ n11_ n12_ n13_ n14_ n15_ n16_ n17_ n18_; clear hg hw hp_))
               go_roundg k2
               case measure => have := HK1.out; have := HK2.out; omega
               case rel => exact ⟨(y709), (wrap64 (x19_2 + 1)), (by first | rfl | (simp; done) | (simp [*]; done)), H', ⟨by have := HK1.out; have := HK2.out; omega⟩, ⟨by (with_reducible repeat (first | apply Kd.R_alloc | apply Kd.R_drewN | apply Kd.R_drew)); exact HO_11.out⟩, ⟨by (with_reducible repeat (first | apply Kd.R_alloc | apply Kd.R_drewN | apply Kd.R_drew)); exact HO_13.out⟩, ⟨by (with_reducible repeat (first | apply Kd.R_alloc | apply Kd.R_drewN | apply Kd.R_drew)); exact HO_16.out⟩, ⟨by (with_reducible repeat (first | apply Kd.S_alloc | apply Kd.S_drewN | apply Kd.S_drew)); exact HO_17.out⟩, ⟨by (with_reducible repeat (first | apply Kd.R_alloc | apply Kd.R_drewN | apply Kd.R_drew)); exact HO_688002.out⟩, ⟨by (with_reducible repeat (first | apply Kd.R_alloc | apply Kd.R_drewN | apply Kd.R_drew)); exact HO_688003.out⟩, ⟨by (with_reducible repeat (first | apply Kd.R_alloc | apply Kd.R_drewN | apply Kd.R_drew)); exact HO_688004.out⟩, ⟨by (with_reducible repeat (first | apply Kd.R_alloc | apply Kd.R_drewN | apply Kd.R_drew)); exact HO_688005.out⟩, ⟨by (with_reducible repeat (first | apply Kd.R_alloc | apply Kd.R_drewN | apply Kd.R_drew)); exact HO_688006.out⟩, ⟨by (with_reducible repeat (first | apply Kd.R_alloc | apply Kd.R_drewN | apply Kd.R_drew)); exact HO_696002.out⟩, ⟨by (with_reducible repeat (first | apply Kd.R_alloc | apply Kd.R_drewN | apply Kd.R_drew)); exact HO_696004.out⟩, ⟨by (with_reducible repeat (first | apply Kd.R_alloc | apply Kd.R_drewN | apply Kd.R_drew)); exact HO_696005.out⟩, ⟨by (with_reducible repeat (first | apply Kd.R_alloc | apply Kd.R_drewN | apply Kd.R_drew)); exact HO_696006.out⟩, ⟨by (with_reducible repeat (first | refine blk_drewN ?_ _ | refine blk_drew ?_ | refine blk_alloc ?_ _)); exact BK687.out⟩, ⟨by (with_reducible repeat (first | refine blk_drewN ?_ _ | refine blk_drew ?_ | refine blk_alloc ?_ _)); exact BK695.out⟩, ⟨by repeat (first | (with_reducible first | exact HB.out | apply below_alloc | apply pw_below_drewN | apply below_drew1 | refine below_set ?_ GE687.out | refine below_set ?_ GE695.out) | exact HB.out)⟩⟩
              ·rw [if_neg c56] at H
               exact absurd H (by simp)
             ·rw [if_neg c55] at H
              exact absurd H (by simp)
          ·rw [if_neg c48] at H
           exact absurd H (by simp)
         ·rw [if_neg c47] at H
          have c47b0 : decide (x19_2 < (x17_1.length : Int)) = false := decide_eq_false c47
          clear c47
          have H' := Aside0.mk H
          clear H
          obtain ⟨Ao62, co62, eo62⟩ := Kd.S_slice HO_17.out
          subst eo62
          go_wp2
          go_loopg [20] k2 (fun kq v20 w' => ∃ (x20_3 : Int) (x696003_3 : List Int) (u696003 : Value), v20 = .int .i64 x20_3 ∧ Aside0 (canopylaw4_RunsParts.l2 kq t667 t691 t694 x16_2 x20_3 t670 t671 t672 t675 t678 t681 t684 t670 t671 t672 x696003_3 t678 t681 t684 = some r) ∧ Aside0 (kq ≤ k2) ∧ Aside0 (Kd.R k46 46 w' w.heap.size (fun _ => True) (.slice Ao18 t667.length co18) t667) ∧ Aside0 (Kd.R (Kd.int .i64) 3 w' w.heap.size (fun k_ => some k_ ≠ ((.slice Ao22 t672.length co22) : Value).ownBlock ∧ some k_ ≠ ((.slice Ao23 t675.length co23) : Value).ownBlock ∧ some k_ ≠ ((.slice Ao22 t672.length co22) : Value).ownBlock ∧ some k_ ≠ (u696003 : Value).ownBlock) (.slice Ao30 t691.length co30) t691) ∧ Aside0 (Kd.R Kd.bool 4 w' w.heap.size (fun _ => True) v697 x16_2) ∧ Aside0 (Kd.R (Kd.int .i64) 3 w' w.heap.size (fun k_ => some k_ ≠ ((.slice Ao30 t691.length co30) : Value).ownBlock ∧ some k_ ≠ ((.slice Ao23 t675.length co23) : Value).ownBlock ∧ some k_ ≠ (u696003 : Value).ownBlock) (.slice Ao22 t672.length co22) t672) ∧ Aside0 (Kd.R (Kd.int .i64) 3 w' w.heap.size (fun k_ => some k_ ≠ ((.slice Ao30 t691.length co30) : Value).ownBlock ∧ some k_ ≠ ((.slice Ao22 t672.length co22) : Value).ownBlock ∧ some k_ ≠ ((.slice Ao22 t672.length co22) : Value).ownBlock ∧ some k_ ≠ (u696003 : Value).ownBlock) (.slice Ao23 t675.length co23) t675) ∧ Aside0 (Kd.R k52 52 w' w.heap.size (fun _ => True) (.slice Ao24 t678.length co24) t678) ∧ Aside0 (Kd.R k54 54 w' w.heap.size (fun _ => True) (.slice Ao25 t681.length co25) t681) ∧ Aside0 (Kd.R k56 56 w' w.heap.size (fun _ => True) (.slice Ao26 t684.length co26) t684) ∧ Aside0 (Kd.R (Kd.int .i64) 3 w' w.heap.size (fun k_ => some k_ ≠ ((.slice Ao30 t691.length co30) : Value).ownBlock ∧ some k_ ≠ ((.slice Ao23 t675.length co23) : Value).ownBlock ∧ some k_ ≠ (u696003 : Value).ownBlock) (.slice Ao22 t672.length co22) t672) ∧ Aside0 (Kd.R (Kd.int .i64) 3 w' w.heap.size (fun k_ => some k_ ≠ ((.slice Ao30 t691.length co30) : Value).ownBlock ∧ some k_ ≠ ((.slice Ao22 t672.length co22) : Value).ownBlock ∧ some k_ ≠ ((.slice Ao23 t675.length co23) : Value).ownBlock ∧ some k_ ≠ ((.slice Ao22 t672.length co22) : Value).ownBlock) u696003 x696003_3) ∧ Aside0 (Kd.R k52 52 w' w.heap.size (fun _ => True) (.slice Ao24 t678.length co24) t678) ∧ Aside0 (Kd.R k54 54 w' w.heap.size (fun _ => True) (.slice Ao25 t681.length co25) t681) ∧ Aside0 (Kd.R k56 56 w' w.heap.size (fun _ => True) (.slice Ao26 t684.length co26) t684) ∧ Aside0 (w'.heap[gb687]? = some (.cells #[.int .i64 t670, .int .i64 t671, (.slice Ao22 t672.length co22), (.slice Ao23 t675.length co23), (.slice Ao24 t678.length co24), (.slice Ao25 t681.length co25), (.slice Ao26 t684.length co26)] 30 (0, 0))) ∧ Aside0 (w'.heap[gb695]? = some (.cells #[.int .i64 t670, .int .i64 t671, (.slice Ao22 t672.length co22), u696003, (.slice Ao24 t678.length co24), (.slice Ao25 t681.length co25), (.slice Ao26 t684.length co26)] 30 (0, 0))) ∧ Aside0 (Below w.heap.size w w'))
          case atStart => exact ⟨(0), (([] : List Int)), (.slice none 0 0), (by first | rfl | (simp; done) | (simp [*]; done)), H', ⟨Nat.le_refl _⟩, ⟨by (with_reducible repeat (first | apply Kd.R_alloc | apply Kd.R_drewN | apply Kd.R_drew)); exact HO_11.out⟩, ⟨by (with_reducible repeat (first | apply Kd.R_alloc | apply Kd.R_drewN | apply Kd.R_drew)); exact Kd.R_mono HO_13.out (fun _ hk => ⟨hk.1, ⟨hk.2.1, ⟨hk.2.2, (by simp [Value.ownBlock])⟩⟩⟩)⟩, ⟨by (with_reducible repeat (first | apply Kd.R_alloc | apply Kd.R_drewN | apply Kd.R_drew)); exact HO_16.out⟩, ⟨by (with_reducible repeat (first | apply Kd.R_alloc | apply Kd.R_drewN | apply Kd.R_drew)); exact Kd.R_mono HO_688002.out (fun _ hk => ⟨hk.1, ⟨hk.2, (by simp [Value.ownBlock])⟩⟩)⟩, ⟨by (with_reducible repeat (first | apply Kd.R_alloc | apply Kd.R_drewN | apply Kd.R_drew)); exact Kd.R_mono HO_688003.out (fun _ hk => ⟨hk.1, ⟨hk.2.1, ⟨hk.2.2, (by simp [Value.ownBlock])⟩⟩⟩)⟩, ⟨by (with_reducible repeat (first | apply Kd.R_alloc | apply Kd.R_drewN | apply Kd.R_drew)); exact HO_688004.out⟩, ⟨by (with_reducible repeat (first | apply Kd.R_alloc | apply Kd.R_drewN | apply Kd.R_drew)); exact HO_688005.out⟩, ⟨by (with_reducible repeat (first | apply Kd.R_alloc | apply Kd.R_drewN | apply Kd.R_drew)); exact HO_688006.out⟩, ⟨by (with_reducible repeat (first | apply Kd.R_alloc | apply Kd.R_drewN | apply Kd.R_drew)); exact Kd.R_mono HO_696002.out (fun _ hk => ⟨hk.1, ⟨hk.2, (by simp [Value.ownBlock])⟩⟩)⟩, ⟨by first | exact Kd.R_nil _ _ _ _ _ | exact Kd.N_nil _ _ _ _ _ | exact Kd.V_nil _ _ _ _ _ | exact Kd.Q_nil _ _ _ _ _ | exact Kd.S_nil _ _ _ _ _⟩, ⟨by (with_reducible repeat (first | apply Kd.R_alloc | apply Kd.R_drewN | apply Kd.R_drew)); exact HO_696004.out⟩, ⟨by (with_reducible repeat (first | apply Kd.R_alloc | apply Kd.R_drewN | apply Kd.R_drew)); exact HO_696005.out⟩, ⟨by (with_reducible repeat (first | apply Kd.R_alloc | apply Kd.R_drewN | apply Kd.R_drew)); exact HO_696006.out⟩, ⟨by (with_reducible repeat (first | refine blk_drewN ?_ _ | refine blk_drew ?_ | refine blk_alloc ?_ _)); exact BK687.out⟩, ⟨by (with_reducible repeat (first | refine blk_drewN ?_ _ | refine blk_drew ?_ | refine blk_alloc ?_ _)); exact BK695.out⟩, ⟨by repeat (first | (with_reducible first | exact HB.out | apply below_alloc | apply pw_below_drewN | apply below_drew1 | refine below_set ?_ GE687.out | refine below_set ?_ GE695.out) | exact HB.out)⟩⟩
          case round =>
           clear H'
           try clear p2
           try clear c4
           try clear c5
           try clear p5
           try clear q5
           try clear hx5
           try clear hf5
           try clear p6
           try clear c7
           try clear p7
           try clear q7
           try clear hx7
           try clear c47
           try clear c47b0
           try clear c48
           try clear c49
           try clear c49b0
           try clear c52
           try clear c52b0
           try clear c55
           try clear c55b0
           try clear c56
           try clear c56b0
           try clear p57
           try clear q57
           try clear hx57
           try clear hf57
           try clear hx57_0
           try clear hx706_0
           try clear hx706_1
           try clear hx707_0
           try clear hx707_1
           try clear hx708_0
           try clear hx708_1
           try clear p57
           try clear p706
           try clear p707
           try clear p708
           try clear q57
           try clear q706
           try clear q707
           try clear q708
           obtain ⟨x20_3, x696003_3, u696003, rfl, HA, HK3, HO_11, HO_13, HO_16, HO_688002, HO_688003, HO_688004, HO_688005, HO_688006, HO_696002, HO_696003, HO_696004, HO_696005, HO_696006, BK687, BK695, HB⟩ := hrel
           cases gk with
           | zero => exact absurd HA.out (by simp [canopylaw4_RunsParts.l2])
           | succ k3 =>
            have H := HA.out
            clear HA
            simp only [canopylaw4_RunsParts.l2] at H
            by_cases c63 : x20_3 < t670
            ·rw [if_pos c63] at H
             have c63b0 : decide (x20_3 < t670) = true := decide_eq_true c63
             clear c63
             obtain ⟨y710, hy710⟩ : ∃ y_ : List Int, y_ = (([x20_3] : List Int)) := ⟨_, rfl⟩
             replace H : (if 0 ≤ t694 then (if t694 ≤ (t691.length : Int) then ((runs_Takes.f t667 t670 t671 t672 y710 t678 t681 t684 (t691.take (t694 : Int).toNat)).bind fun t717 => (if 0 ≤ x20_3 then (if x20_3 < (x16_2.length : Int) then (if (t717 != (rdOf false x16_2 x20_3)) = true then (some false) else (canopylaw4_RunsParts.l2 k3 t667 t691 t694 x16_2 (wrap64 (x20_3 + 1)) t670 t671 t672 t675 t678 t681 t684 t670 t671 t672 y710 t678 t681 t684)) else (none)) else (none))) else (none)) else (none)) = some r := by first | (rw [hy710]; with_reducible exact H) | (have H2_ := (Option.bind_some _ _).symm.trans H; rw [hy710]; with_reducible exact H2_) | (have H2_ := (Option.bind_some _ _).symm.trans H; with_reducible exact H2_) | with_reducible exact H | (rw [hy710]; exact H) | exact H
             have Ny710 := Aside0.mk hy710
             clear hy710
             by_cases c64 : 0 ≤ t694
             ·rw [if_pos c64] at H
              have c64b0 := eq_true c64
              have c64b1 : decide (0 ≤ t694) = true := decide_eq_true c64
              clear c64
              by_cases c65 : t694 ≤ (t691.length : Int)
              ·rw [if_pos c65] at H
               have c65b0 := eq_true c65
               have c65b1 : decide (t694 ≤ (t691.length : Int)) = true := decide_eq_true c65
               clear c65
               obtain ⟨y713, hy713⟩ : ∃ y_ : List Int, y_ = (t691.take (t694 : Int).toNat) := ⟨_, rfl⟩
               replace H : ((runs_Takes.f t667 t670 t671 t672 y710 t678 t681 t684 y713).bind fun t717 => (if 0 ≤ x20_3 then (if x20_3 < (x16_2.length : Int) then (if (t717 != (rdOf false x16_2 x20_3)) = true then (some false) else (canopylaw4_RunsParts.l2 k3 t667 t691 t694 x16_2 (wrap64 (x20_3 + 1)) t670 t671 t672 t675 t678 t681 t684 t670 t671 t672 y710 t678 t681 t684)) else (none)) else (none))) = some r := by first | (rw [hy713]; with_reducible exact H) | (have H2_ := (Option.bind_some _ _).symm.trans H; rw [hy713]; with_reducible exact H2_) | (have H2_ := (Option.bind_some _ _).symm.trans H; with_reducible exact H2_) | with_reducible exact H | (rw [hy713]; exact H) | exact H
               have Ny713 := Aside0.mk hy713
               clear hy713
               replace H := Option.bind_eq_some_iff.mp H
               obtain ⟨t717, A660, H⟩ := H
               replace H : (if 0 ≤ x20_3 then (if x20_3 < (x16_2.length : Int) then (if (t717 != (rdOf false x16_2 x20_3)) = true then (some false) else (canopylaw4_RunsParts.l2 k3 t667 t691 t694 x16_2 (wrap64 (x20_3 + 1)) t670 t671 t672 t675 t678 t681 t684 t670 t671 t672 y710 t678 t681 t684)) else (none)) else (none)) = some r := H
               have A66 := Aside0.mk A660
               clear A660
               by_cases c67 : 0 ≤ x20_3
               ·rw [if_pos c67] at H
                have c67b0 : decide (0 ≤ x20_3) = true := decide_eq_true c67
                clear c67
                by_cases c68 : x20_3 < (x16_2.length : Int)
                ·rw [if_pos c68] at H
                 have c68b0 : decide (x20_3 < (x16_2.length : Int)) = true := decide_eq_true c68
                 clear c68
                 by_cases c69 : (t717 != (rdOf false x16_2 x20_3)) = true
                 ·rw [if_pos c69] at H
                  have c69b0 : (t717 != (rdOf false x16_2 x20_3)) = true := c69
                  (try (have c69b1 : decide (t717 = (rdOf false x16_2 x20_3)) = false := by simpa using c69))
                  (try (have c69b2 : (t717 == (rdOf false x16_2 x20_3)) = false := by simpa using c69))
                  (try (have c69b3 : ¬ (t717 = (rdOf false x16_2 x20_3)) := by simpa using c69))
                  clear c69
                  obtain rfl := Option.some.inj H
                  have hnb70 := NB687_695.out
                  have hnc70 := NB695_687.out
                  have hcz71_0 : wr.cell? ⟨gb687, 0, none⟩ = some (.int .i64 t670) := (blk_cell BK687.out 0).trans rfl
                  have hcz71_1 : wr.cell? ⟨gb687, 1, none⟩ = some (.int .i64 t671) := (blk_cell BK687.out 1).trans rfl
                  have hcz71_2 : wr.cell? ⟨gb687, 2, none⟩ = some (.slice Ao22 t672.length co22) := (blk_cell BK687.out 2).trans rfl
                  have hcz71_3 : wr.cell? ⟨gb687, 3, none⟩ = some (.slice Ao23 t675.length co23) := (blk_cell BK687.out 3).trans rfl
                  have hcz71_4 : wr.cell? ⟨gb687, 4, none⟩ = some (.slice Ao24 t678.length co24) := (blk_cell BK687.out 4).trans rfl
                  have hcz71_5 : wr.cell? ⟨gb687, 5, none⟩ = some (.slice Ao25 t681.length co25) := (blk_cell BK687.out 5).trans rfl
                  have hcz71_6 : wr.cell? ⟨gb687, 6, none⟩ = some (.slice Ao26 t684.length co26) := (blk_cell BK687.out 6).trans rfl
                  have hfz71_0 := blk_frozen BK687.out 0
                  have hfz71_1 := blk_frozen BK687.out 1
                  have hfz71_2 := blk_frozen BK687.out 2
                  have hfz71_3 := blk_frozen BK687.out 3
                  have hfz71_4 := blk_frozen BK687.out 4
                  have hfz71_5 := blk_frozen BK687.out 5
                  have hfz71_6 := blk_frozen BK687.out 6
                  try go_wp2_with (first | ((with_reducible refine gate_dst (N := 96) rfl ?_); refine Kd.R_lit (Kd.int .i64) _ 3 ?hg (N := 96) ?hd (xs := ([x20_3] : List Int)) (inner := [.int .i64 x20_3]) (ok := fun _ => True) (okp := fun _ => True) ?hr ?hp (fun _ hk => hk) trivial (Below.refl _ _) (Nat.le_refl _) (by simp) ?_; (case hd => rfl); (case hg => rfl); (case hr => first | (go_simp; done) | (go_simp; rfl)); (case hp => exact (Reps.one (show Kd.M (Kd.int .i64) _ _ _ x20_3 [.int .i64 x20_3] from rfl) (Reps.none _ _))); intro v711 w72 ho73 hb hg_ hnew_; clear hg_ hnew_; (first | rw [← Ny710.out] at ho73 | (simp only [Int.reduceToNat] at ho73; rw [← Ny710.out] at ho73)); have n0_ := Aside0.mk (Kd.R_below (by (with_reducible repeat (first | apply Kd.R_alloc | apply Kd.R_drewN | apply Kd.R_drew)); exact HO_11.out) hb); have n1_ := Aside0.mk (Kd.R_elder' (by (with_reducible repeat (first | apply Kd.R_alloc | apply Kd.R_drewN | apply Kd.R_drew)); exact HO_13.out) (Kd.R_base ho73) hb); have n2_ := Aside0.mk (Kd.R_below (by (with_reducible repeat (first | apply Kd.R_alloc | apply Kd.R_drewN | apply Kd.R_drew)); exact HO_16.out) hb); have n3_ := Aside0.mk (Kd.R_elder' (by (with_reducible repeat (first | apply Kd.R_alloc | apply Kd.R_drewN | apply Kd.R_drew)); exact HO_688002.out) (Kd.R_base ho73) hb); have n4_ := Aside0.mk (Kd.R_elder' (by (with_reducible repeat (first | apply Kd.R_alloc | apply Kd.R_drewN | apply Kd.R_drew)); exact HO_688003.out) (Kd.R_base ho73) hb); have n5_ := Aside0.mk (Kd.R_below (by (with_reducible repeat (first | apply Kd.R_alloc | apply Kd.R_drewN | apply Kd.R_drew)); exact HO_688004.out) hb); have n6_ := Aside0.mk (Kd.R_below (by (with_reducible repeat (first | apply Kd.R_alloc | apply Kd.R_drewN | apply Kd.R_drew)); exact HO_688005.out) hb); have n7_ := Aside0.mk (Kd.R_below (by (with_reducible repeat (first | apply Kd.R_alloc | apply Kd.R_drewN | apply Kd.R_drew)); exact HO_688006.out) hb); have n8_ := Aside0.mk (Kd.R_elder' (by (with_reducible repeat (first | apply Kd.R_alloc | apply Kd.R_drewN | apply Kd.R_drew)); exact HO_696002.out) (Kd.R_base ho73) hb); have n9_ := Aside0.mk (Kd.R_elder' (by (with_reducible repeat (first | apply Kd.R_alloc | apply Kd.R_drewN | apply Kd.R_drew)); exact HO_696003.out) (Kd.R_base ho73) hb); have n10_ := Aside0.mk (Kd.R_below (by (with_reducible repeat (first | apply Kd.R_alloc | apply Kd.R_drewN | apply Kd.R_drew)); exact HO_696004.out) hb); have n11_ := Aside0.mk (Kd.R_below (by (with_reducible repeat (first | apply Kd.R_alloc | apply Kd.R_drewN | apply Kd.R_drew)); exact HO_696005.out) hb); have n12_ := Aside0.mk (Kd.R_below (by (with_reducible repeat (first | apply Kd.R_alloc | apply Kd.R_drewN | apply Kd.R_drew)); exact HO_696006.out) hb); have n13_ := Aside0.mk (Kd.R_lower (Kd.R_new' (Kd.R_new' (Kd.R_new' (Kd.R_new' (Kd.R_new' ho73 (Kd.R_lt (by (with_reducible repeat (first | apply Kd.R_alloc | apply Kd.R_drewN | apply Kd.R_drew)); exact HO_13.out))) (Kd.R_lt (by (with_reducible repeat (first | apply Kd.R_alloc | apply Kd.R_drewN | apply Kd.R_drew)); exact HO_688002.out))) (Kd.R_lt (by (with_reducible repeat (first | apply Kd.R_alloc | apply Kd.R_drewN | apply Kd.R_drew)); exact HO_688003.out))) (Kd.R_lt (by (with_reducible repeat (first | apply Kd.R_alloc | apply Kd.R_drewN | apply Kd.R_drew)); exact HO_696002.out))) (Kd.R_lt (by (with_reducible repeat (first | apply Kd.R_alloc | apply Kd.R_drewN | apply Kd.R_drew)); exact HO_696003.out))) (below_size (by repeat (first | (with_reducible first | exact HB.out | apply below_alloc | apply pw_below_drewN | apply below_drew1 | refine below_set ?_ GE687.out | refine below_set ?_ GE695.out) | exact HB.out)))); have n14_ := Aside0.mk (blk_below (g := gb687) (o := .cells #[.int .i64 t670, .int .i64 t671, .slice Ao22 t672.length co22, .slice Ao23 t675.length co23, .slice Ao24 t678.length co24, .slice Ao25 t681.length co25, .slice Ao26 t684.length co26] 30 (0, 0)) (by (with_reducible repeat (first | refine blk_drewN ?_ _ | refine blk_drew ?_ | refine blk_alloc ?_ _)); exact BK687.out) hb); have n15_ := Aside0.mk (blk_below (g := gb695) (o := .cells #[.int .i64 t670, .int .i64 t671, .slice Ao22 t672.length co22, u696003, .slice Ao24 t678.length co24, .slice Ao25 t681.length co25, .slice Ao26 t684.length co26] 30 (0, 0)) (by (with_reducible repeat (first | refine blk_drewN ?_ _ | refine blk_drew ?_ | refine blk_alloc ?_ _)); exact BK695.out) hb); have n16_ := Aside0.mk (below_step (by repeat (first | (with_reducible first | exact HB.out | apply below_alloc | apply pw_below_drewN | apply below_drew1 | refine below_set ?_ GE687.out | refine below_set ?_ GE695.out) | exact HB.out)) hb); clear HO_11; clear HO_13; clear HO_16; clear HO_688002; clear HO_688003; clear HO_688004; clear HO_688005; clear HO_688006; clear HO_696002; clear HO_696003; clear HO_696004; clear HO_696005; clear HO_696006; clear BK687; clear BK695; clear HB; have HO_11 := n0_; have HO_13 := n1_; have HO_16 := n2_; have HO_688002 := n3_; have HO_688003 := n4_; have HO_688004 := n5_; have HO_688005 := n6_; have HO_688006 := n7_; have HO_696002 := n8_; have HO_696003 := n9_; have HO_696004 := n10_; have HO_696005 := n11_; have HO_696006 := n12_; have HO712 := n13_; have BK687 := n14_; have BK695 := n15_; have HB := n16_; clear n0_ n1_ n2_ n3_ n4_ n5_ n6_ n7_ n8_ n9_ n10_ n11_ n12_ n13_ n14_ n15_ n16_; clear hb ho73; obtain ⟨Ao74, co74, eo74⟩ := Kd.R_slice HO712.out; subst eo74; have hcz75_0 : w72.cell? ⟨gb695, 0, none⟩ = some (.int .i64 t670) := (blk_cell BK695.out 0).trans rfl; have hcz75_1 : w72.cell? ⟨gb695, 1, none⟩ = some (.int .i64 t671) := (blk_cell BK695.out 1).trans rfl; have hcz75_2 : w72.cell? ⟨gb695, 2, none⟩ = some (.slice Ao22 t672.length co22) := (blk_cell BK695.out 2).trans rfl; have hcz75_3 : w72.cell? ⟨gb695, 3, none⟩ = some (u696003) := (blk_cell BK695.out 3).trans rfl; have hcz75_4 : w72.cell? ⟨gb695, 4, none⟩ = some (.slice Ao24 t678.length co24) := (blk_cell BK695.out 4).trans rfl; have hcz75_5 : w72.cell? ⟨gb695, 5, none⟩ = some (.slice Ao25 t681.length co25) := (blk_cell BK695.out 5).trans rfl; have hcz75_6 : w72.cell? ⟨gb695, 6, none⟩ = some (.slice Ao26 t684.length co26) := (blk_cell BK695.out 6).trans rfl; have hfz75_0 := blk_frozen BK695.out 0; have hfz75_1 := blk_frozen BK695.out 1; have hfz75_2 := blk_frozen BK695.out 2; have hfz75_3 := blk_frozen BK695.out 3; have hfz75_4 := blk_frozen BK695.out 4; have hfz75_5 := blk_frozen BK695.out 5; have hfz75_6 := blk_frozen BK695.out 6))
                  have n0_ : Aside0 (Kd.R k46 46 (w72.setCell ⟨gb695, 3, none⟩ (.slice Ao74 y710.length co74)) w.heap.size (fun _ => True) (.slice Ao18 t667.length co18) t667) := ⟨by (with_reducible repeat (first | apply Kd.R_alloc | apply Kd.R_drewN | apply Kd.R_drew)); exact Kd.R_mono (Kd.R_far (p := ⟨gb695, 3, none⟩) (Kd.R_types HO_11.out BK695.out (by decide)) (fun _ hk => hk.2) (.slice Ao74 y710.length co74)) (fun _ hk => trivial)⟩
                  have n1_ : Aside0 (Kd.R (Kd.int .i64) 3 (w72.setCell ⟨gb695, 3, none⟩ (.slice Ao74 y710.length co74)) w.heap.size (fun k_ => some k_ ≠ (.slice Ao22 t672.length co22 : Value).ownBlock ∧ some k_ ≠ (.slice Ao23 t675.length co23 : Value).ownBlock ∧ some k_ ≠ (.slice Ao22 t672.length co22 : Value).ownBlock ∧ some k_ ≠ (u696003 : Value).ownBlock ∧ some k_ ≠ (.slice Ao74 y710.length co74 : Value).ownBlock) (.slice Ao30 t691.length co30) t691) := ⟨by (with_reducible repeat (first | apply Kd.R_alloc | apply Kd.R_drewN | apply Kd.R_drew)); exact Kd.R_mono (Kd.R_far (p := ⟨gb695, 3, none⟩) (Kd.R_types HO_13.out BK695.out (by decide)) (fun _ hk => hk.2) (.slice Ao74 y710.length co74)) (fun _ hk => ⟨hk.1.1.1, ⟨hk.1.1.2.1, ⟨hk.1.1.2.2.1, ⟨hk.1.1.2.2.2, hk.1.2⟩⟩⟩⟩)⟩
                  have n2_ : Aside0 (Kd.R Kd.bool 4 (w72.setCell ⟨gb695, 3, none⟩ (.slice Ao74 y710.length co74)) w.heap.size (fun _ => True) v697 x16_2) := ⟨by (with_reducible repeat (first | apply Kd.R_alloc | apply Kd.R_drewN | apply Kd.R_drew)); exact Kd.R_mono (Kd.R_far (p := ⟨gb695, 3, none⟩) (Kd.R_types HO_16.out BK695.out (by decide)) (fun _ hk => hk.2) (.slice Ao74 y710.length co74)) (fun _ hk => trivial)⟩
                  have n3_ : Aside0 (Kd.R (Kd.int .i64) 3 (w72.setCell ⟨gb695, 3, none⟩ (.slice Ao74 y710.length co74)) w.heap.size (fun k_ => some k_ ≠ (.slice Ao30 t691.length co30 : Value).ownBlock ∧ some k_ ≠ (.slice Ao23 t675.length co23 : Value).ownBlock ∧ some k_ ≠ (u696003 : Value).ownBlock ∧ some k_ ≠ (.slice Ao74 y710.length co74 : Value).ownBlock) (.slice Ao22 t672.length co22) t672) := ⟨by (with_reducible repeat (first | apply Kd.R_alloc | apply Kd.R_drewN | apply Kd.R_drew)); exact Kd.R_mono (Kd.R_far (p := ⟨gb695, 3, none⟩) (Kd.R_types HO_688002.out BK695.out (by decide)) (fun _ hk => hk.2) (.slice Ao74 y710.length co74)) (fun _ hk => ⟨hk.1.1.1, ⟨hk.1.1.2.1, ⟨hk.1.1.2.2, hk.1.2⟩⟩⟩)⟩
                  have n4_ : Aside0 (Kd.R (Kd.int .i64) 3 (w72.setCell ⟨gb695, 3, none⟩ (.slice Ao74 y710.length co74)) w.heap.size (fun k_ => some k_ ≠ (.slice Ao30 t691.length co30 : Value).ownBlock ∧ some k_ ≠ (.slice Ao22 t672.length co22 : Value).ownBlock ∧ some k_ ≠ (.slice Ao22 t672.length co22 : Value).ownBlock ∧ some k_ ≠ (u696003 : Value).ownBlock ∧ some k_ ≠ (.slice Ao74 y710.length co74 : Value).ownBlock) (.slice Ao23 t675.length co23) t675) := ⟨by (with_reducible repeat (first | apply Kd.R_alloc | apply Kd.R_drewN | apply Kd.R_drew)); exact Kd.R_mono (Kd.R_far (p := ⟨gb695, 3, none⟩) (Kd.R_types HO_688003.out BK695.out (by decide)) (fun _ hk => hk.2) (.slice Ao74 y710.length co74)) (fun _ hk => ⟨hk.1.1.1, ⟨hk.1.1.2.1, ⟨hk.1.1.2.2.1, ⟨hk.1.1.2.2.2, hk.1.2⟩⟩⟩⟩)⟩
                  have n5_ : Aside0 (Kd.R k52 52 (w72.setCell ⟨gb695, 3, none⟩ (.slice Ao74 y710.length co74)) w.heap.size (fun _ => True) (.slice Ao24 t678.length co24) t678) := ⟨by (with_reducible repeat (first | apply Kd.R_alloc | apply Kd.R_drewN | apply Kd.R_drew)); exact Kd.R_mono (Kd.R_far (p := ⟨gb695, 3, none⟩) (Kd.R_types HO_688004.out BK695.out (by decide)) (fun _ hk => hk.2) (.slice Ao74 y710.length co74)) (fun _ hk => trivial)⟩
                  have n6_ : Aside0 (Kd.R k54 54 (w72.setCell ⟨gb695, 3, none⟩ (.slice Ao74 y710.length co74)) w.heap.size (fun _ => True) (.slice Ao25 t681.length co25) t681) := ⟨by (with_reducible repeat (first | apply Kd.R_alloc | apply Kd.R_drewN | apply Kd.R_drew)); exact Kd.R_mono (Kd.R_far (p := ⟨gb695, 3, none⟩) (Kd.R_types HO_688005.out BK695.out (by decide)) (fun _ hk => hk.2) (.slice Ao74 y710.length co74)) (fun _ hk => trivial)⟩
                  have n7_ : Aside0 (Kd.R k56 56 (w72.setCell ⟨gb695, 3, none⟩ (.slice Ao74 y710.length co74)) w.heap.size (fun _ => True) (.slice Ao26 t684.length co26) t684) := ⟨by (with_reducible repeat (first | apply Kd.R_alloc | apply Kd.R_drewN | apply Kd.R_drew)); exact Kd.R_mono (Kd.R_far (p := ⟨gb695, 3, none⟩) (Kd.R_types HO_688006.out BK695.out (by decide)) (fun _ hk => hk.2) (.slice Ao74 y710.length co74)) (fun _ hk => trivial)⟩
                  have n8_ : Aside0 (Kd.R (Kd.int .i64) 3 (w72.setCell ⟨gb695, 3, none⟩ (.slice Ao74 y710.length co74)) w.heap.size (fun k_ => some k_ ≠ (.slice Ao30 t691.length co30 : Value).ownBlock ∧ some k_ ≠ (.slice Ao23 t675.length co23 : Value).ownBlock ∧ some k_ ≠ (u696003 : Value).ownBlock ∧ some k_ ≠ (.slice Ao74 y710.length co74 : Value).ownBlock) (.slice Ao22 t672.length co22) t672) := ⟨by (with_reducible repeat (first | apply Kd.R_alloc | apply Kd.R_drewN | apply Kd.R_drew)); exact Kd.R_mono (Kd.R_far (p := ⟨gb695, 3, none⟩) (Kd.R_types HO_696002.out BK695.out (by decide)) (fun _ hk => hk.2) (.slice Ao74 y710.length co74)) (fun _ hk => ⟨hk.1.1.1, ⟨hk.1.1.2.1, ⟨hk.1.1.2.2, hk.1.2⟩⟩⟩)⟩
                  have n9_ : Aside0 (Kd.R (Kd.int .i64) 3 (w72.setCell ⟨gb695, 3, none⟩ (.slice Ao74 y710.length co74)) w.heap.size (fun k_ => some k_ ≠ (.slice Ao30 t691.length co30 : Value).ownBlock ∧ some k_ ≠ (.slice Ao22 t672.length co22 : Value).ownBlock ∧ some k_ ≠ (.slice Ao23 t675.length co23 : Value).ownBlock ∧ some k_ ≠ (.slice Ao22 t672.length co22 : Value).ownBlock ∧ some k_ ≠ (.slice Ao74 y710.length co74 : Value).ownBlock) u696003 x696003_3) := ⟨by (with_reducible repeat (first | apply Kd.R_alloc | apply Kd.R_drewN | apply Kd.R_drew)); exact Kd.R_mono (Kd.R_far (p := ⟨gb695, 3, none⟩) (Kd.R_types HO_696003.out BK695.out (by decide)) (fun _ hk => hk.2) (.slice Ao74 y710.length co74)) (fun _ hk => ⟨hk.1.1.1, ⟨hk.1.1.2.1, ⟨hk.1.1.2.2.1, ⟨hk.1.1.2.2.2, hk.1.2⟩⟩⟩⟩)⟩
                  have n10_ : Aside0 (Kd.R k52 52 (w72.setCell ⟨gb695, 3, none⟩ (.slice Ao74 y710.length co74)) w.heap.size (fun _ => True) (.slice Ao24 t678.length co24) t678) := ⟨by (with_reducible repeat (first | apply Kd.R_alloc | apply Kd.R_drewN | apply Kd.R_drew)); exact Kd.R_mono (Kd.R_far (p := ⟨gb695, 3, none⟩) (Kd.R_types HO_696004.out BK695.out (by decide)) (fun _ hk => hk.2) (.slice Ao74 y710.length co74)) (fun _ hk => trivial)⟩
                  have n11_ : Aside0 (Kd.R k54 54 (w72.setCell ⟨gb695, 3, none⟩ (.slice Ao74 y710.length co74)) w.heap.size (fun _ => True) (.slice Ao25 t681.length co25) t681) := ⟨by (with_reducible repeat (first | apply Kd.R_alloc | apply Kd.R_drewN | apply Kd.R_drew)); exact Kd.R_mono (Kd.R_far (p := ⟨gb695, 3, none⟩) (Kd.R_types HO_696005.out BK695.out (by decide)) (fun _ hk => hk.2) (.slice Ao74 y710.length co74)) (fun _ hk => trivial)⟩
                  have n12_ : Aside0 (Kd.R k56 56 (w72.setCell ⟨gb695, 3, none⟩ (.slice Ao74 y710.length co74)) w.heap.size (fun _ => True) (.slice Ao26 t684.length co26) t684) := ⟨by (with_reducible repeat (first | apply Kd.R_alloc | apply Kd.R_drewN | apply Kd.R_drew)); exact Kd.R_mono (Kd.R_far (p := ⟨gb695, 3, none⟩) (Kd.R_types HO_696006.out BK695.out (by decide)) (fun _ hk => hk.2) (.slice Ao74 y710.length co74)) (fun _ hk => trivial)⟩
                  have n13_ : Aside0 (Kd.R (Kd.int .i64) 3 (w72.setCell ⟨gb695, 3, none⟩ (.slice Ao74 y710.length co74)) w.heap.size (fun k_ => some k_ ≠ (.slice Ao30 t691.length co30 : Value).ownBlock ∧ some k_ ≠ (.slice Ao22 t672.length co22 : Value).ownBlock ∧ some k_ ≠ (.slice Ao23 t675.length co23 : Value).ownBlock ∧ some k_ ≠ (.slice Ao22 t672.length co22 : Value).ownBlock ∧ some k_ ≠ (u696003 : Value).ownBlock) (.slice Ao74 y710.length co74) y710) := ⟨by (with_reducible repeat (first | apply Kd.R_alloc | apply Kd.R_drewN | apply Kd.R_drew)); exact Kd.R_mono (Kd.R_far (p := ⟨gb695, 3, none⟩) (Kd.R_types HO712.out BK695.out (by decide)) (fun _ hk => hk.2) (.slice Ao74 y710.length co74)) (fun _ hk => ⟨hk.1.1.1.1.1.2, ⟨hk.1.1.1.1.2, ⟨hk.1.1.1.2, ⟨hk.1.1.2, hk.1.2⟩⟩⟩⟩)⟩
                  have n14_ : Aside0 ((w72.setCell ⟨gb695, 3, none⟩ (.slice Ao74 y710.length co74)).heap[gb687]? = some (.cells #[.int .i64 t670, .int .i64 t671, .slice Ao22 t672.length co22, .slice Ao23 t675.length co23, .slice Ao24 t678.length co24, .slice Ao25 t681.length co25, .slice Ao26 t684.length co26] 30 (0, 0))) := ⟨by (with_reducible repeat (first | refine blk_drewN ?_ _ | refine blk_drew ?_ | refine blk_alloc ?_ _)); refine blk_far ?_ NB687_695.out _; (with_reducible repeat (first | refine blk_drewN ?_ _ | refine blk_drew ?_ | refine blk_alloc ?_ _)); exact BK687.out⟩
                  have n15_ : Aside0 ((w72.setCell ⟨gb695, 3, none⟩ (.slice Ao74 y710.length co74)).heap[gb695]? = some (.cells #[.int .i64 t670, .int .i64 t671, .slice Ao22 t672.length co22, .slice Ao74 y710.length co74, .slice Ao24 t678.length co24, .slice Ao25 t681.length co25, .slice Ao26 t684.length co26] 30 (0, 0))) := ⟨by (with_reducible repeat (first | refine blk_drewN ?_ _ | refine blk_drew ?_ | refine blk_alloc ?_ _)); refine blk_put (cs := #[.int .i64 t670, .int .i64 t671, .slice Ao22 t672.length co22, u696003, .slice Ao24 t678.length co24, .slice Ao25 t681.length co25, .slice Ao26 t684.length co26]) ?_ 3 _ rfl; (with_reducible repeat (first | refine blk_drewN ?_ _ | refine blk_drew ?_ | refine blk_alloc ?_ _)); exact BK695.out⟩
                  have n16_ : Aside0 (Below w.heap.size w (w72.setCell ⟨gb695, 3, none⟩ (.slice Ao74 y710.length co74))) := ⟨by repeat (first | (with_reducible first | exact HB.out | apply below_alloc | apply pw_below_drewN | apply below_drew1 | refine below_set ?_ GE687.out | refine below_set ?_ GE695.out) | exact HB.out)⟩
                  (try clear HO_11)
                  (try clear HO_13)
                  (try clear HO_16)
                  (try clear HO_688002)
                  (try clear HO_688003)
                  (try clear HO_688004)
                  (try clear HO_688005)
                  (try clear HO_688006)
                  (try clear HO_696002)
                  (try clear HO_696003)
                  (try clear HO_696004)
                  (try clear HO_696005)
                  (try clear HO_696006)
                  (try clear HO712)
                  (try clear BK687)
                  (try clear BK695)
                  (try clear HB)
                  generalize (w72.setCell ⟨gb695, 3, none⟩ (.slice Ao74 y710.length co74)) = w76 at n0_ n1_ n2_ n3_ n4_ n5_ n6_ n7_ n8_ n9_ n10_ n11_ n12_ n13_ n14_ n15_ n16_ ⊢
                  have HO_11 := n0_
                  have HO_13 := n1_
                  have HO_16 := n2_
                  have HO_688002 := n3_
                  have HO_688003 := n4_
                  have HO_688004 := n5_
                  have HO_688005 := n6_
                  have HO_688006 := n7_
                  have HO_696002 := n8_
                  have HO_696003 := n9_
                  have HO_696004 := n10_
                  have HO_696005 := n11_
                  have HO_696006 := n12_
                  have HO712 := n13_
                  have BK687 := n14_
                  have BK695 := n15_
                  have HB := n16_
                  clear n0_ n1_ n2_ n3_ n4_ n5_ n6_ n7_ n8_ n9_ n10_ n11_ n12_ n13_ n14_ n15_ n16_
                  have n0_ := Aside0.mk (Kd.R_drew HO_11.out)
                  have n1_ := Aside0.mk (Kd.R_drew HO_13.out)
                  have n2_ := Aside0.mk (Kd.R_drew HO_16.out)
                  have n3_ := Aside0.mk (Kd.R_drew HO_688002.out)
                  have n4_ := Aside0.mk (Kd.R_drew HO_688003.out)
                  have n5_ := Aside0.mk (Kd.R_drew HO_688004.out)
                  have n6_ := Aside0.mk (Kd.R_drew HO_688005.out)
                  have n7_ := Aside0.mk (Kd.R_drew HO_688006.out)
                  have n8_ := Aside0.mk (Kd.R_drew HO_696002.out)
                  have n9_ := Aside0.mk (Kd.R_drew HO_696003.out)
                  have n10_ := Aside0.mk (Kd.R_drew HO_696004.out)
                  have n11_ := Aside0.mk (Kd.R_drew HO_696005.out)
                  have n12_ := Aside0.mk (Kd.R_drew HO_696006.out)
                  have n13_ := Aside0.mk (Kd.R_drew HO712.out)
                  have n14_ := Aside0.mk (blk_drew BK687.out)
                  have n15_ := Aside0.mk (blk_drew BK695.out)
                  have n16_ := Aside0.mk (below_drew1 HB.out)
                  clear HO_11
                  clear HO_13
                  clear HO_16
                  clear HO_688002
                  clear HO_688003
                  clear HO_688004
                  clear HO_688005
                  clear HO_688006
                  clear HO_696002
                  clear HO_696003
                  clear HO_696004
                  clear HO_696005
                  clear HO_696006
                  clear HO712
                  clear BK687
                  clear BK695
                  clear HB
                  have HO_11 := n0_
                  have HO_13 := n1_
                  have HO_16 := n2_
                  have HO_688002 := n3_
                  have HO_688003 := n4_
                  have HO_688004 := n5_
                  have HO_688005 := n6_
                  have HO_688006 := n7_
                  have HO_696002 := n8_
                  have HO_696003 := n9_
                  have HO_696004 := n10_
                  have HO_696005 := n11_
                  have HO_696006 := n12_
                  have HO712 := n13_
                  have BK687 := n14_
                  have BK695 := n15_
                  have HB := n16_
                  clear n0_ n1_ n2_ n3_ n4_ n5_ n6_ n7_ n8_ n9_ n10_ n11_ n12_ n13_ n14_ n15_ n16_
                  have q78 : (t694 : Int) ≤ ((t691.length : Int) : Int) := of_decide_eq_true (by first | (with_reducible assumption) | assumption)
                  obtain ⟨i078, hi078, _, hsz78, _⟩ := info_parts info3
                  have hroom78 : t691.length ≤ co30 := (Kd.R_reads' HO_13.out).2.1
                  have hC78 : Kd.C (Kd.int .i64) _ Ao30 t691.length t691 := (Kd.R_reads' HO_13.out).2.2
                  have hcut78 := cut_to (P := Try.prog) 22 3 .i64 Try.underlying22 hi078 Ao30 t691.length co30 t694 (of_decide_eq_true (by first | (with_reducible assumption) | assumption)) q78 hroom78
                  have hr78 := Kd.C_take (m := (t694 : Int).toNat) hC78 (by omega)
                  have hy78 : y713.length = (t694 : Int).toNat := (by rw [Ny713.out, List.length_take]; omega)
                  rw [← Ny713.out] at hr78
                  rw [← hy78] at hcut78
                  have HR716 := Aside0.mk hr78
                  have HC716 := Aside0.mk (show y713.length ≤ co30 from by omega)
                  clear hr78 hC78 hroom78 hi078 hsz78
                  have KY78 := Aside0.mk hy78
                  clear hy78
                  have KL78 := Aside0.mk (show (t694 : Int).toNat ≤ t691.length from by omega)
                  replace q78 := eq_true q78
                  obtain ⟨Ao79, co79, eo79⟩ := Kd.R_slice HO_16.out
                  (first | subst eo79 | (injection eo79 with f1_ f2_ f3_; have f4_ := f1_.symm; have f5_ := f3_.symm; clear f1_ f2_ f3_; subst f4_; subst f5_))
                  have p718 : 0 ≤ (x20_3 : Int) := of_decide_eq_true (by first | (with_reducible assumption) | assumption)
                  have q718 : x20_3 < (x16_2.length : Int) := of_decide_eq_true (by first | (with_reducible assumption) | assumption)
                  obtain ⟨ad718, e718, hx718_0⟩ := Kd.at_bool (Kd.R_reads' HO_16.out).2.2 x20_3 p718 q718
                  cases e718
                  replace p718 := eq_true p718
                  replace q718 := eq_true q718
                  refine start_ (n := 11) (S := fun w' => w'.cell? ⟨gb695, 0, none⟩ = some (.int .i64 t670) ∧ w'.cell? ⟨gb695, 1, none⟩ = some (.int .i64 t671) ∧ w'.cell? ⟨gb695, 2, none⟩ = some (.slice Ao22 t672.length co22) ∧ w'.cell? ⟨gb695, 3, none⟩ = some (.slice Ao74 y710.length co74) ∧ w'.cell? ⟨gb695, 4, none⟩ = some (.slice Ao24 t678.length co24) ∧ w'.cell? ⟨gb695, 5, none⟩ = some (.slice Ao25 t681.length co25) ∧ w'.cell? ⟨gb695, 6, none⟩ = some (.slice Ao26 t684.length co26) ∧ w'.cell? (ad718.add (x20_3).toNat) = some (.bool (rdOf false x16_2 x20_3))) (ds := []) #[false, false, false, false, false, false, false, false, false, false, false] (by kernel_rfl) rfl rfl ⟨(blk_cell BK695.out 0).trans rfl, (blk_cell BK695.out 1).trans rfl, (blk_cell BK695.out 2).trans rfl, (blk_cell BK695.out 3).trans rfl, (blk_cell BK695.out 4).trans rfl, (blk_cell BK695.out 5).trans rfl, (blk_cell BK695.out 6).trans rfl, hx718_0⟩ (fun hHeld => ?_); refine with_tabW canopylaw4_RunsParts.tab25 canopylaw4_RunsParts.bits25 (fun HT_ HW_ => ?_)
                  generalize w76.drew = w77 at HO_11 HO_13 HO_16 HO_688002 HO_688003 HO_688004 HO_688005 HO_688006 HO_696002 HO_696003 HO_696004 HO_696005 HO_696006 HO712 BK687 BK695 HB HR716 hx718_0 hHeld ⊢
                  refine pure_ (i := 0) (N := some 98) (v := ?_) (a' := ?_) #[true, false, false, false, false, false, false, false, false, false, false] rfl rfl (any_of HT_.out (by kernel_rfl)) (fun _ _ _ h => h) (Or.inl ⟨by rfl, ?_⟩) ?_ ?_
                  rotate_left
                  ·intro w'
                   go_simp
                   with_reducible rfl
                  rotate_left
                  ·simp only [Act.put, List.setIfInBounds_toArray, List.set_cons_zero, List.set_cons_succ, i64_w, i32_w]
                   rfl
                  refine pure_ (i := 2) (N := some 100) (v := ?_) (a' := ?_) #[true, false, true, false, false, false, false, false, false, false, false] rfl rfl (any_of HT_.out (by kernel_rfl)) (fun _ _ _ h => h) (Or.inl ⟨by rfl, ?_⟩) ?_ ?_
                  rotate_left
                  ·intro w'
                   go_simp
                   with_reducible rfl
                  rotate_left
                  ·simp only [Act.put, List.setIfInBounds_toArray, List.set_cons_zero, List.set_cons_succ, i64_w, i32_w]
                   rfl
                  refine pure_ (i := 3) (N := some 101) (v := ?_) (a' := ?_) #[true, false, true, true, false, false, false, false, false, false, false] rfl rfl (any_of HT_.out (by kernel_rfl)) (fun _ _ _ h => h) (Or.inl ⟨by rfl, ?_⟩) ?_ ?_
                  rotate_left
                  ·intro w'
                   go_simp
                   with_reducible rfl
                  rotate_left
                  ·simp only [Act.put, List.setIfInBounds_toArray, List.set_cons_zero, List.set_cons_succ, i64_w, i32_w]
                   rfl
                  refine pure_ (i := 4) (N := some 102) (v := ?_) (a' := ?_) #[true, false, true, true, true, false, false, false, false, false, false] rfl rfl (any_of HT_.out (by kernel_rfl)) (fun _ _ _ h => h) (Or.inl ⟨by rfl, ?_⟩) ?_ ?_
                  rotate_left
                  ·intro w'
                   go_simp
                   with_reducible rfl
                  rotate_left
                  ·simp only [Act.put, List.setIfInBounds_toArray, List.set_cons_zero, List.set_cons_succ, i64_w, i32_w]
                   rfl
                  refine pure_ (i := 6) (N := some 104) (v := ?_) (a' := ?_) #[true, false, true, true, true, false, true, false, false, false, false] rfl rfl (any_of HT_.out (by kernel_rfl)) (fun _ _ _ h => h) (Or.inl ⟨by rfl, ?_⟩) ?_ ?_
                  rotate_left
                  ·intro w'
                   go_simp
                   with_reducible rfl
                  rotate_left
                  ·simp only [Act.put, List.setIfInBounds_toArray, List.set_cons_zero, List.set_cons_succ, i64_w, i32_w]
                   rfl
                  refine pure_ (i := 7) (N := some 105) (v := ?_) (a' := ?_) #[true, false, true, true, true, false, true, true, false, false, false] rfl rfl (any_of HT_.out (by kernel_rfl)) (fun _ _ _ h => h) (Or.inl ⟨by rfl, ?_⟩) ?_ ?_
                  rotate_left
                  ·intro w'
                   go_simp
                   with_reducible rfl
                  rotate_left
                  ·simp only [Act.put, List.setIfInBounds_toArray, List.set_cons_zero, List.set_cons_succ, i64_w, i32_w]
                   rfl
                  refine pure_ (i := 8) (N := some 106) (v := ?_) (a' := ?_) #[true, false, true, true, true, false, true, true, true, false, false] rfl rfl (any_of HT_.out (by kernel_rfl)) (fun _ _ _ h => h) (Or.inl ⟨by rfl, ?_⟩) ?_ ?_
                  rotate_left
                  ·intro w'
                   go_simp
                   with_reducible rfl
                  rotate_left
                  ·simp only [Act.put, List.setIfInBounds_toArray, List.set_cons_zero, List.set_cons_succ, i64_w, i32_w]
                   rfl
                  refine take_ (i := 1) (N := some 99) (v := ?_) (a' := ?_) #[true, true, true, true, true, false, true, true, true, false, false] rfl rfl (take_ofW HT_.out HW_.out (by kernel_rfl)) (fun _ _ _ h => h) (Or.inl ⟨by rfl, ?_⟩) hHeld ?_ ?_
                  rotate_left
                  ·rintro w' ⟨s0, s1, s2, s3, s4, s5, s6, s7⟩
                   go_simp
                   with_reducible rfl
                  rotate_left
                  ·simp only [Act.put, List.setIfInBounds_toArray, List.set_cons_zero, List.set_cons_succ, i64_w, i32_w]
                   rfl
                  refine take_ (i := 9) (N := some 107) (v := ?_) (a' := ?_) #[true, true, true, true, true, false, true, true, true, true, false] rfl rfl (take_ofW HT_.out HW_.out (by kernel_rfl)) (fun _ _ _ h => h) (Or.inl ⟨by rfl, ?_⟩) hHeld ?_ ?_
                  rotate_left
                  ·rintro w' ⟨s0, s1, s2, s3, s4, s5, s6, s7⟩
                   go_simp
                   with_reducible rfl
                  rotate_left
                  ·simp only [Act.put, List.setIfInBounds_toArray, List.set_cons_zero, List.set_cons_succ, i64_w, i32_w]
                   rfl
                  refine one_ (i := 5) (N := some 103) #[true, true, true, true, true, true, true, true, true, true, false] rfl rfl (one_of HT_.out (by kernel_rfl)) (by decide) (fun K hK => ?_)
                  refine goes_ Try.func23 (by kernel_rfl) rfl #[.slice Ao18 t667.length co18, .agg #[.int .i64 t670, .int .i64 t671, .slice Ao22 t672.length co22, .slice Ao74 y710.length co74, .slice Ao24 t678.length co24, .slice Ao25 t681.length co25, .slice Ao26 t684.length co26], .slice Ao30 y713.length co30] (by rfl) rfl rfl (by (try simp only [List.map_toArray, List.map_cons, List.map_nil]); first | done | rfl | (simp only [List.length_drop, List.length_take]; rfl)) ?_
                  with_reducible refine (runs_Takes.calls _ _ t667 t670 t671 _ _ t672 _ _ y710 _ _ t678 _ _ t681 _ _ t684 _ _ y713 t717 _ ?side1 ?side2 ?side3 ?side4 ?side5 ?side6 ?side7 ?side8 ?side9 ?side10 ?side11 ?side12 ?side13 ?side14 A66.out).mono ?_
                  (case side1 => repeat (first | exact (Kd.R_reads' HO_11.out).2.2 | (with_reducible refine Kd.C_alloc ?_ _) | (with_reducible refine Kd.C_drewN ?_ _) | (with_reducible refine Kd.C_drew ?_)))
                  (case side2 => exact (Kd.R_reads' HO_11.out).2.1)
                  (case side3 => repeat (first | exact (Kd.R_reads' HO_696002.out).2.2 | (with_reducible refine Kd.C_alloc ?_ _) | (with_reducible refine Kd.C_drewN ?_ _) | (with_reducible refine Kd.C_drew ?_)))
                  (case side4 => exact (Kd.R_reads' HO_696002.out).2.1)
                  (case side5 => repeat (first | exact (Kd.R_reads' HO712.out).2.2 | (with_reducible refine Kd.C_alloc ?_ _) | (with_reducible refine Kd.C_drewN ?_ _) | (with_reducible refine Kd.C_drew ?_)))
                  (case side6 => exact (Kd.R_reads' HO712.out).2.1)
                  (case side7 => repeat (first | exact (Kd.R_reads' HO_696004.out).2.2 | (with_reducible refine Kd.C_alloc ?_ _) | (with_reducible refine Kd.C_drewN ?_ _) | (with_reducible refine Kd.C_drew ?_)))
                  (case side8 => exact (Kd.R_reads' HO_696004.out).2.1)
                  (case side9 => repeat (first | exact (Kd.R_reads' HO_696005.out).2.2 | (with_reducible refine Kd.C_alloc ?_ _) | (with_reducible refine Kd.C_drewN ?_ _) | (with_reducible refine Kd.C_drew ?_)))
                  (case side10 => exact (Kd.R_reads' HO_696005.out).2.1)
                  (case side11 => repeat (first | exact (Kd.R_reads' HO_696006.out).2.2 | (with_reducible refine Kd.C_alloc ?_ _) | (with_reducible refine Kd.C_drewN ?_ _) | (with_reducible refine Kd.C_drew ?_)))
                  (case side12 => exact (Kd.R_reads' HO_696006.out).2.1)
                  (case side13 => repeat (first | exact (by repeat (first | (with_reducible exact HR716.out) | (with_reducible refine Kd.C_alloc ?_ _) | (with_reducible refine Kd.C_drewN ?_ _) | (with_reducible refine Kd.C_drew ?_) | exact HR716.out)) | (with_reducible refine Kd.C_alloc ?_ _) | (with_reducible refine Kd.C_drewN ?_ _) | (with_reducible refine Kd.C_drew ?_)))
                  (case side14 => exact HC716.out)
                  rintro e w80 ⟨rfl, hb⟩
                  have HS7_ := (hb.cell (World.block_lt_of_cell? _ _ (hHeld.2.2.2.2.2.2.2))).trans (hHeld.2.2.2.2.2.2.2)
                  refine ⟨_, rfl, ?_⟩
                  have n0_ := Aside0.mk (Kd.R_below (by (with_reducible repeat (first | apply Kd.R_alloc | apply Kd.R_drewN | apply Kd.R_drew)); exact HO_11.out) hb)
                  have n1_ := Aside0.mk (Kd.R_below (by (with_reducible repeat (first | apply Kd.R_alloc | apply Kd.R_drewN | apply Kd.R_drew)); exact HO_13.out) hb)
                  have n2_ := Aside0.mk (Kd.R_below (by (with_reducible repeat (first | apply Kd.R_alloc | apply Kd.R_drewN | apply Kd.R_drew)); exact HO_16.out) hb)
                  have n3_ := Aside0.mk (Kd.R_below (by (with_reducible repeat (first | apply Kd.R_alloc | apply Kd.R_drewN | apply Kd.R_drew)); exact HO_688002.out) hb)
                  have n4_ := Aside0.mk (Kd.R_below (by (with_reducible repeat (first | apply Kd.R_alloc | apply Kd.R_drewN | apply Kd.R_drew)); exact HO_688003.out) hb)
                  have n5_ := Aside0.mk (Kd.R_below (by (with_reducible repeat (first | apply Kd.R_alloc | apply Kd.R_drewN | apply Kd.R_drew)); exact HO_688004.out) hb)
                  have n6_ := Aside0.mk (Kd.R_below (by (with_reducible repeat (first | apply Kd.R_alloc | apply Kd.R_drewN | apply Kd.R_drew)); exact HO_688005.out) hb)
                  have n7_ := Aside0.mk (Kd.R_below (by (with_reducible repeat (first | apply Kd.R_alloc | apply Kd.R_drewN | apply Kd.R_drew)); exact HO_688006.out) hb)
                  have n8_ := Aside0.mk (Kd.R_below (by (with_reducible repeat (first | apply Kd.R_alloc | apply Kd.R_drewN | apply Kd.R_drew)); exact HO_696002.out) hb)
                  have n9_ := Aside0.mk (Kd.R_below (by (with_reducible repeat (first | apply Kd.R_alloc | apply Kd.R_drewN | apply Kd.R_drew)); exact HO_696003.out) hb)
                  have n10_ := Aside0.mk (Kd.R_below (by (with_reducible repeat (first | apply Kd.R_alloc | apply Kd.R_drewN | apply Kd.R_drew)); exact HO_696004.out) hb)
                  have n11_ := Aside0.mk (Kd.R_below (by (with_reducible repeat (first | apply Kd.R_alloc | apply Kd.R_drewN | apply Kd.R_drew)); exact HO_696005.out) hb)
                  have n12_ := Aside0.mk (Kd.R_below (by (with_reducible repeat (first | apply Kd.R_alloc | apply Kd.R_drewN | apply Kd.R_drew)); exact HO_696006.out) hb)
                  have n13_ := Aside0.mk (Kd.R_below (by (with_reducible repeat (first | apply Kd.R_alloc | apply Kd.R_drewN | apply Kd.R_drew)); exact HO712.out) hb)
                  have n14_ := Aside0.mk (blk_below (g := gb687) (o := .cells #[.int .i64 t670, .int .i64 t671, .slice Ao22 t672.length co22, .slice Ao23 t675.length co23, .slice Ao24 t678.length co24, .slice Ao25 t681.length co25, .slice Ao26 t684.length co26] 30 (0, 0)) (by (with_reducible repeat (first | refine blk_drewN ?_ _ | refine blk_drew ?_ | refine blk_alloc ?_ _)); exact BK687.out) hb)
                  have n15_ := Aside0.mk (blk_below (g := gb695) (o := .cells #[.int .i64 t670, .int .i64 t671, .slice Ao22 t672.length co22, .slice Ao74 y710.length co74, .slice Ao24 t678.length co24, .slice Ao25 t681.length co25, .slice Ao26 t684.length co26] 30 (0, 0)) (by (with_reducible repeat (first | refine blk_drewN ?_ _ | refine blk_drew ?_ | refine blk_alloc ?_ _)); exact BK695.out) hb)
                  have n16_ := Aside0.mk (Kd.C_below (by repeat (first | (with_reducible exact HR716.out) | (with_reducible refine Kd.C_alloc ?_ _) | (with_reducible refine Kd.C_drewN ?_ _) | (with_reducible refine Kd.C_drew ?_) | exact HR716.out)) hb)
                  have n17_ := Aside0.mk (below_step (by repeat (first | (with_reducible first | exact HB.out | apply below_alloc | apply pw_below_drewN | apply below_drew1 | refine below_set ?_ GE687.out | refine below_set ?_ GE695.out) | exact HB.out)) hb)
                  clear HO_11
                  clear HO_13
                  clear HO_16
                  clear HO_688002
                  clear HO_688003
                  clear HO_688004
                  clear HO_688005
                  clear HO_688006
                  clear HO_696002
                  clear HO_696003
                  clear HO_696004
                  clear HO_696005
                  clear HO_696006
                  clear HO712
                  clear BK687
                  clear BK695
                  clear HR716
                  clear HB
                  have HO_11 := n0_
                  have HO_13 := n1_
                  have HO_16 := n2_
                  have HO_688002 := n3_
                  have HO_688003 := n4_
                  have HO_688004 := n5_
                  have HO_688005 := n6_
                  have HO_688006 := n7_
                  have HO_696002 := n8_
                  have HO_696003 := n9_
                  have HO_696004 := n10_
                  have HO_696005 := n11_
                  have HO_696006 := n12_
                  have HO712 := n13_
                  have BK687 := n14_
                  have BK695 := n15_
                  have HR716 := n16_
                  have HB := n17_
                  clear n0_ n1_ n2_ n3_ n4_ n5_ n6_ n7_ n8_ n9_ n10_ n11_ n12_ n13_ n14_ n15_ n16_ n17_
                  (try clear hb)
                  (try clear hb2)
                  (try clear hk)
                  (try clear hi)
                  refine hK.out _ _ ⟨(blk_cell BK695.out 0).trans rfl, (blk_cell BK695.out 1).trans rfl, (blk_cell BK695.out 2).trans rfl, (blk_cell BK695.out 3).trans rfl, (blk_cell BK695.out 4).trans rfl, (blk_cell BK695.out 5).trans rfl, (blk_cell BK695.out 6).trans rfl, HS7_⟩ (fun hHeld => ?_)
                  clear hK K
                  refine norm_ (a' := ?_) ?_ ?_
                  rotate_left
                  ·show Act.put _ (some 103) _ = _
                   simp only [Act.put, List.setIfInBounds_toArray, List.set_cons_zero, List.set_cons_succ, i64_w, i32_w]
                   rfl
                  refine pure_ (i := 10) (N := some 108) (v := ?_) (a' := ?_) #[true, true, true, true, true, true, true, true, true, true, true] rfl rfl (any_of HT_.out (by kernel_rfl)) (fun _ _ _ h => h) (Or.inl ⟨by rfl, ?_⟩) ?_ ?_
                  rotate_left
                  ·intro w'
                   go_simp
                   with_reducible rfl
                  rotate_left
                  ·simp only [Act.put, List.setIfInBounds_toArray, List.set_cons_zero, List.set_cons_succ, i64_w, i32_w]
                   rfl
                  refine done_ (done_of HT_.out (by kernel_rfl)) ?_
                  try go_wp2
                  go_ret
                  exact ⟨by first | rfl | (simp [errW_none, errW_some] <;> rfl) | (simp [*, errW_none, errW_some] <;> rfl), by repeat (first | (with_reducible first | exact HB.out | apply below_alloc | apply pw_below_drewN | apply below_drew1 | refine below_set ?_ GE687.out | refine below_set ?_ GE695.out) | exact HB.out)⟩
                 ·rw [if_neg c69] at H
                  have c69b0 : (t717 != (rdOf false x16_2 x20_3)) = false := by simpa using c69
                  (try (have c69b1 : decide (t717 = (rdOf false x16_2 x20_3)) = true := by simpa using c69))
                  (try (have c69b2 : (t717 == (rdOf false x16_2 x20_3)) = true := by simpa using c69))
                  clear c69
                  have H' := Aside0.mk H
                  clear H
                  have hnb81 := NB687_695.out
                  have hnc81 := NB695_687.out
                  have hcz82_0 : wr.cell? ⟨gb687, 0, none⟩ = some (.int .i64 t670) := (blk_cell BK687.out 0).trans rfl
                  have hcz82_1 : wr.cell? ⟨gb687, 1, none⟩ = some (.int .i64 t671) := (blk_cell BK687.out 1).trans rfl
                  have hcz82_2 : wr.cell? ⟨gb687, 2, none⟩ = some (.slice Ao22 t672.length co22) := (blk_cell BK687.out 2).trans rfl
                  have hcz82_3 : wr.cell? ⟨gb687, 3, none⟩ = some (.slice Ao23 t675.length co23) := (blk_cell BK687.out 3).trans rfl
                  have hcz82_4 : wr.cell? ⟨gb687, 4, none⟩ = some (.slice Ao24 t678.length co24) := (blk_cell BK687.out 4).trans rfl
                  have hcz82_5 : wr.cell? ⟨gb687, 5, none⟩ = some (.slice Ao25 t681.length co25) := (blk_cell BK687.out 5).trans rfl
                  have hcz82_6 : wr.cell? ⟨gb687, 6, none⟩ = some (.slice Ao26 t684.length co26) := (blk_cell BK687.out 6).trans rfl
                  have hfz82_0 := blk_frozen BK687.out 0
                  have hfz82_1 := blk_frozen BK687.out 1
                  have hfz82_2 := blk_frozen BK687.out 2
                  have hfz82_3 := blk_frozen BK687.out 3
                  have hfz82_4 := blk_frozen BK687.out 4
                  have hfz82_5 := blk_frozen BK687.out 5
                  have hfz82_6 := blk_frozen BK687.out 6
                  try go_wp2_with (first | ((with_reducible refine gate_dst (N := 96) rfl ?_); refine Kd.R_lit (Kd.int .i64) _ 3 ?hg (N := 96) ?hd (xs := ([x20_3] : List Int)) (inner := [.int .i64 x20_3]) (ok := fun _ => True) (okp := fun _ => True) ?hr ?hp (fun _ hk => hk) trivial (Below.refl _ _) (Nat.le_refl _) (by simp) ?_; (case hd => rfl); (case hg => rfl); (case hr => first | (go_simp; done) | (go_simp; rfl)); (case hp => exact (Reps.one (show Kd.M (Kd.int .i64) _ _ _ x20_3 [.int .i64 x20_3] from rfl) (Reps.none _ _))); intro v711 w83 ho84 hb hg_ hnew_; clear hg_ hnew_; (first | rw [← Ny710.out] at ho84 | (simp only [Int.reduceToNat] at ho84; rw [← Ny710.out] at ho84)); have n0_ := Aside0.mk (Kd.R_below (by (with_reducible repeat (first | apply Kd.R_alloc | apply Kd.R_drewN | apply Kd.R_drew)); exact HO_11.out) hb); have n1_ := Aside0.mk (Kd.R_elder' (by (with_reducible repeat (first | apply Kd.R_alloc | apply Kd.R_drewN | apply Kd.R_drew)); exact HO_13.out) (Kd.R_base ho84) hb); have n2_ := Aside0.mk (Kd.R_below (by (with_reducible repeat (first | apply Kd.R_alloc | apply Kd.R_drewN | apply Kd.R_drew)); exact HO_16.out) hb); have n3_ := Aside0.mk (Kd.R_elder' (by (with_reducible repeat (first | apply Kd.R_alloc | apply Kd.R_drewN | apply Kd.R_drew)); exact HO_688002.out) (Kd.R_base ho84) hb); have n4_ := Aside0.mk (Kd.R_elder' (by (with_reducible repeat (first | apply Kd.R_alloc | apply Kd.R_drewN | apply Kd.R_drew)); exact HO_688003.out) (Kd.R_base ho84) hb); have n5_ := Aside0.mk (Kd.R_below (by (with_reducible repeat (first | apply Kd.R_alloc | apply Kd.R_drewN | apply Kd.R_drew)); exact HO_688004.out) hb); have n6_ := Aside0.mk (Kd.R_below (by (with_reducible repeat (first | apply Kd.R_alloc | apply Kd.R_drewN | apply Kd.R_drew)); exact HO_688005.out) hb); have n7_ := Aside0.mk (Kd.R_below (by (with_reducible repeat (first | apply Kd.R_alloc | apply Kd.R_drewN | apply Kd.R_drew)); exact HO_688006.out) hb); have n8_ := Aside0.mk (Kd.R_elder' (by (with_reducible repeat (first | apply Kd.R_alloc | apply Kd.R_drewN | apply Kd.R_drew)); exact HO_696002.out) (Kd.R_base ho84) hb); have n9_ := Aside0.mk (Kd.R_elder' (by (with_reducible repeat (first | apply Kd.R_alloc | apply Kd.R_drewN | apply Kd.R_drew)); exact HO_696003.out) (Kd.R_base ho84) hb); have n10_ := Aside0.mk (Kd.R_below (by (with_reducible repeat (first | apply Kd.R_alloc | apply Kd.R_drewN | apply Kd.R_drew)); exact HO_696004.out) hb); have n11_ := Aside0.mk (Kd.R_below (by (with_reducible repeat (first | apply Kd.R_alloc | apply Kd.R_drewN | apply Kd.R_drew)); exact HO_696005.out) hb); have n12_ := Aside0.mk (Kd.R_below (by (with_reducible repeat (first | apply Kd.R_alloc | apply Kd.R_drewN | apply Kd.R_drew)); exact HO_696006.out) hb); have n13_ := Aside0.mk (Kd.R_lower (Kd.R_new' (Kd.R_new' (Kd.R_new' (Kd.R_new' (Kd.R_new' ho84 (Kd.R_lt (by (with_reducible repeat (first | apply Kd.R_alloc | apply Kd.R_drewN | apply Kd.R_drew)); exact HO_13.out))) (Kd.R_lt (by (with_reducible repeat (first | apply Kd.R_alloc | apply Kd.R_drewN | apply Kd.R_drew)); exact HO_688002.out))) (Kd.R_lt (by (with_reducible repeat (first | apply Kd.R_alloc | apply Kd.R_drewN | apply Kd.R_drew)); exact HO_688003.out))) (Kd.R_lt (by (with_reducible repeat (first | apply Kd.R_alloc | apply Kd.R_drewN | apply Kd.R_drew)); exact HO_696002.out))) (Kd.R_lt (by (with_reducible repeat (first | apply Kd.R_alloc | apply Kd.R_drewN | apply Kd.R_drew)); exact HO_696003.out))) (below_size (by repeat (first | (with_reducible first | exact HB.out | apply below_alloc | apply pw_below_drewN | apply below_drew1 | refine below_set ?_ GE687.out | refine below_set ?_ GE695.out) | exact HB.out)))); have n14_ := Aside0.mk (blk_below (g := gb687) (o := .cells #[.int .i64 t670, .int .i64 t671, .slice Ao22 t672.length co22, .slice Ao23 t675.length co23, .slice Ao24 t678.length co24, .slice Ao25 t681.length co25, .slice Ao26 t684.length co26] 30 (0, 0)) (by (with_reducible repeat (first | refine blk_drewN ?_ _ | refine blk_drew ?_ | refine blk_alloc ?_ _)); exact BK687.out) hb); have n15_ := Aside0.mk (blk_below (g := gb695) (o := .cells #[.int .i64 t670, .int .i64 t671, .slice Ao22 t672.length co22, u696003, .slice Ao24 t678.length co24, .slice Ao25 t681.length co25, .slice Ao26 t684.length co26] 30 (0, 0)) (by (with_reducible repeat (first | refine blk_drewN ?_ _ | refine blk_drew ?_ | refine blk_alloc ?_ _)); exact BK695.out) hb); have n16_ := Aside0.mk (below_step (by repeat (first | (with_reducible first | exact HB.out | apply below_alloc | apply pw_below_drewN | apply below_drew1 | refine below_set ?_ GE687.out | refine below_set ?_ GE695.out) | exact HB.out)) hb); clear HO_11; clear HO_13; clear HO_16; clear HO_688002; clear HO_688003; clear HO_688004; clear HO_688005; clear HO_688006; clear HO_696002; clear HO_696003; clear HO_696004; clear HO_696005; clear HO_696006; clear BK687; clear BK695; clear HB; have HO_11 := n0_; have HO_13 := n1_; have HO_16 := n2_; have HO_688002 := n3_; have HO_688003 := n4_; have HO_688004 := n5_; have HO_688005 := n6_; have HO_688006 := n7_; have HO_696002 := n8_; have HO_696003 := n9_; have HO_696004 := n10_; have HO_696005 := n11_; have HO_696006 := n12_; have HO712 := n13_; have BK687 := n14_; have BK695 := n15_; have HB := n16_; clear n0_ n1_ n2_ n3_ n4_ n5_ n6_ n7_ n8_ n9_ n10_ n11_ n12_ n13_ n14_ n15_ n16_; clear hb ho84; obtain ⟨Ao85, co85, eo85⟩ := Kd.R_slice HO712.out; subst eo85; have hcz86_0 : w83.cell? ⟨gb695, 0, none⟩ = some (.int .i64 t670) := (blk_cell BK695.out 0).trans rfl; have hcz86_1 : w83.cell? ⟨gb695, 1, none⟩ = some (.int .i64 t671) := (blk_cell BK695.out 1).trans rfl; have hcz86_2 : w83.cell? ⟨gb695, 2, none⟩ = some (.slice Ao22 t672.length co22) := (blk_cell BK695.out 2).trans rfl; have hcz86_3 : w83.cell? ⟨gb695, 3, none⟩ = some (u696003) := (blk_cell BK695.out 3).trans rfl; have hcz86_4 : w83.cell? ⟨gb695, 4, none⟩ = some (.slice Ao24 t678.length co24) := (blk_cell BK695.out 4).trans rfl; have hcz86_5 : w83.cell? ⟨gb695, 5, none⟩ = some (.slice Ao25 t681.length co25) := (blk_cell BK695.out 5).trans rfl; have hcz86_6 : w83.cell? ⟨gb695, 6, none⟩ = some (.slice Ao26 t684.length co26) := (blk_cell BK695.out 6).trans rfl; have hfz86_0 := blk_frozen BK695.out 0; have hfz86_1 := blk_frozen BK695.out 1; have hfz86_2 := blk_frozen BK695.out 2; have hfz86_3 := blk_frozen BK695.out 3; have hfz86_4 := blk_frozen BK695.out 4; have hfz86_5 := blk_frozen BK695.out 5; have hfz86_6 := blk_frozen BK695.out 6))
                  have n0_ : Aside0 (Kd.R k46 46 (w83.setCell ⟨gb695, 3, none⟩ (.slice Ao85 y710.length co85)) w.heap.size (fun _ => True) (.slice Ao18 t667.length co18) t667) := ⟨by (with_reducible repeat (first | apply Kd.R_alloc | apply Kd.R_drewN | apply Kd.R_drew)); exact Kd.R_mono (Kd.R_far (p := ⟨gb695, 3, none⟩) (Kd.R_types HO_11.out BK695.out (by decide)) (fun _ hk => hk.2) (.slice Ao85 y710.length co85)) (fun _ hk => trivial)⟩
                  have n1_ : Aside0 (Kd.R (Kd.int .i64) 3 (w83.setCell ⟨gb695, 3, none⟩ (.slice Ao85 y710.length co85)) w.heap.size (fun k_ => some k_ ≠ (.slice Ao22 t672.length co22 : Value).ownBlock ∧ some k_ ≠ (.slice Ao23 t675.length co23 : Value).ownBlock ∧ some k_ ≠ (.slice Ao22 t672.length co22 : Value).ownBlock ∧ some k_ ≠ (u696003 : Value).ownBlock ∧ some k_ ≠ (.slice Ao85 y710.length co85 : Value).ownBlock) (.slice Ao30 t691.length co30) t691) := ⟨by (with_reducible repeat (first | apply Kd.R_alloc | apply Kd.R_drewN | apply Kd.R_drew)); exact Kd.R_mono (Kd.R_far (p := ⟨gb695, 3, none⟩) (Kd.R_types HO_13.out BK695.out (by decide)) (fun _ hk => hk.2) (.slice Ao85 y710.length co85)) (fun _ hk => ⟨hk.1.1.1, ⟨hk.1.1.2.1, ⟨hk.1.1.2.2.1, ⟨hk.1.1.2.2.2, hk.1.2⟩⟩⟩⟩)⟩
                  have n2_ : Aside0 (Kd.R Kd.bool 4 (w83.setCell ⟨gb695, 3, none⟩ (.slice Ao85 y710.length co85)) w.heap.size (fun _ => True) v697 x16_2) := ⟨by (with_reducible repeat (first | apply Kd.R_alloc | apply Kd.R_drewN | apply Kd.R_drew)); exact Kd.R_mono (Kd.R_far (p := ⟨gb695, 3, none⟩) (Kd.R_types HO_16.out BK695.out (by decide)) (fun _ hk => hk.2) (.slice Ao85 y710.length co85)) (fun _ hk => trivial)⟩
                  have n3_ : Aside0 (Kd.R (Kd.int .i64) 3 (w83.setCell ⟨gb695, 3, none⟩ (.slice Ao85 y710.length co85)) w.heap.size (fun k_ => some k_ ≠ (.slice Ao30 t691.length co30 : Value).ownBlock ∧ some k_ ≠ (.slice Ao23 t675.length co23 : Value).ownBlock ∧ some k_ ≠ (u696003 : Value).ownBlock ∧ some k_ ≠ (.slice Ao85 y710.length co85 : Value).ownBlock) (.slice Ao22 t672.length co22) t672) := ⟨by (with_reducible repeat (first | apply Kd.R_alloc | apply Kd.R_drewN | apply Kd.R_drew)); exact Kd.R_mono (Kd.R_far (p := ⟨gb695, 3, none⟩) (Kd.R_types HO_688002.out BK695.out (by decide)) (fun _ hk => hk.2) (.slice Ao85 y710.length co85)) (fun _ hk => ⟨hk.1.1.1, ⟨hk.1.1.2.1, ⟨hk.1.1.2.2, hk.1.2⟩⟩⟩)⟩
                  have n4_ : Aside0 (Kd.R (Kd.int .i64) 3 (w83.setCell ⟨gb695, 3, none⟩ (.slice Ao85 y710.length co85)) w.heap.size (fun k_ => some k_ ≠ (.slice Ao30 t691.length co30 : Value).ownBlock ∧ some k_ ≠ (.slice Ao22 t672.length co22 : Value).ownBlock ∧ some k_ ≠ (.slice Ao22 t672.length co22 : Value).ownBlock ∧ some k_ ≠ (u696003 : Value).ownBlock ∧ some k_ ≠ (.slice Ao85 y710.length co85 : Value).ownBlock) (.slice Ao23 t675.length co23) t675) := ⟨by (with_reducible repeat (first | apply Kd.R_alloc | apply Kd.R_drewN | apply Kd.R_drew)); exact Kd.R_mono (Kd.R_far (p := ⟨gb695, 3, none⟩) (Kd.R_types HO_688003.out BK695.out (by decide)) (fun _ hk => hk.2) (.slice Ao85 y710.length co85)) (fun _ hk => ⟨hk.1.1.1, ⟨hk.1.1.2.1, ⟨hk.1.1.2.2.1, ⟨hk.1.1.2.2.2, hk.1.2⟩⟩⟩⟩)⟩
                  have n5_ : Aside0 (Kd.R k52 52 (w83.setCell ⟨gb695, 3, none⟩ (.slice Ao85 y710.length co85)) w.heap.size (fun _ => True) (.slice Ao24 t678.length co24) t678) := ⟨by (with_reducible repeat (first | apply Kd.R_alloc | apply Kd.R_drewN | apply Kd.R_drew)); exact Kd.R_mono (Kd.R_far (p := ⟨gb695, 3, none⟩) (Kd.R_types HO_688004.out BK695.out (by decide)) (fun _ hk => hk.2) (.slice Ao85 y710.length co85)) (fun _ hk => trivial)⟩
                  have n6_ : Aside0 (Kd.R k54 54 (w83.setCell ⟨gb695, 3, none⟩ (.slice Ao85 y710.length co85)) w.heap.size (fun _ => True) (.slice Ao25 t681.length co25) t681) := ⟨by (with_reducible repeat (first | apply Kd.R_alloc | apply Kd.R_drewN | apply Kd.R_drew)); exact Kd.R_mono (Kd.R_far (p := ⟨gb695, 3, none⟩) (Kd.R_types HO_688005.out BK695.out (by decide)) (fun _ hk => hk.2) (.slice Ao85 y710.length co85)) (fun _ hk => trivial)⟩
                  have n7_ : Aside0 (Kd.R k56 56 (w83.setCell ⟨gb695, 3, none⟩ (.slice Ao85 y710.length co85)) w.heap.size (fun _ => True) (.slice Ao26 t684.length co26) t684) := ⟨by (with_reducible repeat (first | apply Kd.R_alloc | apply Kd.R_drewN | apply Kd.R_drew)); exact Kd.R_mono (Kd.R_far (p := ⟨gb695, 3, none⟩) (Kd.R_types HO_688006.out BK695.out (by decide)) (fun _ hk => hk.2) (.slice Ao85 y710.length co85)) (fun _ hk => trivial)⟩
                  have n8_ : Aside0 (Kd.R (Kd.int .i64) 3 (w83.setCell ⟨gb695, 3, none⟩ (.slice Ao85 y710.length co85)) w.heap.size (fun k_ => some k_ ≠ (.slice Ao30 t691.length co30 : Value).ownBlock ∧ some k_ ≠ (.slice Ao23 t675.length co23 : Value).ownBlock ∧ some k_ ≠ (u696003 : Value).ownBlock ∧ some k_ ≠ (.slice Ao85 y710.length co85 : Value).ownBlock) (.slice Ao22 t672.length co22) t672) := ⟨by (with_reducible repeat (first | apply Kd.R_alloc | apply Kd.R_drewN | apply Kd.R_drew)); exact Kd.R_mono (Kd.R_far (p := ⟨gb695, 3, none⟩) (Kd.R_types HO_696002.out BK695.out (by decide)) (fun _ hk => hk.2) (.slice Ao85 y710.length co85)) (fun _ hk => ⟨hk.1.1.1, ⟨hk.1.1.2.1, ⟨hk.1.1.2.2, hk.1.2⟩⟩⟩)⟩
                  have n9_ : Aside0 (Kd.R (Kd.int .i64) 3 (w83.setCell ⟨gb695, 3, none⟩ (.slice Ao85 y710.length co85)) w.heap.size (fun k_ => some k_ ≠ (.slice Ao30 t691.length co30 : Value).ownBlock ∧ some k_ ≠ (.slice Ao22 t672.length co22 : Value).ownBlock ∧ some k_ ≠ (.slice Ao23 t675.length co23 : Value).ownBlock ∧ some k_ ≠ (.slice Ao22 t672.length co22 : Value).ownBlock ∧ some k_ ≠ (.slice Ao85 y710.length co85 : Value).ownBlock) u696003 x696003_3) := ⟨by (with_reducible repeat (first | apply Kd.R_alloc | apply Kd.R_drewN | apply Kd.R_drew)); exact Kd.R_mono (Kd.R_far (p := ⟨gb695, 3, none⟩) (Kd.R_types HO_696003.out BK695.out (by decide)) (fun _ hk => hk.2) (.slice Ao85 y710.length co85)) (fun _ hk => ⟨hk.1.1.1, ⟨hk.1.1.2.1, ⟨hk.1.1.2.2.1, ⟨hk.1.1.2.2.2, hk.1.2⟩⟩⟩⟩)⟩
                  have n10_ : Aside0 (Kd.R k52 52 (w83.setCell ⟨gb695, 3, none⟩ (.slice Ao85 y710.length co85)) w.heap.size (fun _ => True) (.slice Ao24 t678.length co24) t678) := ⟨by (with_reducible repeat (first | apply Kd.R_alloc | apply Kd.R_drewN | apply Kd.R_drew)); exact Kd.R_mono (Kd.R_far (p := ⟨gb695, 3, none⟩) (Kd.R_types HO_696004.out BK695.out (by decide)) (fun _ hk => hk.2) (.slice Ao85 y710.length co85)) (fun _ hk => trivial)⟩
                  have n11_ : Aside0 (Kd.R k54 54 (w83.setCell ⟨gb695, 3, none⟩ (.slice Ao85 y710.length co85)) w.heap.size (fun _ => True) (.slice Ao25 t681.length co25) t681) := ⟨by (with_reducible repeat (first | apply Kd.R_alloc | apply Kd.R_drewN | apply Kd.R_drew)); exact Kd.R_mono (Kd.R_far (p := ⟨gb695, 3, none⟩) (Kd.R_types HO_696005.out BK695.out (by decide)) (fun _ hk => hk.2) (.slice Ao85 y710.length co85)) (fun _ hk => trivial)⟩
                  have n12_ : Aside0 (Kd.R k56 56 (w83.setCell ⟨gb695, 3, none⟩ (.slice Ao85 y710.length co85)) w.heap.size (fun _ => True) (.slice Ao26 t684.length co26) t684) := ⟨by (with_reducible repeat (first | apply Kd.R_alloc | apply Kd.R_drewN | apply Kd.R_drew)); exact Kd.R_mono (Kd.R_far (p := ⟨gb695, 3, none⟩) (Kd.R_types HO_696006.out BK695.out (by decide)) (fun _ hk => hk.2) (.slice Ao85 y710.length co85)) (fun _ hk => trivial)⟩
                  have n13_ : Aside0 (Kd.R (Kd.int .i64) 3 (w83.setCell ⟨gb695, 3, none⟩ (.slice Ao85 y710.length co85)) w.heap.size (fun k_ => some k_ ≠ (.slice Ao30 t691.length co30 : Value).ownBlock ∧ some k_ ≠ (.slice Ao22 t672.length co22 : Value).ownBlock ∧ some k_ ≠ (.slice Ao23 t675.length co23 : Value).ownBlock ∧ some k_ ≠ (.slice Ao22 t672.length co22 : Value).ownBlock ∧ some k_ ≠ (u696003 : Value).ownBlock) (.slice Ao85 y710.length co85) y710) := ⟨by (with_reducible repeat (first | apply Kd.R_alloc | apply Kd.R_drewN | apply Kd.R_drew)); exact Kd.R_mono (Kd.R_far (p := ⟨gb695, 3, none⟩) (Kd.R_types HO712.out BK695.out (by decide)) (fun _ hk => hk.2) (.slice Ao85 y710.length co85)) (fun _ hk => ⟨hk.1.1.1.1.1.2, ⟨hk.1.1.1.1.2, ⟨hk.1.1.1.2, ⟨hk.1.1.2, hk.1.2⟩⟩⟩⟩)⟩
                  have n14_ : Aside0 ((w83.setCell ⟨gb695, 3, none⟩ (.slice Ao85 y710.length co85)).heap[gb687]? = some (.cells #[.int .i64 t670, .int .i64 t671, .slice Ao22 t672.length co22, .slice Ao23 t675.length co23, .slice Ao24 t678.length co24, .slice Ao25 t681.length co25, .slice Ao26 t684.length co26] 30 (0, 0))) := ⟨by (with_reducible repeat (first | refine blk_drewN ?_ _ | refine blk_drew ?_ | refine blk_alloc ?_ _)); refine blk_far ?_ NB687_695.out _; (with_reducible repeat (first | refine blk_drewN ?_ _ | refine blk_drew ?_ | refine blk_alloc ?_ _)); exact BK687.out⟩
                  have n15_ : Aside0 ((w83.setCell ⟨gb695, 3, none⟩ (.slice Ao85 y710.length co85)).heap[gb695]? = some (.cells #[.int .i64 t670, .int .i64 t671, .slice Ao22 t672.length co22, .slice Ao85 y710.length co85, .slice Ao24 t678.length co24, .slice Ao25 t681.length co25, .slice Ao26 t684.length co26] 30 (0, 0))) := ⟨by (with_reducible repeat (first | refine blk_drewN ?_ _ | refine blk_drew ?_ | refine blk_alloc ?_ _)); refine blk_put (cs := #[.int .i64 t670, .int .i64 t671, .slice Ao22 t672.length co22, u696003, .slice Ao24 t678.length co24, .slice Ao25 t681.length co25, .slice Ao26 t684.length co26]) ?_ 3 _ rfl; (with_reducible repeat (first | refine blk_drewN ?_ _ | refine blk_drew ?_ | refine blk_alloc ?_ _)); exact BK695.out⟩
                  have n16_ : Aside0 (Below w.heap.size w (w83.setCell ⟨gb695, 3, none⟩ (.slice Ao85 y710.length co85))) := ⟨by repeat (first | (with_reducible first | exact HB.out | apply below_alloc | apply pw_below_drewN | apply below_drew1 | refine below_set ?_ GE687.out | refine below_set ?_ GE695.out) | exact HB.out)⟩
                  (try clear HO_11)
                  (try clear HO_13)
                  (try clear HO_16)
                  (try clear HO_688002)
                  (try clear HO_688003)
                  (try clear HO_688004)
                  (try clear HO_688005)
                  (try clear HO_688006)
                  (try clear HO_696002)
                  (try clear HO_696003)
                  (try clear HO_696004)
                  (try clear HO_696005)
                  (try clear HO_696006)
                  (try clear HO712)
                  (try clear BK687)
                  (try clear BK695)
                  (try clear HB)
                  generalize (w83.setCell ⟨gb695, 3, none⟩ (.slice Ao85 y710.length co85)) = w87 at n0_ n1_ n2_ n3_ n4_ n5_ n6_ n7_ n8_ n9_ n10_ n11_ n12_ n13_ n14_ n15_ n16_ ⊢
                  have HO_11 := n0_
                  have HO_13 := n1_
                  have HO_16 := n2_
                  have HO_688002 := n3_
                  have HO_688003 := n4_
                  have HO_688004 := n5_
                  have HO_688005 := n6_
                  have HO_688006 := n7_
                  have HO_696002 := n8_
                  have HO_696003 := n9_
                  have HO_696004 := n10_
                  have HO_696005 := n11_
                  have HO_696006 := n12_
                  have HO712 := n13_
                  have BK687 := n14_
                  have BK695 := n15_
                  have HB := n16_
                  clear n0_ n1_ n2_ n3_ n4_ n5_ n6_ n7_ n8_ n9_ n10_ n11_ n12_ n13_ n14_ n15_ n16_
                  have n0_ := Aside0.mk (Kd.R_drew HO_11.out)
                  have n1_ := Aside0.mk (Kd.R_drew HO_13.out)
                  have n2_ := Aside0.mk (Kd.R_drew HO_16.out)
                  have n3_ := Aside0.mk (Kd.R_drew HO_688002.out)
                  have n4_ := Aside0.mk (Kd.R_drew HO_688003.out)
                  have n5_ := Aside0.mk (Kd.R_drew HO_688004.out)
                  have n6_ := Aside0.mk (Kd.R_drew HO_688005.out)
                  have n7_ := Aside0.mk (Kd.R_drew HO_688006.out)
                  have n8_ := Aside0.mk (Kd.R_drew HO_696002.out)
                  have n9_ := Aside0.mk (Kd.R_drew HO_696003.out)
                  have n10_ := Aside0.mk (Kd.R_drew HO_696004.out)
                  have n11_ := Aside0.mk (Kd.R_drew HO_696005.out)
                  have n12_ := Aside0.mk (Kd.R_drew HO_696006.out)
                  have n13_ := Aside0.mk (Kd.R_drew HO712.out)
                  have n14_ := Aside0.mk (blk_drew BK687.out)
                  have n15_ := Aside0.mk (blk_drew BK695.out)
                  have n16_ := Aside0.mk (below_drew1 HB.out)
                  clear HO_11
                  clear HO_13
                  clear HO_16
                  clear HO_688002
                  clear HO_688003
                  clear HO_688004
                  clear HO_688005
                  clear HO_688006
                  clear HO_696002
                  clear HO_696003
                  clear HO_696004
                  clear HO_696005
                  clear HO_696006
                  clear HO712
                  clear BK687
                  clear BK695
                  clear HB
                  have HO_11 := n0_
                  have HO_13 := n1_
                  have HO_16 := n2_
                  have HO_688002 := n3_
                  have HO_688003 := n4_
                  have HO_688004 := n5_
                  have HO_688005 := n6_
                  have HO_688006 := n7_
                  have HO_696002 := n8_
                  have HO_696003 := n9_
                  have HO_696004 := n10_
                  have HO_696005 := n11_
                  have HO_696006 := n12_
                  have HO712 := n13_
                  have BK687 := n14_
                  have BK695 := n15_
                  have HB := n16_
                  clear n0_ n1_ n2_ n3_ n4_ n5_ n6_ n7_ n8_ n9_ n10_ n11_ n12_ n13_ n14_ n15_ n16_
                  have q89 : (t694 : Int) ≤ ((t691.length : Int) : Int) := of_decide_eq_true (by first | (with_reducible assumption) | assumption)
                  obtain ⟨i089, hi089, _, hsz89, _⟩ := info_parts info3
                  have hroom89 : t691.length ≤ co30 := (Kd.R_reads' HO_13.out).2.1
                  have hC89 : Kd.C (Kd.int .i64) _ Ao30 t691.length t691 := (Kd.R_reads' HO_13.out).2.2
                  have hcut89 := cut_to (P := Try.prog) 22 3 .i64 Try.underlying22 hi089 Ao30 t691.length co30 t694 (of_decide_eq_true (by first | (with_reducible assumption) | assumption)) q89 hroom89
                  have hr89 := Kd.C_take (m := (t694 : Int).toNat) hC89 (by omega)
                  have hy89 : y713.length = (t694 : Int).toNat := (by rw [Ny713.out, List.length_take]; omega)
                  rw [← Ny713.out] at hr89
                  rw [← hy89] at hcut89
                  have HR716 := Aside0.mk hr89
                  have HC716 := Aside0.mk (show y713.length ≤ co30 from by omega)
                  clear hr89 hC89 hroom89 hi089 hsz89
                  have KY89 := Aside0.mk hy89
                  clear hy89
                  have KL89 := Aside0.mk (show (t694 : Int).toNat ≤ t691.length from by omega)
                  replace q89 := eq_true q89
                  obtain ⟨Ao90, co90, eo90⟩ := Kd.R_slice HO_16.out
                  (first | subst eo90 | (injection eo90 with f1_ f2_ f3_; have f4_ := f1_.symm; have f5_ := f3_.symm; clear f1_ f2_ f3_; subst f4_; subst f5_))
                  have p718 : 0 ≤ (x20_3 : Int) := of_decide_eq_true (by first | (with_reducible assumption) | assumption)
                  have q718 : x20_3 < (x16_2.length : Int) := of_decide_eq_true (by first | (with_reducible assumption) | assumption)
                  obtain ⟨ad718, e718, hx718_0⟩ := Kd.at_bool (Kd.R_reads' HO_16.out).2.2 x20_3 p718 q718
                  cases e718
                  replace p718 := eq_true p718
                  replace q718 := eq_true q718
                  refine start_ (n := 11) (S := fun w' => w'.cell? ⟨gb695, 0, none⟩ = some (.int .i64 t670) ∧ w'.cell? ⟨gb695, 1, none⟩ = some (.int .i64 t671) ∧ w'.cell? ⟨gb695, 2, none⟩ = some (.slice Ao22 t672.length co22) ∧ w'.cell? ⟨gb695, 3, none⟩ = some (.slice Ao85 y710.length co85) ∧ w'.cell? ⟨gb695, 4, none⟩ = some (.slice Ao24 t678.length co24) ∧ w'.cell? ⟨gb695, 5, none⟩ = some (.slice Ao25 t681.length co25) ∧ w'.cell? ⟨gb695, 6, none⟩ = some (.slice Ao26 t684.length co26) ∧ w'.cell? (ad718.add (x20_3).toNat) = some (.bool (rdOf false x16_2 x20_3))) (ds := []) #[false, false, false, false, false, false, false, false, false, false, false] (by kernel_rfl) rfl rfl ⟨(blk_cell BK695.out 0).trans rfl, (blk_cell BK695.out 1).trans rfl, (blk_cell BK695.out 2).trans rfl, (blk_cell BK695.out 3).trans rfl, (blk_cell BK695.out 4).trans rfl, (blk_cell BK695.out 5).trans rfl, (blk_cell BK695.out 6).trans rfl, hx718_0⟩ (fun hHeld => ?_); refine with_tabW canopylaw4_RunsParts.tab25 canopylaw4_RunsParts.bits25 (fun HT_ HW_ => ?_)
                  generalize w87.drew = w88 at HO_11 HO_13 HO_16 HO_688002 HO_688003 HO_688004 HO_688005 HO_688006 HO_696002 HO_696003 HO_696004 HO_696005 HO_696006 HO712 BK687 BK695 HB HR716 hx718_0 hHeld ⊢
                  refine pure_ (i := 0) (N := some 98) (v := ?_) (a' := ?_) #[true, false, false, false, false, false, false, false, false, false, false] rfl rfl (any_of HT_.out (by kernel_rfl)) (fun _ _ _ h => h) (Or.inl ⟨by rfl, ?_⟩) ?_ ?_
                  rotate_left
                  ·intro w'
                   go_simp
                   with_reducible rfl
                  rotate_left
                  ·simp only [Act.put, List.setIfInBounds_toArray, List.set_cons_zero, List.set_cons_succ, i64_w, i32_w]
                   rfl
                  refine pure_ (i := 2) (N := some 100) (v := ?_) (a' := ?_) #[true, false, true, false, false, false, false, false, false, false, false] rfl rfl (any_of HT_.out (by kernel_rfl)) (fun _ _ _ h => h) (Or.inl ⟨by rfl, ?_⟩) ?_ ?_
                  rotate_left
                  ·intro w'
                   go_simp
                   with_reducible rfl
                  rotate_left
                  ·simp only [Act.put, List.setIfInBounds_toArray, List.set_cons_zero, List.set_cons_succ, i64_w, i32_w]
                   rfl
                  refine pure_ (i := 3) (N := some 101) (v := ?_) (a' := ?_) #[true, false, true, true, false, false, false, false, false, false, false] rfl rfl (any_of HT_.out (by kernel_rfl)) (fun _ _ _ h => h) (Or.inl ⟨by rfl, ?_⟩) ?_ ?_
                  rotate_left
                  ·intro w'
                   go_simp
                   with_reducible rfl
                  rotate_left
                  ·simp only [Act.put, List.setIfInBounds_toArray, List.set_cons_zero, List.set_cons_succ, i64_w, i32_w]
                   rfl
                  refine pure_ (i := 4) (N := some 102) (v := ?_) (a' := ?_) #[true, false, true, true, true, false, false, false, false, false, false] rfl rfl (any_of HT_.out (by kernel_rfl)) (fun _ _ _ h => h) (Or.inl ⟨by rfl, ?_⟩) ?_ ?_
                  rotate_left
                  ·intro w'
                   go_simp
                   with_reducible rfl
                  rotate_left
                  ·simp only [Act.put, List.setIfInBounds_toArray, List.set_cons_zero, List.set_cons_succ, i64_w, i32_w]
                   rfl
                  refine pure_ (i := 6) (N := some 104) (v := ?_) (a' := ?_) #[true, false, true, true, true, false, true, false, false, false, false] rfl rfl (any_of HT_.out (by kernel_rfl)) (fun _ _ _ h => h) (Or.inl ⟨by rfl, ?_⟩) ?_ ?_
                  rotate_left
                  ·intro w'
                   go_simp
                   with_reducible rfl
                  rotate_left
                  ·simp only [Act.put, List.setIfInBounds_toArray, List.set_cons_zero, List.set_cons_succ, i64_w, i32_w]
                   rfl
                  refine pure_ (i := 7) (N := some 105) (v := ?_) (a' := ?_) #[true, false, true, true, true, false, true, true, false, false, false] rfl rfl (any_of HT_.out (by kernel_rfl)) (fun _ _ _ h => h) (Or.inl ⟨by rfl, ?_⟩) ?_ ?_
                  rotate_left
                  ·intro w'
                   go_simp
                   with_reducible rfl
                  rotate_left
                  ·simp only [Act.put, List.setIfInBounds_toArray, List.set_cons_zero, List.set_cons_succ, i64_w, i32_w]
                   rfl
                  refine pure_ (i := 8) (N := some 106) (v := ?_) (a' := ?_) #[true, false, true, true, true, false, true, true, true, false, false] rfl rfl (any_of HT_.out (by kernel_rfl)) (fun _ _ _ h => h) (Or.inl ⟨by rfl, ?_⟩) ?_ ?_
                  rotate_left
                  ·intro w'
                   go_simp
                   with_reducible rfl
                  rotate_left
                  ·simp only [Act.put, List.setIfInBounds_toArray, List.set_cons_zero, List.set_cons_succ, i64_w, i32_w]
                   rfl
                  refine take_ (i := 1) (N := some 99) (v := ?_) (a' := ?_) #[true, true, true, true, true, false, true, true, true, false, false] rfl rfl (take_ofW HT_.out HW_.out (by kernel_rfl)) (fun _ _ _ h => h) (Or.inl ⟨by rfl, ?_⟩) hHeld ?_ ?_
                  rotate_left
                  ·rintro w' ⟨s0, s1, s2, s3, s4, s5, s6, s7⟩
                   go_simp
                   with_reducible rfl
                  rotate_left
                  ·simp only [Act.put, List.setIfInBounds_toArray, List.set_cons_zero, List.set_cons_succ, i64_w, i32_w]
                   rfl
                  refine take_ (i := 9) (N := some 107) (v := ?_) (a' := ?_) #[true, true, true, true, true, false, true, true, true, true, false] rfl rfl (take_ofW HT_.out HW_.out (by kernel_rfl)) (fun _ _ _ h => h) (Or.inl ⟨by rfl, ?_⟩) hHeld ?_ ?_
                  rotate_left
                  ·rintro w' ⟨s0, s1, s2, s3, s4, s5, s6, s7⟩
                   go_simp
                   with_reducible rfl
                  rotate_left
                  ·simp only [Act.put, List.setIfInBounds_toArray, List.set_cons_zero, List.set_cons_succ, i64_w, i32_w]
                   rfl
                  refine one_ (i := 5) (N := some 103) #[true, true, true, true, true, true, true, true, true, true, false] rfl rfl (one_of HT_.out (by kernel_rfl)) (by decide) (fun K hK => ?_)
                  refine goes_ Try.func23 (by kernel_rfl) rfl #[.slice Ao18 t667.length co18, .agg #[.int .i64 t670, .int .i64 t671, .slice Ao22 t672.length co22, .slice Ao85 y710.length co85, .slice Ao24 t678.length co24, .slice Ao25 t681.length co25, .slice Ao26 t684.length co26], .slice Ao30 y713.length co30] (by rfl) rfl rfl (by (try simp only [List.map_toArray, List.map_cons, List.map_nil]); first | done | rfl | (simp only [List.length_drop, List.length_take]; rfl)) ?_
                  with_reducible refine (runs_Takes.calls _ _ t667 t670 t671 _ _ t672 _ _ y710 _ _ t678 _ _ t681 _ _ t684 _ _ y713 t717 _ ?side1 ?side2 ?side3 ?side4 ?side5 ?side6 ?side7 ?side8 ?side9 ?side10 ?side11 ?side12 ?side13 ?side14 A66.out).mono ?_
                  (case side1 => repeat (first | exact (Kd.R_reads' HO_11.out).2.2 | (with_reducible refine Kd.C_alloc ?_ _) | (with_reducible refine Kd.C_drewN ?_ _) | (with_reducible refine Kd.C_drew ?_)))
                  (case side2 => exact (Kd.R_reads' HO_11.out).2.1)
                  (case side3 => repeat (first | exact (Kd.R_reads' HO_696002.out).2.2 | (with_reducible refine Kd.C_alloc ?_ _) | (with_reducible refine Kd.C_drewN ?_ _) | (with_reducible refine Kd.C_drew ?_)))
                  (case side4 => exact (Kd.R_reads' HO_696002.out).2.1)
                  (case side5 => repeat (first | exact (Kd.R_reads' HO712.out).2.2 | (with_reducible refine Kd.C_alloc ?_ _) | (with_reducible refine Kd.C_drewN ?_ _) | (with_reducible refine Kd.C_drew ?_)))
                  (case side6 => exact (Kd.R_reads' HO712.out).2.1)
                  (case side7 => repeat (first | exact (Kd.R_reads' HO_696004.out).2.2 | (with_reducible refine Kd.C_alloc ?_ _) | (with_reducible refine Kd.C_drewN ?_ _) | (with_reducible refine Kd.C_drew ?_)))
                  (case side8 => exact (Kd.R_reads' HO_696004.out).2.1)
                  (case side9 => repeat (first | exact (Kd.R_reads' HO_696005.out).2.2 | (with_reducible refine Kd.C_alloc ?_ _) | (with_reducible refine Kd.C_drewN ?_ _) | (with_reducible refine Kd.C_drew ?_)))
                  (case side10 => exact (Kd.R_reads' HO_696005.out).2.1)
                  (case side11 => repeat (first | exact (Kd.R_reads' HO_696006.out).2.2 | (with_reducible refine Kd.C_alloc ?_ _) | (with_reducible refine Kd.C_drewN ?_ _) | (with_reducible refine Kd.C_drew ?_)))
                  (case side12 => exact (Kd.R_reads' HO_696006.out).2.1)
                  (case side13 => repeat (first | exact (by repeat (first | (with_reducible exact HR716.out) | (with_reducible refine Kd.C_alloc ?_ _) | (with_reducible refine Kd.C_drewN ?_ _) | (with_reducible refine Kd.C_drew ?_) | exact HR716.out)) | (with_reducible refine Kd.C_alloc ?_ _) | (with_reducible refine Kd.C_drewN ?_ _) | (with_reducible refine Kd.C_drew ?_)))
                  (case side14 => exact HC716.out)
                  rintro e w91 ⟨rfl, hb⟩
                  have HS7_ := (hb.cell (World.block_lt_of_cell? _ _ (hHeld.2.2.2.2.2.2.2))).trans (hHeld.2.2.2.2.2.2.2)
                  refine ⟨_, rfl, ?_⟩
                  have n0_ := Aside0.mk (Kd.R_below (by (with_reducible repeat (first | apply Kd.R_alloc | apply Kd.R_drewN | apply Kd.R_drew)); exact HO_11.out) hb)
                  have n1_ := Aside0.mk (Kd.R_below (by (with_reducible repeat (first | apply Kd.R_alloc | apply Kd.R_drewN | apply Kd.R_drew)); exact HO_13.out) hb)
                  have n2_ := Aside0.mk (Kd.R_below (by (with_reducible repeat (first | apply Kd.R_alloc | apply Kd.R_drewN | apply Kd.R_drew)); exact HO_16.out) hb)
                  have n3_ := Aside0.mk (Kd.R_below (by (with_reducible repeat (first | apply Kd.R_alloc | apply Kd.R_drewN | apply Kd.R_drew)); exact HO_688002.out) hb)
                  have n4_ := Aside0.mk (Kd.R_below (by (with_reducible repeat (first | apply Kd.R_alloc | apply Kd.R_drewN | apply Kd.R_drew)); exact HO_688003.out) hb)
                  have n5_ := Aside0.mk (Kd.R_below (by (with_reducible repeat (first | apply Kd.R_alloc | apply Kd.R_drewN | apply Kd.R_drew)); exact HO_688004.out) hb)
                  have n6_ := Aside0.mk (Kd.R_below (by (with_reducible repeat (first | apply Kd.R_alloc | apply Kd.R_drewN | apply Kd.R_drew)); exact HO_688005.out) hb)
                  have n7_ := Aside0.mk (Kd.R_below (by (with_reducible repeat (first | apply Kd.R_alloc | apply Kd.R_drewN | apply Kd.R_drew)); exact HO_688006.out) hb)
                  have n8_ := Aside0.mk (Kd.R_below (by (with_reducible repeat (first | apply Kd.R_alloc | apply Kd.R_drewN | apply Kd.R_drew)); exact HO_696002.out) hb)
                  have n9_ := Aside0.mk (Kd.R_below (by (with_reducible repeat (first | apply Kd.R_alloc | apply Kd.R_drewN | apply Kd.R_drew)); exact HO_696003.out) hb)
                  have n10_ := Aside0.mk (Kd.R_below (by (with_reducible repeat (first | apply Kd.R_alloc | apply Kd.R_drewN | apply Kd.R_drew)); exact HO_696004.out) hb)
                  have n11_ := Aside0.mk (Kd.R_below (by (with_reducible repeat (first | apply Kd.R_alloc | apply Kd.R_drewN | apply Kd.R_drew)); exact HO_696005.out) hb)
                  have n12_ := Aside0.mk (Kd.R_below (by (with_reducible repeat (first | apply Kd.R_alloc | apply Kd.R_drewN | apply Kd.R_drew)); exact HO_696006.out) hb)
                  have n13_ := Aside0.mk (Kd.R_below (by (with_reducible repeat (first | apply Kd.R_alloc | apply Kd.R_drewN | apply Kd.R_drew)); exact HO712.out) hb)
                  have n14_ := Aside0.mk (blk_below (g := gb687) (o := .cells #[.int .i64 t670, .int .i64 t671, .slice Ao22 t672.length co22, .slice Ao23 t675.length co23, .slice Ao24 t678.length co24, .slice Ao25 t681.length co25, .slice Ao26 t684.length co26] 30 (0, 0)) (by (with_reducible repeat (first | refine blk_drewN ?_ _ | refine blk_drew ?_ | refine blk_alloc ?_ _)); exact BK687.out) hb)
                  have n15_ := Aside0.mk (blk_below (g := gb695) (o := .cells #[.int .i64 t670, .int .i64 t671, .slice Ao22 t672.length co22, .slice Ao85 y710.length co85, .slice Ao24 t678.length co24, .slice Ao25 t681.length co25, .slice Ao26 t684.length co26] 30 (0, 0)) (by (with_reducible repeat (first | refine blk_drewN ?_ _ | refine blk_drew ?_ | refine blk_alloc ?_ _)); exact BK695.out) hb)
                  have n16_ := Aside0.mk (Kd.C_below (by repeat (first | (with_reducible exact HR716.out) | (with_reducible refine Kd.C_alloc ?_ _) | (with_reducible refine Kd.C_drewN ?_ _) | (with_reducible refine Kd.C_drew ?_) | exact HR716.out)) hb)
                  have n17_ := Aside0.mk (below_step (by repeat (first | (with_reducible first | exact HB.out | apply below_alloc | apply pw_below_drewN | apply below_drew1 | refine below_set ?_ GE687.out | refine below_set ?_ GE695.out) | exact HB.out)) hb)
                  clear HO_11
                  clear HO_13
                  clear HO_16
                  clear HO_688002
                  clear HO_688003
                  clear HO_688004
                  clear HO_688005
                  clear HO_688006
                  clear HO_696002
                  clear HO_696003
                  clear HO_696004
                  clear HO_696005
                  clear HO_696006
                  clear HO712
                  clear BK687
                  clear BK695
                  clear HR716
                  clear HB
                  have HO_11 := n0_
                  have HO_13 := n1_
                  have HO_16 := n2_
                  have HO_688002 := n3_
                  have HO_688003 := n4_
                  have HO_688004 := n5_
                  have HO_688005 := n6_
                  have HO_688006 := n7_
                  have HO_696002 := n8_
                  have HO_696003 := n9_
                  have HO_696004 := n10_
                  have HO_696005 := n11_
                  have HO_696006 := n12_
                  have HO712 := n13_
                  have BK687 := n14_
                  have BK695 := n15_
                  have HR716 := n16_
                  have HB := n17_
                  clear n0_ n1_ n2_ n3_ n4_ n5_ n6_ n7_ n8_ n9_ n10_ n11_ n12_ n13_ n14_ n15_ n16_ n17_
                  (try clear hb)
                  (try clear hb2)
                  (try clear hk)
                  (try clear hi)
                  refine hK.out _ _ ⟨(blk_cell BK695.out 0).trans rfl, (blk_cell BK695.out 1).trans rfl, (blk_cell BK695.out 2).trans rfl, (blk_cell BK695.out 3).trans rfl, (blk_cell BK695.out 4).trans rfl, (blk_cell BK695.out 5).trans rfl, (blk_cell BK695.out 6).trans rfl, HS7_⟩ (fun hHeld => ?_)
                  clear hK K
                  refine norm_ (a' := ?_) ?_ ?_
                  rotate_left
                  ·show Act.put _ (some 103) _ = _
                   simp only [Act.put, List.setIfInBounds_toArray, List.set_cons_zero, List.set_cons_succ, i64_w, i32_w]
                   rfl
                  refine pure_ (i := 10) (N := some 108) (v := ?_) (a' := ?_) #[true, true, true, true, true, true, true, true, true, true, true] rfl rfl (any_of HT_.out (by kernel_rfl)) (fun _ _ _ h => h) (Or.inl ⟨by rfl, ?_⟩) ?_ ?_
                  rotate_left
                  ·intro w'
                   go_simp
                   with_reducible rfl
                  rotate_left
                  ·simp only [Act.put, List.setIfInBounds_toArray, List.set_cons_zero, List.set_cons_succ, i64_w, i32_w]
                   rfl
                  refine done_ (done_of HT_.out (by kernel_rfl)) ?_
                  try go_wp2
                  go_roundg k3
                  case measure => have := HK1.out; have := HK2.out; have := HK3.out; omega
                  case rel => exact ⟨(wrap64 (x20_3 + 1)), (y710), (.slice Ao85 y710.length co85), (by first | rfl | (simp; done) | (simp [*]; done)), H', ⟨by have := HK1.out; have := HK2.out; have := HK3.out; omega⟩, ⟨by (with_reducible repeat (first | apply Kd.R_alloc | apply Kd.R_drewN | apply Kd.R_drew)); exact HO_11.out⟩, ⟨by (with_reducible repeat (first | apply Kd.R_alloc | apply Kd.R_drewN | apply Kd.R_drew)); exact Kd.R_mono HO_13.out (fun _ hk => ⟨hk.1, ⟨hk.2.1, ⟨hk.2.2.1, hk.2.2.2.2⟩⟩⟩)⟩, ⟨by (with_reducible repeat (first | apply Kd.R_alloc | apply Kd.R_drewN | apply Kd.R_drew)); exact HO_16.out⟩, ⟨by (with_reducible repeat (first | apply Kd.R_alloc | apply Kd.R_drewN | apply Kd.R_drew)); exact Kd.R_mono HO_688002.out (fun _ hk => ⟨hk.1, ⟨hk.2.1, hk.2.2.2⟩⟩)⟩, ⟨by (with_reducible repeat (first | apply Kd.R_alloc | apply Kd.R_drewN | apply Kd.R_drew)); exact Kd.R_mono HO_688003.out (fun _ hk => ⟨hk.1, ⟨hk.2.1, ⟨hk.2.2.1, hk.2.2.2.2⟩⟩⟩)⟩, ⟨by (with_reducible repeat (first | apply Kd.R_alloc | apply Kd.R_drewN | apply Kd.R_drew)); exact HO_688004.out⟩, ⟨by (with_reducible repeat (first | apply Kd.R_alloc | apply Kd.R_drewN | apply Kd.R_drew)); exact HO_688005.out⟩, ⟨by (with_reducible repeat (first | apply Kd.R_alloc | apply Kd.R_drewN | apply Kd.R_drew)); exact HO_688006.out⟩, ⟨by (with_reducible repeat (first | apply Kd.R_alloc | apply Kd.R_drewN | apply Kd.R_drew)); exact Kd.R_mono HO_696002.out (fun _ hk => ⟨hk.1, ⟨hk.2.1, hk.2.2.2⟩⟩)⟩, ⟨by (with_reducible repeat (first | apply Kd.R_alloc | apply Kd.R_drewN | apply Kd.R_drew)); exact Kd.R_mono HO712.out (fun _ hk => ⟨hk.1, ⟨hk.2.1, ⟨hk.2.2.1, hk.2.2.2.1⟩⟩⟩)⟩, ⟨by (with_reducible repeat (first | apply Kd.R_alloc | apply Kd.R_drewN | apply Kd.R_drew)); exact HO_696004.out⟩, ⟨by (with_reducible repeat (first | apply Kd.R_alloc | apply Kd.R_drewN | apply Kd.R_drew)); exact HO_696005.out⟩, ⟨by (with_reducible repeat (first | apply Kd.R_alloc | apply Kd.R_drewN | apply Kd.R_drew)); exact HO_696006.out⟩, ⟨by (with_reducible repeat (first | refine blk_drewN ?_ _ | refine blk_drew ?_ | refine blk_alloc ?_ _)); exact BK687.out⟩, ⟨by (with_reducible repeat (first | refine blk_drewN ?_ _ | refine blk_drew ?_ | refine blk_alloc ?_ _)); exact BK695.out⟩, ⟨by repeat (first | (with_reducible first | exact HB.out | apply below_alloc | apply pw_below_drewN | apply below_drew1 | refine below_set ?_ GE687.out | refine below_set ?_ GE695.out) | exact HB.out)⟩⟩
                ·rw [if_neg c68] at H
                 exact absurd H (by simp)
               ·rw [if_neg c67] at H
                exact absurd H (by simp)
              ·rw [if_neg c65] at H
               exact absurd H (by simp)
             ·rw [if_neg c64] at H
              exact absurd H (by simp)
            ·rw [if_neg c63] at H
             have c63b0 : decide (x20_3 < t670) = false := decide_eq_false c63
             clear c63
             obtain rfl := Option.some.inj H
             have hnb92 := NB687_695.out
             have hnc92 := NB695_687.out
             have hcz93_0 : wr.cell? ⟨gb687, 0, none⟩ = some (.int .i64 t670) := (blk_cell BK687.out 0).trans rfl
             have hcz93_1 : wr.cell? ⟨gb687, 1, none⟩ = some (.int .i64 t671) := (blk_cell BK687.out 1).trans rfl
             have hcz93_2 : wr.cell? ⟨gb687, 2, none⟩ = some (.slice Ao22 t672.length co22) := (blk_cell BK687.out 2).trans rfl
             have hcz93_3 : wr.cell? ⟨gb687, 3, none⟩ = some (.slice Ao23 t675.length co23) := (blk_cell BK687.out 3).trans rfl
             have hcz93_4 : wr.cell? ⟨gb687, 4, none⟩ = some (.slice Ao24 t678.length co24) := (blk_cell BK687.out 4).trans rfl
             have hcz93_5 : wr.cell? ⟨gb687, 5, none⟩ = some (.slice Ao25 t681.length co25) := (blk_cell BK687.out 5).trans rfl
             have hcz93_6 : wr.cell? ⟨gb687, 6, none⟩ = some (.slice Ao26 t684.length co26) := (blk_cell BK687.out 6).trans rfl
             have hfz93_0 := blk_frozen BK687.out 0
             have hfz93_1 := blk_frozen BK687.out 1
             have hfz93_2 := blk_frozen BK687.out 2
             have hfz93_3 := blk_frozen BK687.out 3
             have hfz93_4 := blk_frozen BK687.out 4
             have hfz93_5 := blk_frozen BK687.out 5
             have hfz93_6 := blk_frozen BK687.out 6
             go_wp2
             go_ret
             exact ⟨by first | rfl | (simp [errW_none, errW_some] <;> rfl) | (simp [*, errW_none, errW_some] <;> rfl), by repeat (first | (with_reducible first | exact HB.out | apply below_alloc | apply pw_below_drewN | apply below_drew1 | refine below_set ?_ GE687.out | refine below_set ?_ GE695.out) | exact HB.out)⟩
   ·rw [if_neg c14] at H
    exact absurd H (by simp)
  ·rw [if_neg c13] at H
   exact absurd H (by simp)
 ·replace c7 := Bool.eq_false_iff.mpr c7
  subst c7
  have H1 : (some false) = some r := by rw [if_neg (show ¬ (false = true) by decide)] at H; exact H
  clear H
  have H := H1
  clear H1
  obtain rfl := Option.some.inj H
  go_enter Try.func9, Try.ntmps9
  go_wp2_with (first | ((with_reducible refine gate_callee (f := 12) rfl ?_); refine goesL_ (some 21) rfl rfl Try.func12 (by kernel_rfl) rfl #[] rfl (by (try simp only [List.map_toArray, List.map_cons, List.map_nil]); first | done | rfl | (simp only [List.length_drop, List.length_take]; rfl)) ?_; (with_reducible refine (canopylaw4_known.calls  false _ A6.out).mono ?_); rintro e w94 ⟨rfl, hb⟩; refine ⟨_, rfl, ?_⟩; have n0_ := Aside0.mk (below_step (by repeat (first | (with_reducible first | exact HB.out | apply below_alloc | apply pw_below_drewN | apply below_drew1) | exact HB.out)) hb); clear HB; have HB := n0_; clear n0_; (try clear hb); (try clear hb2); (try clear hk); (try clear hi)))
  go_ret
  exact ⟨by first | rfl | (simp [errW_none, errW_some] <;> rfl) | (simp [*, errW_none, errW_some] <;> rfl), by repeat (first | (with_reducible first | exact HB.out | apply below_alloc | apply pw_below_drewN | apply below_drew1) | exact HB.out)⟩

/-- THE ONE PURE STATEMENT of canopylaw4_RunsParts: yours. -/
def canopylaw4_RunsParts.Pure : Prop := ∀ (a0 : Int) (a1 : Int) (l2 : List Int) (l3 : List Int) (a4 : Int), (Lit.int .i64 a0).wf = true → (Lit.int .i64 a1).wf = true → l2.length ≤ maxLen → l2.length * 8 ≤ 140737488351232 → (∀ x ∈ l2, (Lit.int .i64 x).wf = true) → l3.length ≤ maxLen → l3.length * 8 ≤ 140737488351232 → (∀ x ∈ l3, (Lit.int .i64 x).wf = true) → (Lit.int .i64 a4).wf = true → ∃ k, canopylaw4_RunsParts.f k a0 a1 l2 l3 a4 = some true
theorem canopylaw4_RunsParts.walk (P : canopylaw4_RunsParts.Pure) (a0 : Int) (a1 : Int) (a2 : Option Addr) (len2 cap2 : Nat) (z2 : List Int) (a3 : Option Addr) (len3 cap3 : Nat) (z3 : List Int) (a4 : Int) (w : World) (w0 : (Lit.int .i64 a0).wf = true) (w1 : (Lit.int .i64 a1).wf = true) (w2 : (a2 = none ∧ len2 = 0 ∧ cap2 = 0 ∧ z2 = []) ∨ ∃ x, a2 = some x ∧ len2 ≤ cap2 ∧ cap2 ≤ maxLen ∧ z2.length = cap2 ∧ (∀ i, i < z2.length → w.cell? (x.add i) = some (.int .i64 (z2.getD i 0))) ∧ ∀ n ∈ z2, (Lit.int .i64 n).wf = true) (y2 : len2 * 8 ≤ 140737488351232) (w3 : (a3 = none ∧ len3 = 0 ∧ cap3 = 0 ∧ z3 = []) ∨ ∃ x, a3 = some x ∧ len3 ≤ cap3 ∧ cap3 ≤ maxLen ∧ z3.length = cap3 ∧ (∀ i, i < z3.length → w.cell? (x.add i) = some (.int .i64 (z3.getD i 0))) ∧ ∀ n ∈ z3, (Lit.int .i64 n).wf = true) (y3 : len3 * 8 ≤ 140737488351232) (w4 : (Lit.int .i64 a4).wf = true) :
  Calls Try.prog 9 #[.int .i64 a0, .int .i64 a1, .slice a2 len2 cap2, .slice a3 len3 cap3, .int .i64 a4] w fun e w' => e = .returned (.bool true) ∧ Below w.heap.size w w' := by
 obtain ⟨l2, rfl, hr2, hm2, hw2, hc2⟩ := ReadsInt.ofRowC w2
 obtain ⟨l3, rfl, hr3, hm3, hw3, hc3⟩ := ReadsInt.ofRowC w3
 obtain ⟨k, h⟩ := P a0 a1 l2 l3 a4 w0 w1 hm2 y2 hw2 hm3 y3 hw3 w4
 refine (canopylaw4_RunsParts.calls k a0 a1 _ _ l2 _ _ l3 a4 true w (Kd.C_of_reads (d := (0 : Int)) (h1 := fun _ => rfl) hr2) hc2 (Kd.C_of_reads (d := (0 : Int)) (h1 := fun _ => rfl) hr3) hc3 h).mono ?_
 rintro e w' ⟨rfl, hd⟩
 exact ⟨rfl, hd⟩

end Go.Proofs.Ytjkhdldgmkkhjaa.P
