-- Written by wip/tools/prn.py (a program of this claim's author), which runs the kit's printer: not by hand.
import Derived.Test.YtjkhdldgmkkhjaaP0
import Derived.Test.YtjkhdldgmkkhjaaPCanopylaw3Within
import Derived.Test.YtjkhdldgmkkhjaaPCanopylaw3Pick
namespace Go.Proofs.Ytjkhdldgmkkhjaa.P
open Go.RowKit Go.Proofs.YtjkhdldgmkkhjaaW.PrintWords Go.Proofs.YtjkhdldgmkkhjaaW.PrintLast Go.Proofs.YtjkhdldgmkkhjaaW.PrintMore
attribute [local go_sem] max2_int min2_int max_two min_two max_three min_three max_four min_four   -- for this text's walks alone
set_option linter.unusedVariables false
set_option linter.unusedSimpArgs false

abbrev bz0 : Array Bool := #[false, false, false, false, false, false, false, false, false, false, false, false, false, false, false, false]
abbrev bz1 : Array Bool := #[true, false, false, false, false, false, false, false, false, false, false, false, false, false, false, false]
abbrev bz2 : Array Bool := #[true, false, true, false, false, false, false, false, false, false, false, false, false, false, false, false]
abbrev bz3 : Array Bool := #[true, false, true, true, false, false, false, false, false, false, false, false, false, false, false, false]
abbrev bz4 : Array Bool := #[true, false, true, true, true, false, false, false, false, false, false, false, false, false, false, false]
abbrev bz5 : Array Bool := #[true, false, true, true, true, true, false, false, false, false, false, false, false, false, false, false]
abbrev bz6 : Array Bool := #[true, false, true, true, true, true, true, false, false, false, false, false, false, false, false, false]
abbrev bz7 : Array Bool := #[true, true, true, true, true, true, true, true, true, true, true, false, false, false, false, false]
abbrev bz8 : Array Bool := #[true, true, true, true, true, true, true, true, true, true, true, true, false, false, false, false]
abbrev bz9 : Array Bool := #[true, true, true, true, true, true, true, true, true, true, true, true, true, false, false, false]
abbrev bz10 : Array Bool := #[true, true, true, true, true, true, true, true, true, true, true, true, true, true, false, false]
abbrev bz11 : Array Bool := #[true, true, true, true, true, true, true, true, true, true, true, true, true, true, true, false]
abbrev bz12 : Array Bool := #[true, true, true, true, true, true, true, true, true, true, true, true, true, true, true, true]
/-! ### canopylaw3_Make: function 14 -/
mutual
def canopylaw3_Make.l0 : Nat → List (S46) → List Int → Int → Int → Int → List Int → List Int → List (S52) → List (S54) → List (S56) → Option (Int × Int × List Int × List Int × (List (S52)) × (List (S54)) × (List (S56)))
 | 0, _, _, _, _, _, _, _, _, _, _ => none
 | k + 1, x0, x2, x10, x151000, x151001, x151002, x151003, x151004, x151005, x151006 => if x10 < (x2.length : Int) then (canopylaw3_Make.j1 k x0 x2 x10 (decide (x10 < 24)) x151000 x151001 x151002 x151003 x151004 x151005 x151006) else (canopylaw3_Make.j1 k x0 x2 x10 false x151000 x151001 x151002 x151003 x151004 x151005 x151006)
def canopylaw3_Make.j1 : Nat → List (S46) → List Int → Int → Bool → Int → Int → List Int → List Int → List (S52) → List (S54) → List (S56) → Option (Int × Int × List Int × List Int × (List (S52)) × (List (S54)) × (List (S56)))
 | 0, _, _, _, _, _, _, _, _, _, _, _ => none
 | k + 1, x0, x2, x10, x33, x151000, x151001, x151002, x151003, x151004, x151005, x151006 => if x33 = true then (if 0 ≤ x10 then (if x10 < (x2.length : Int) then ((canopylaw3_within.f (rd x2 x10) 1099511627776).bind fun t155 => (if x151000 = 0 then (none) else (if (Int.tmod t155 8) = 0 then (if x151002.length < 17592186044416 then (canopylaw3_Make.l0 k x0 x2 (wrap64 (x10 + 1)) x151000 x151001 (x151002 ++ [Int.tmod (wrap64 (Int.tdiv t155 8)) x151000]) x151003 x151004 x151005 x151006) else (none)) else (if (Int.tmod t155 8) = 1 then (if x151003.length < 17592186044416 then (canopylaw3_Make.l0 k x0 x2 (wrap64 (x10 + 1)) x151000 x151001 x151002 (x151003 ++ [Int.tmod (wrap64 (Int.tdiv t155 8)) x151000]) x151004 x151005 x151006) else (none)) else (if (Int.tmod t155 8) = 2 then (canopylaw3_Make.j2 k x0 x2 x10 t155 (Int.tmod (wrap64 (Int.tdiv t155 8)) x151000) (Int.tmod (wrap64 (Int.tdiv t155 80)) x151000) (Int.tmod t155 8) ((Int.tmod t155 8) == 2) x151000 x151001 x151002 x151003 x151004 x151005 x151006) else (canopylaw3_Make.j2 k x0 x2 x10 t155 (Int.tmod (wrap64 (Int.tdiv t155 8)) x151000) (Int.tmod (wrap64 (Int.tdiv t155 80)) x151000) (Int.tmod t155 8) ((Int.tmod t155 8) == 3) x151000 x151001 x151002 x151003 x151004 x151005 x151006)))))) else (none)) else (none)) else (if (x151002.length : Int) = 0 then (some (x151000, x151001, (([0] : List Int)), x151003, x151004, x151005, x151006)) else (some (x151000, x151001, x151002, x151003, x151004, x151005, x151006)))
def canopylaw3_Make.j2 : Nat → List (S46) → List Int → Int → Int → Int → Int → Int → Bool → Int → Int → List Int → List Int → List (S52) → List (S54) → List (S56) → Option (Int × Int × List Int × List Int × (List (S52)) × (List (S54)) × (List (S56)))
 | 0, _, _, _, _, _, _, _, _, _, _, _, _, _, _, _ => none
 | k + 1, x0, x2, x10, x11, x12, x13, x52, x85, x151000, x151001, x151002, x151003, x151004, x151005, x151006 => if x85 = true then ((canopylaw3_pick.f k x0 1 (Int.tmod (wrap64 (Int.tdiv x11 800)) 7)).bind fun t162 => (if t162 ≥ 0 then (if x151001 = 0 then (none) else (if x151004.length < 4398046511104 then (canopylaw3_Make.l0 k x0 x2 (wrap64 (x10 + 1)) x151000 x151001 x151002 x151003 (x151004 ++ [(⟨x12, t162, x13, wrap64 (1 + (Int.tmod (wrap64 (Int.tdiv x11 8000)) x151001))⟩ : S52)]) x151005 x151006) else (none))) else (canopylaw3_Make.l0 k x0 x2 (wrap64 (x10 + 1)) x151000 x151001 x151002 x151003 x151004 x151005 x151006))) else (if x52 = 4 then (canopylaw3_Make.j3 k x0 x2 x10 x11 x12 x13 (x52 == 4) x151000 x151001 x151002 x151003 x151004 x151005 x151006) else (canopylaw3_Make.j3 k x0 x2 x10 x11 x12 x13 (x52 == 5) x151000 x151001 x151002 x151003 x151004 x151005 x151006))
def canopylaw3_Make.j3 : Nat → List (S46) → List Int → Int → Int → Int → Int → Bool → Int → Int → List Int → List Int → List (S52) → List (S54) → List (S56) → Option (Int × Int × List Int × List Int × (List (S52)) × (List (S54)) × (List (S56)))
 | 0, _, _, _, _, _, _, _, _, _, _, _, _, _, _ => none
 | k + 1, x0, x2, x10, x11, x12, x13, x110, x151000, x151001, x151002, x151003, x151004, x151005, x151006 => if x110 = true then ((canopylaw3_pick.f k x0 2 (Int.tmod (wrap64 (Int.tdiv x11 800)) 7)).bind fun t166 => (if t166 ≥ 0 then (if (wrap64 (x151001 + 1)) = 0 then (none) else (if x151005.length < 4398046511104 then (canopylaw3_Make.l0 k x0 x2 (wrap64 (x10 + 1)) x151000 x151001 x151002 x151003 x151004 (x151005 ++ [(⟨x12, t166, Int.tmod (wrap64 (Int.tdiv x11 8000)) (wrap64 (x151001 + 1)), x13⟩ : S54)]) x151006) else (none))) else (canopylaw3_Make.l0 k x0 x2 (wrap64 (x10 + 1)) x151000 x151001 x151002 x151003 x151004 x151005 x151006))) else ((canopylaw3_pick.f k x0 3 (Int.tmod (wrap64 (Int.tdiv x11 800)) 7)).bind fun t170 => (if t170 ≥ 0 then (if x151006.length < 5864062014805 then (canopylaw3_Make.l0 k x0 x2 (wrap64 (x10 + 1)) x151000 x151001 x151002 x151003 x151004 x151005 (x151006 ++ [(⟨x12, t170, x13⟩ : S56)])) else (none)) else (canopylaw3_Make.l0 k x0 x2 (wrap64 (x10 + 1)) x151000 x151001 x151002 x151003 x151004 x151005 x151006)))
end
def canopylaw3_Make.f (k : Nat) (l0 : List (S46)) (a1 : Int) (l2 : List Int) (a3 : Int) : Option (Int × Int × List Int × List Int × (List (S52)) × (List (S54)) × (List (S56))) := (canopylaw3_within.f a1 a3).bind fun t148 => ((canopylaw3_within.f (wrap64 (Int.tdiv a1 7)) 2).bind fun t149 => (canopylaw3_Make.l0 k l0 l2 0 (wrap64 (1 + t148)) (wrap64 (1 + t149)) ([] : List Int) ([] : List Int) ([] : List (S52)) ([] : List (S54)) ([] : List (S56))))
theorem canopylaw3_Make.mono_l : ∀ k, (∀ y0 y1 y2 y3 y4 y5 y6 y7 y8 y9, LeO (canopylaw3_Make.l0 k y0 y1 y2 y3 y4 y5 y6 y7 y8 y9) (canopylaw3_Make.l0 (k + 1) y0 y1 y2 y3 y4 y5 y6 y7 y8 y9)) ∧ (∀ y0 y1 y2 y3 y4 y5 y6 y7 y8 y9 y10, LeO (canopylaw3_Make.j1 k y0 y1 y2 y3 y4 y5 y6 y7 y8 y9 y10) (canopylaw3_Make.j1 (k + 1) y0 y1 y2 y3 y4 y5 y6 y7 y8 y9 y10)) ∧ (∀ y0 y1 y2 y3 y4 y5 y6 y7 y8 y9 y10 y11 y12 y13 y14, LeO (canopylaw3_Make.j2 k y0 y1 y2 y3 y4 y5 y6 y7 y8 y9 y10 y11 y12 y13 y14) (canopylaw3_Make.j2 (k + 1) y0 y1 y2 y3 y4 y5 y6 y7 y8 y9 y10 y11 y12 y13 y14)) ∧ (∀ y0 y1 y2 y3 y4 y5 y6 y7 y8 y9 y10 y11 y12 y13, LeO (canopylaw3_Make.j3 k y0 y1 y2 y3 y4 y5 y6 y7 y8 y9 y10 y11 y12 y13) (canopylaw3_Make.j3 (k + 1) y0 y1 y2 y3 y4 y5 y6 y7 y8 y9 y10 y11 y12 y13))
 | 0 => ⟨fun _ _ _ _ _ _ _ _ _ _ r h => by simp [canopylaw3_Make.l0] at h, fun _ _ _ _ _ _ _ _ _ _ _ r h => by simp [canopylaw3_Make.j1] at h, fun _ _ _ _ _ _ _ _ _ _ _ _ _ _ _ r h => by simp [canopylaw3_Make.j2] at h, fun _ _ _ _ _ _ _ _ _ _ _ _ _ _ r h => by simp [canopylaw3_Make.j3] at h⟩
 | k + 1 => by
  obtain ⟨ih0, ih1, ih2, ih3⟩ := canopylaw3_Make.mono_l k
  refine ⟨?_, ?_, ?_, ?_⟩
  ·intro y0 y1 y2 y3 y4 y5 y6 y7 y8 y9
   unfold canopylaw3_Make.l0
   repeat' first
   | (with_reducible exact ih0 _ _ _ _ _ _ _ _ _ _)
   | (with_reducible exact ih1 _ _ _ _ _ _ _ _ _ _ _)
   | (with_reducible exact ih2 _ _ _ _ _ _ _ _ _ _ _ _ _ _ _)
   | (with_reducible exact ih3 _ _ _ _ _ _ _ _ _ _ _ _ _ _)
   | (with_reducible exact canopylaw3_pick.mono _ _ _ _)
   | (with_reducible exact LeO.refl _)
   | (with_reducible exact LeO.none _)
   | (with_reducible refine LeO.ite ?_ ?_)
   | (with_reducible refine LeO.bind ?_ (fun _ => ?_))
   | exact ih0 _ _ _ _ _ _ _ _ _ _
   | exact ih1 _ _ _ _ _ _ _ _ _ _ _
   | exact ih2 _ _ _ _ _ _ _ _ _ _ _ _ _ _ _
   | exact ih3 _ _ _ _ _ _ _ _ _ _ _ _ _ _
   | exact canopylaw3_pick.mono _ _ _ _
   | exact LeO.none _
   | refine LeO.ite ?_ ?_
   | refine LeO.bind ?_ (fun _ => ?_)
  ·intro y0 y1 y2 y3 y4 y5 y6 y7 y8 y9 y10
   unfold canopylaw3_Make.j1
   repeat' first
   | (with_reducible exact ih0 _ _ _ _ _ _ _ _ _ _)
   | (with_reducible exact ih1 _ _ _ _ _ _ _ _ _ _ _)
   | (with_reducible exact ih2 _ _ _ _ _ _ _ _ _ _ _ _ _ _ _)
   | (with_reducible exact ih3 _ _ _ _ _ _ _ _ _ _ _ _ _ _)
   | (with_reducible exact canopylaw3_pick.mono _ _ _ _)
   | (with_reducible exact LeO.refl _)
   | (with_reducible exact LeO.none _)
   | (with_reducible refine LeO.ite ?_ ?_)
   | (with_reducible refine LeO.bind ?_ (fun _ => ?_))
   | exact ih0 _ _ _ _ _ _ _ _ _ _
   | exact ih1 _ _ _ _ _ _ _ _ _ _ _
   | exact ih2 _ _ _ _ _ _ _ _ _ _ _ _ _ _ _
   | exact ih3 _ _ _ _ _ _ _ _ _ _ _ _ _ _
   | exact canopylaw3_pick.mono _ _ _ _
   | exact LeO.none _
   | refine LeO.ite ?_ ?_
   | refine LeO.bind ?_ (fun _ => ?_)
  ·intro y0 y1 y2 y3 y4 y5 y6 y7 y8 y9 y10 y11 y12 y13 y14
   unfold canopylaw3_Make.j2
   repeat' first
   | (with_reducible exact ih0 _ _ _ _ _ _ _ _ _ _)
   | (with_reducible exact ih1 _ _ _ _ _ _ _ _ _ _ _)
   | (with_reducible exact ih2 _ _ _ _ _ _ _ _ _ _ _ _ _ _ _)
   | (with_reducible exact ih3 _ _ _ _ _ _ _ _ _ _ _ _ _ _)
   | (with_reducible exact canopylaw3_pick.mono _ _ _ _)
   | (with_reducible exact LeO.refl _)
   | (with_reducible exact LeO.none _)
   | (with_reducible refine LeO.ite ?_ ?_)
   | (with_reducible refine LeO.bind ?_ (fun _ => ?_))
   | exact ih0 _ _ _ _ _ _ _ _ _ _
   | exact ih1 _ _ _ _ _ _ _ _ _ _ _
   | exact ih2 _ _ _ _ _ _ _ _ _ _ _ _ _ _ _
   | exact ih3 _ _ _ _ _ _ _ _ _ _ _ _ _ _
   | exact canopylaw3_pick.mono _ _ _ _
   | exact LeO.none _
   | refine LeO.ite ?_ ?_
   | refine LeO.bind ?_ (fun _ => ?_)
  ·intro y0 y1 y2 y3 y4 y5 y6 y7 y8 y9 y10 y11 y12 y13
   unfold canopylaw3_Make.j3
   repeat' first
   | (with_reducible exact ih0 _ _ _ _ _ _ _ _ _ _)
   | (with_reducible exact ih1 _ _ _ _ _ _ _ _ _ _ _)
   | (with_reducible exact ih2 _ _ _ _ _ _ _ _ _ _ _ _ _ _ _)
   | (with_reducible exact ih3 _ _ _ _ _ _ _ _ _ _ _ _ _ _)
   | (with_reducible exact canopylaw3_pick.mono _ _ _ _)
   | (with_reducible exact LeO.refl _)
   | (with_reducible exact LeO.none _)
   | (with_reducible refine LeO.ite ?_ ?_)
   | (with_reducible refine LeO.bind ?_ (fun _ => ?_))
   | exact ih0 _ _ _ _ _ _ _ _ _ _
   | exact ih1 _ _ _ _ _ _ _ _ _ _ _
   | exact ih2 _ _ _ _ _ _ _ _ _ _ _ _ _ _ _
   | exact ih3 _ _ _ _ _ _ _ _ _ _ _ _ _ _
   | exact canopylaw3_pick.mono _ _ _ _
   | exact LeO.none _
   | refine LeO.ite ?_ ?_
   | refine LeO.bind ?_ (fun _ => ?_)
theorem canopylaw3_Make.mono : ∀ a0 a1 a2 a3 k, LeO (canopylaw3_Make.f k a0 a1 a2 a3) (canopylaw3_Make.f (k + 1) a0 a1 a2 a3) := by
 intro a0 a1 a2 a3 k
 obtain ⟨ih0, ih1, ih2, ih3⟩ := canopylaw3_Make.mono_l k
 unfold canopylaw3_Make.f
 repeat' first
   | (with_reducible exact ih0 _ _ _ _ _ _ _ _ _ _)
   | (with_reducible exact ih1 _ _ _ _ _ _ _ _ _ _ _)
   | (with_reducible exact ih2 _ _ _ _ _ _ _ _ _ _ _ _ _ _ _)
   | (with_reducible exact ih3 _ _ _ _ _ _ _ _ _ _ _ _ _ _)
   | (with_reducible exact canopylaw3_pick.mono _ _ _ _)
   | (with_reducible exact LeO.refl _)
   | (with_reducible exact LeO.none _)
   | (with_reducible refine LeO.ite ?_ ?_)
   | (with_reducible refine LeO.bind ?_ (fun _ => ?_))
   | exact ih0 _ _ _ _ _ _ _ _ _ _
   | exact ih1 _ _ _ _ _ _ _ _ _ _ _
   | exact ih2 _ _ _ _ _ _ _ _ _ _ _ _ _ _ _
   | exact ih3 _ _ _ _ _ _ _ _ _ _ _ _ _ _
   | exact canopylaw3_pick.mono _ _ _ _
   | exact LeO.none _
   | refine LeO.ite ?_ ?_
   | refine LeO.bind ?_ (fun _ => ?_)
def canopylaw3_Make.T6 : Bool × List (List Nat × List Nat) := (true, [([], []), ([0], [0]), ([], []), ([2], [2]), ([1, 3], [1, 3]), ([], []), ([5], [5]), ([], []), ([7], [7]), ([6, 8], [6, 8]), ([4, 0, 1, 2, 3, 4], [4]), ([9, 10, 0, 1, 2, 3, 4, 5, 6, 7, 8, 9, 10], [9])])
def canopylaw3_Make.B6 : List Nat := [0, 1, 0, 4, 15, 0, 32, 0, 128, 480, 31, 2047]
theorem canopylaw3_Make.tab6 : rtab .any (opsOf Try.f14 6) = canopylaw3_Make.T6 := by kernel_rfl
theorem canopylaw3_Make.bits6 : waitsOk canopylaw3_Make.T6.2 canopylaw3_Make.B6 = true := by kernel_rfl
def canopylaw3_Make.T19 : Bool × List (List Nat × List Nat) := (true, [([], []), ([0], [0]), ([], []), ([], []), ([], []), ([], []), ([5], [5]), ([], []), ([7], [7]), ([6, 8], [6, 8]), ([9], [9]), ([2, 3, 4, 10], [2, 3, 4, 10]), ([11], [11]), ([1, 12], [1, 12]), ([0, 1, 2, 3, 4, 5, 6, 7, 8, 9, 10, 11, 12, 13], []), ([14, 13, 13, 0, 1, 2, 3, 4, 5, 6, 7, 8, 9, 10, 11, 12, 13], [13, 14])])
def canopylaw3_Make.B19 : List Nat := [0, 1, 0, 0, 0, 0, 32, 0, 128, 480, 992, 2044, 4092, 8191, 16383, 32767]
theorem canopylaw3_Make.tab19 : rtab .any (opsOf Try.f14 19) = canopylaw3_Make.T19 := by kernel_rfl
theorem canopylaw3_Make.bits19 : waitsOk canopylaw3_Make.T19.2 canopylaw3_Make.B19 = true := by kernel_rfl
def canopylaw3_Make.T24 : Bool × List (List Nat × List Nat) := (true, [([], []), ([0], [0]), ([], []), ([], []), ([], []), ([4], [4]), ([], []), ([6], [6]), ([7], [7]), ([5, 8], [5, 8]), ([], []), ([2, 3, 9, 10], [2, 3, 9, 10]), ([11], [11]), ([1, 12], [1, 12]), ([0, 1, 2, 3, 4, 5, 6, 7, 8, 9, 10, 11, 12, 13], []), ([14, 13, 13, 0, 1, 2, 3, 4, 5, 6, 7, 8, 9, 10, 11, 12, 13], [13, 14])])
def canopylaw3_Make.B24 : List Nat := [0, 1, 0, 0, 0, 16, 0, 64, 192, 496, 0, 2044, 4092, 8191, 16383, 32767]
theorem canopylaw3_Make.tab24 : rtab .any (opsOf Try.f14 24) = canopylaw3_Make.T24 := by kernel_rfl
theorem canopylaw3_Make.bits24 : waitsOk canopylaw3_Make.T24.2 canopylaw3_Make.B24 = true := by kernel_rfl
set_option maxHeartbeats 8000000 in
set_option maxRecDepth 100000 in
theorem canopylaw3_Make.calls (k : Nat) (A0 : Option Addr) (c0 : Nat) (l0 : List (S46)) (a1 : Int) (A2 : Option Addr) (c2 : Nat) (l2 : List Int) (a3 : Int) (r1 : Int) (r2 : Int) (r3 : List Int) (r4 : List Int) (r5 : List (S52)) (r6 : List (S54)) (r7 : List (S56)) (w : World) (hr0 : Kd.C k46 w A0 l0.length l0) (hc0 : l0.length ≤ c0) (hr2 : Kd.C (Kd.int .i64) w A2 l2.length l2) (hc2 : l2.length ≤ c2) (h : canopylaw3_Make.f k l0 a1 l2 a3 = some (r1, r2, r3, r4, r5, r6, r7)) :
  Calls Try.prog 14 #[.slice A0 l0.length c0, .int .i64 a1, .slice A2 l2.length c2, .int .i64 a3] w fun e w' => ∃ v2_ v3_ v4_ v5_ v6_ : Value, e = .returned (.agg #[.int .i64 r1, .int .i64 r2, v2_, v3_, v4_, v5_, v6_]) ∧ Kd.R (Kd.int .i64) 3 w' w.heap.size (fun k_ => some k_ ≠ (v3_ : Value).ownBlock) v2_ r3 ∧ Kd.R (Kd.int .i64) 3 w' w.heap.size (fun k_ => some k_ ≠ (v2_ : Value).ownBlock) v3_ r4 ∧ Kd.R k52 52 w' w.heap.size (fun _ => True) v4_ r5 ∧ Kd.R k54 54 w' w.heap.size (fun _ => True) v5_ r6 ∧ Kd.R k56 56 w' w.heap.size (fun _ => True) v6_ r7 ∧ Below w.heap.size w w' := by
 have hu30 := Try.underlying30
 have hu52 := Try.underlying52
 have hu54 := Try.underlying54
 have hu56 := Try.underlying56
 have HR0 := Aside0.mk hr0
 have HC0 := Aside0.mk hc0
 clear hr0 hc0
 have HR2 := Aside0.mk hr2
 have HC2 := Aside0.mk hc2
 clear hr2 hc2
 have HB := Aside0.mk (Below.refl w.heap.size w)
 have H : ((canopylaw3_within.f a1 a3).bind fun t148 => ((canopylaw3_within.f (wrap64 (Int.tdiv a1 7)) 2).bind fun t149 => (canopylaw3_Make.l0 k l0 l2 0 (wrap64 (1 + t148)) (wrap64 (1 + t149)) ([] : List Int) ([] : List Int) ([] : List (S52)) ([] : List (S54)) ([] : List (S56))))) = some (r1, r2, r3, r4, r5, r6, r7) := h
 clear h
 replace H := Option.bind_eq_some_iff.mp H
 obtain ⟨t148, A50, H⟩ := H
 replace H : ((canopylaw3_within.f (wrap64 (Int.tdiv a1 7)) 2).bind fun t149 => (canopylaw3_Make.l0 k l0 l2 0 (wrap64 (1 + t148)) (wrap64 (1 + t149)) ([] : List Int) ([] : List Int) ([] : List (S52)) ([] : List (S54)) ([] : List (S56)))) = some (r1, r2, r3, r4, r5, r6, r7) := H
 have A5 := Aside0.mk A50
 clear A50
 replace H := Option.bind_eq_some_iff.mp H
 obtain ⟨t149, A60, H⟩ := H
 replace H : (canopylaw3_Make.l0 k l0 l2 0 (wrap64 (1 + t148)) (wrap64 (1 + t149)) ([] : List Int) ([] : List Int) ([] : List (S52)) ([] : List (S54)) ([] : List (S56))) = some (r1, r2, r3, r4, r5, r6, r7) := H
 have A6 := Aside0.mk A60
 clear A60
 have H' := Aside0.mk H
 clear H
 go_enter Try.func14, Try.ntmps14
 go_wp2_with (first | ((with_reducible refine gate_dst (N := 8) rfl ?_); refine box_event ?hg (N := 8) ?hd (cs := #[.int .i64 0, .int .i64 0, .slice none 0 0, .slice none 0 0, .slice none 0 0, .slice none 0 0, .slice none 0 0]) (t := 30) ?hr ?_; (case hd => rfl); (case hg => rfl); (case hr => first | (go_simp; done) | (go_simp; rfl)); intro gb147 hg w7 hbox hb; have n0_ := Aside0.mk (below_step (by repeat (first | (with_reducible first | exact HB.out | apply below_alloc | apply pw_below_drewN | apply below_drew1) | exact HB.out)) hb); have n1_ := Aside0.mk (hbox); have n2_ := Aside0.mk ((by rw [hg]; exact (below_size (by repeat (first | (with_reducible first | exact HB.out | apply below_alloc | apply pw_below_drewN | apply below_drew1) | exact HB.out))) : w.heap.size ≤ gb147)); have n3_ := Aside0.mk ((by rw [hg]; exact (below_size (by repeat (first | (with_reducible first | exact HB.out | apply below_alloc | apply pw_below_drewN | apply below_drew1) | exact HB.out))) : w.heap.size ≤ gb147)); clear HB; have HB := n0_; have BK147 := n1_; have GW147 := n2_; have GE147 := n3_; clear n0_ n1_ n2_ n3_; clear hb hbox hg) | ((with_reducible refine gate_callee (f := 31) rfl ?_); refine goesL_ (some 19) rfl rfl Try.func31 (by kernel_rfl) rfl #[.int .i64 a1, .int .i64 a3] rfl (by (try simp only [List.map_toArray, List.map_cons, List.map_nil]); first | done | rfl | (simp only [List.length_drop, List.length_take]; rfl)) ?_; (with_reducible refine (canopylaw3_within.calls a1 a3 t148 _ A5.out).mono ?_); rintro e w' ⟨rfl, ⟨nd, rfl⟩⟩; refine ⟨_, rfl, ?_⟩; (try (rw [drewN_self w7]; generalize hq_ : World.drewN w7 _ = w7; have n0_ : Aside0 (w7.heap[gb147]? = some (.cells #[.int .i64 0, .int .i64 0, .slice none 0 0, .slice none 0 0, .slice none 0 0, .slice none 0 0, .slice none 0 0] 30 (0, 0))) := ⟨by rw [← hq_]; exact (by (with_reducible repeat (first | refine blk_drewN ?_ _ | refine blk_drew ?_ | refine blk_alloc ?_ _)); exact BK147.out)⟩; have n1_ : Aside0 (Below w.heap.size w w7) := ⟨by rw [← hq_]; exact (by repeat (first | (with_reducible first | exact HB.out | apply below_alloc | apply pw_below_drewN | apply below_drew1 | refine below_set ?_ GE147.out) | exact HB.out))⟩; clear BK147 HB hq_; have BK147 := n0_; have HB := n1_; clear n0_ n1_))) | ((with_reducible refine gate_callee (f := 31) rfl ?_); refine goesL_ (some 23) rfl rfl Try.func31 (by kernel_rfl) rfl #[.int .i64 (wrap64 (Int.tdiv a1 7)), .int .i64 2] rfl (by (try simp only [List.map_toArray, List.map_cons, List.map_nil]); first | done | rfl | (simp only [List.length_drop, List.length_take]; rfl)) ?_; (with_reducible refine (canopylaw3_within.calls (wrap64 (Int.tdiv a1 7)) 2 t149 _ A6.out).mono ?_); rintro e w' ⟨rfl, ⟨nd, rfl⟩⟩; refine ⟨_, rfl, ?_⟩; (try (rw [drewN_self w7]; generalize hq_ : World.drewN w7 _ = w7; have n0_ : Aside0 (w7.heap[gb147]? = some (.cells #[.int .i64 0, .int .i64 0, .slice none 0 0, .slice none 0 0, .slice none 0 0, .slice none 0 0, .slice none 0 0] 30 (0, 0))) := ⟨by rw [← hq_]; exact (by (with_reducible repeat (first | refine blk_drewN ?_ _ | refine blk_drew ?_ | refine blk_alloc ?_ _)); exact BK147.out)⟩; have n1_ : Aside0 (Below w.heap.size w w7) := ⟨by rw [← hq_]; exact (by repeat (first | (with_reducible first | exact HB.out | apply below_alloc | apply pw_below_drewN | apply below_drew1 | refine below_set ?_ GE147.out) | exact HB.out))⟩; clear BK147 HB hq_; have BK147 := n0_; have HB := n1_; clear n0_ n1_))) | ((with_reducible refine gate_dst (N := 9) rfl ?_); refine box_event ?hg (N := 9) ?hd (cs := #[.int .i64 0, .int .i64 0, .slice none 0 0, .slice none 0 0, .slice none 0 0, .slice none 0 0, .slice none 0 0]) (t := 30) ?hr ?_; (case hd => rfl); (case hg => rfl); (case hr => first | (go_simp; done) | (go_simp; rfl)); intro gb150 hg w8 hbox hb; have n0_ := Aside0.mk (blk_below (g := gb147) (o := .cells #[.int .i64 0, .int .i64 0, .slice none 0 0, .slice none 0 0, .slice none 0 0, .slice none 0 0, .slice none 0 0] 30 (0, 0)) (by (with_reducible repeat (first | refine blk_drewN ?_ _ | refine blk_drew ?_ | refine blk_alloc ?_ _)); exact BK147.out) hb); have n1_ := Aside0.mk (below_step (by repeat (first | (with_reducible first | exact HB.out | apply below_alloc | apply pw_below_drewN | apply below_drew1 | refine below_set ?_ GE147.out) | exact HB.out)) hb); have n2_ := Aside0.mk (hbox); have n3_ := Aside0.mk ((by rw [hg]; exact (below_size (by repeat (first | (with_reducible first | exact HB.out | apply below_alloc | apply pw_below_drewN | apply below_drew1 | refine below_set ?_ GE147.out) | exact HB.out))) : w.heap.size ≤ gb150)); have n4_ := Aside0.mk ((by rw [hg]; exact (below_size (by repeat (first | (with_reducible first | exact HB.out | apply below_alloc | apply pw_below_drewN | apply below_drew1 | refine below_set ?_ GE147.out) | exact HB.out))) : w.heap.size ≤ gb150)); have n5_ := Aside0.mk ((by rw [hg]; exact Nat.ne_of_lt (blk_lt (g := gb147) (o := .cells #[.int .i64 0, .int .i64 0, .slice none 0 0, .slice none 0 0, .slice none 0 0, .slice none 0 0, .slice none 0 0] 30 (0, 0)) (by (with_reducible repeat (first | refine blk_drewN ?_ _ | refine blk_drew ?_ | refine blk_alloc ?_ _)); exact BK147.out)) : gb147 ≠ gb150)); have n6_ := Aside0.mk ((by rw [hg]; exact Nat.ne_of_gt (blk_lt (g := gb147) (o := .cells #[.int .i64 0, .int .i64 0, .slice none 0 0, .slice none 0 0, .slice none 0 0, .slice none 0 0, .slice none 0 0] 30 (0, 0)) (by (with_reducible repeat (first | refine blk_drewN ?_ _ | refine blk_drew ?_ | refine blk_alloc ?_ _)); exact BK147.out)) : gb150 ≠ gb147)); clear BK147; clear HB; have BK147 := n0_; have HB := n1_; have BK150 := n2_; have GW150 := n3_; have GE150 := n4_; have NB147_150 := n5_; have NB150_147 := n6_; clear n0_ n1_ n2_ n3_ n4_ n5_ n6_; clear hb hbox hg; have hnb9 := NB150_147.out; have hnc9 := NB147_150.out; have hcz10_0 : w8.cell? ⟨gb150, 0, none⟩ = some (.int .i64 0) := (blk_cell BK150.out 0).trans rfl; have hcz10_1 : w8.cell? ⟨gb150, 1, none⟩ = some (.int .i64 0) := (blk_cell BK150.out 1).trans rfl; have hcz10_2 : w8.cell? ⟨gb150, 2, none⟩ = some (.slice none 0 0) := (blk_cell BK150.out 2).trans rfl; have hcz10_3 : w8.cell? ⟨gb150, 3, none⟩ = some (.slice none 0 0) := (blk_cell BK150.out 3).trans rfl; have hcz10_4 : w8.cell? ⟨gb150, 4, none⟩ = some (.slice none 0 0) := (blk_cell BK150.out 4).trans rfl; have hcz10_5 : w8.cell? ⟨gb150, 5, none⟩ = some (.slice none 0 0) := (blk_cell BK150.out 5).trans rfl; have hcz10_6 : w8.cell? ⟨gb150, 6, none⟩ = some (.slice none 0 0) := (blk_cell BK150.out 6).trans rfl; have hfz10_0 := blk_frozen BK150.out 0; have hfz10_1 := blk_frozen BK150.out 1; have hfz10_2 := blk_frozen BK150.out 2; have hfz10_3 := blk_frozen BK150.out 3; have hfz10_4 := blk_frozen BK150.out 4; have hfz10_5 := blk_frozen BK150.out 5; have hfz10_6 := blk_frozen BK150.out 6))
 go_loopg [10] k (fun kq v10 w' => ∃ (x10_1 : Int) (x151002_1 : List Int) (x151003_1 : List Int) (x151004_1 : List (S52)) (x151005_1 : List (S54)) (x151006_1 : List (S56)) (u151002 : Value) (u151003 : Value) (u151004 : Value) (u151005 : Value) (u151006 : Value), v10 = .int .i64 x10_1 ∧ Aside0 (canopylaw3_Make.l0 kq l0 l2 x10_1 (wrap64 (1 + t148)) (wrap64 (1 + t149)) x151002_1 x151003_1 x151004_1 x151005_1 x151006_1 = some (r1, r2, r3, r4, r5, r6, r7)) ∧ Aside0 (kq ≤ k) ∧ Aside0 (Kd.R (Kd.int .i64) 3 w' w.heap.size (fun k_ => some k_ ≠ (u151003 : Value).ownBlock) u151002 x151002_1) ∧ Aside0 (Kd.R (Kd.int .i64) 3 w' w.heap.size (fun k_ => some k_ ≠ (u151002 : Value).ownBlock) u151003 x151003_1) ∧ Aside0 (Kd.R k52 52 w' w.heap.size (fun _ => True) u151004 x151004_1) ∧ Aside0 (Kd.R k54 54 w' w.heap.size (fun _ => True) u151005 x151005_1) ∧ Aside0 (Kd.R k56 56 w' w.heap.size (fun _ => True) u151006 x151006_1) ∧ Aside0 (w'.heap[gb147]? = some (.cells #[.int .i64 0, .int .i64 0, (.slice none 0 0), (.slice none 0 0), (.slice none 0 0), (.slice none 0 0), (.slice none 0 0)] 30 (0, 0))) ∧ Aside0 (w'.heap[gb150]? = some (.cells #[.int .i64 (wrap64 (1 + t148)), .int .i64 (wrap64 (1 + t149)), u151002, u151003, u151004, u151005, u151006] 30 (0, 0))) ∧ Aside0 (Below w.heap.size w w'))
 case atStart => exact ⟨(0), (([] : List Int)), (([] : List Int)), (([] : List (S52))), (([] : List (S54))), (([] : List (S56))), (.slice none 0 0), (.slice none 0 0), (.slice none 0 0), (.slice none 0 0), (.slice none 0 0), (by first | rfl | (simp; done) | (simp [*]; done)), H', ⟨Nat.le_refl _⟩, ⟨by first | exact Kd.R_nil _ _ _ _ _ | exact Kd.N_nil _ _ _ _ _ | exact Kd.V_nil _ _ _ _ _ | exact Kd.Q_nil _ _ _ _ _ | exact Kd.S_nil _ _ _ _ _⟩, ⟨by first | exact Kd.R_nil _ _ _ _ _ | exact Kd.N_nil _ _ _ _ _ | exact Kd.V_nil _ _ _ _ _ | exact Kd.Q_nil _ _ _ _ _ | exact Kd.S_nil _ _ _ _ _⟩, ⟨by first | exact Kd.R_nil _ _ _ _ _ | exact Kd.N_nil _ _ _ _ _ | exact Kd.V_nil _ _ _ _ _ | exact Kd.Q_nil _ _ _ _ _ | exact Kd.S_nil _ _ _ _ _⟩, ⟨by first | exact Kd.R_nil _ _ _ _ _ | exact Kd.N_nil _ _ _ _ _ | exact Kd.V_nil _ _ _ _ _ | exact Kd.Q_nil _ _ _ _ _ | exact Kd.S_nil _ _ _ _ _⟩, ⟨by first | exact Kd.R_nil _ _ _ _ _ | exact Kd.N_nil _ _ _ _ _ | exact Kd.V_nil _ _ _ _ _ | exact Kd.Q_nil _ _ _ _ _ | exact Kd.S_nil _ _ _ _ _⟩, ⟨by (with_reducible repeat (first | refine blk_drewN ?_ _ | refine blk_drew ?_ | refine blk_alloc ?_ _)); refine blk_far ?_ NB147_150.out _; (with_reducible repeat (first | refine blk_drewN ?_ _ | refine blk_drew ?_ | refine blk_alloc ?_ _)); refine blk_far ?_ NB147_150.out _; (with_reducible repeat (first | refine blk_drewN ?_ _ | refine blk_drew ?_ | refine blk_alloc ?_ _)); refine blk_far ?_ NB147_150.out _; (with_reducible repeat (first | refine blk_drewN ?_ _ | refine blk_drew ?_ | refine blk_alloc ?_ _)); refine blk_far ?_ NB147_150.out _; (with_reducible repeat (first | refine blk_drewN ?_ _ | refine blk_drew ?_ | refine blk_alloc ?_ _)); refine blk_far ?_ NB147_150.out _; (with_reducible repeat (first | refine blk_drewN ?_ _ | refine blk_drew ?_ | refine blk_alloc ?_ _)); refine blk_far ?_ NB147_150.out _; (with_reducible repeat (first | refine blk_drewN ?_ _ | refine blk_drew ?_ | refine blk_alloc ?_ _)); refine blk_far ?_ NB147_150.out _; (with_reducible repeat (first | refine blk_drewN ?_ _ | refine blk_drew ?_ | refine blk_alloc ?_ _)); exact BK147.out⟩, ⟨by (with_reducible repeat (first | refine blk_drewN ?_ _ | refine blk_drew ?_ | refine blk_alloc ?_ _)); refine blk_put (cs := #[.int .i64 (wrap64 (1 + t148)), .int .i64 (wrap64 (1 + t149)), .slice none 0 0, .slice none 0 0, .slice none 0 0, .slice none 0 0, .slice none 0 0]) ?_ 6 _ rfl; (with_reducible repeat (first | refine blk_drewN ?_ _ | refine blk_drew ?_ | refine blk_alloc ?_ _)); refine blk_put (cs := #[.int .i64 (wrap64 (1 + t148)), .int .i64 (wrap64 (1 + t149)), .slice none 0 0, .slice none 0 0, .slice none 0 0, .slice none 0 0, .slice none 0 0]) ?_ 5 _ rfl; (with_reducible repeat (first | refine blk_drewN ?_ _ | refine blk_drew ?_ | refine blk_alloc ?_ _)); refine blk_put (cs := #[.int .i64 (wrap64 (1 + t148)), .int .i64 (wrap64 (1 + t149)), .slice none 0 0, .slice none 0 0, .slice none 0 0, .slice none 0 0, .slice none 0 0]) ?_ 4 _ rfl; (with_reducible repeat (first | refine blk_drewN ?_ _ | refine blk_drew ?_ | refine blk_alloc ?_ _)); refine blk_put (cs := #[.int .i64 (wrap64 (1 + t148)), .int .i64 (wrap64 (1 + t149)), .slice none 0 0, .slice none 0 0, .slice none 0 0, .slice none 0 0, .slice none 0 0]) ?_ 3 _ rfl; (with_reducible repeat (first | refine blk_drewN ?_ _ | refine blk_drew ?_ | refine blk_alloc ?_ _)); refine blk_put (cs := #[.int .i64 (wrap64 (1 + t148)), .int .i64 (wrap64 (1 + t149)), .slice none 0 0, .slice none 0 0, .slice none 0 0, .slice none 0 0, .slice none 0 0]) ?_ 2 _ rfl; (with_reducible repeat (first | refine blk_drewN ?_ _ | refine blk_drew ?_ | refine blk_alloc ?_ _)); refine blk_put (cs := #[.int .i64 (wrap64 (1 + t148)), .int .i64 0, .slice none 0 0, .slice none 0 0, .slice none 0 0, .slice none 0 0, .slice none 0 0]) ?_ 1 _ rfl; (with_reducible repeat (first | refine blk_drewN ?_ _ | refine blk_drew ?_ | refine blk_alloc ?_ _)); refine blk_put (cs := #[.int .i64 0, .int .i64 0, .slice none 0 0, .slice none 0 0, .slice none 0 0, .slice none 0 0, .slice none 0 0]) ?_ 0 _ rfl; (with_reducible repeat (first | refine blk_drewN ?_ _ | refine blk_drew ?_ | refine blk_alloc ?_ _)); exact BK150.out⟩, ⟨by repeat (first | (with_reducible first | exact HB.out | apply below_alloc | apply pw_below_drewN | apply below_drew1 | refine below_set ?_ GE147.out | refine below_set ?_ GE150.out) | exact HB.out)⟩⟩
 case round =>
  clear H'
  try clear c1
  try clear c2
  try clear p2
  try clear c3
  try clear p6
  try clear c9
  try clear hcz10_0
  try clear hcz10_1
  try clear hcz10_2
  try clear hcz10_3
  try clear hcz10_4
  try clear hcz10_5
  try clear hcz10_6
  try clear hfz10_0
  try clear hfz10_1
  try clear hfz10_2
  try clear hfz10_3
  try clear hfz10_4
  try clear hfz10_5
  try clear hfz10_6
  obtain ⟨x10_1, x151002_1, x151003_1, x151004_1, x151005_1, x151006_1, u151002, u151003, u151004, u151005, u151006, rfl, HA, HK1, HO_151002, HO_151003, HO_151004, HO_151005, HO_151006, BK147, BK150, HB⟩ := hrel
  cases gk with
  | zero => exact absurd HA.out (by simp [canopylaw3_Make.l0])
  | succ k1 =>
   have H := HA.out
   clear HA
   simp only [canopylaw3_Make.l0] at H
   have HC11 := Aside0.mk H
   clear H
   go_upto_region 3 with (fail)
   go_cut [33] (fun v33 wc => ∃ (kq : Nat) (x33_10 : Bool), v33 = .bool x33_10 ∧ Aside0 (canopylaw3_Make.j1 kq l0 l2 x10_1 x33_10 (wrap64 (1 + t148)) (wrap64 (1 + t149)) x151002_1 x151003_1 x151004_1 x151005_1 x151006_1 = some (r1, r2, r3, r4, r5, r6, r7)) ∧ Aside0 (kq ≤ k1) ∧ Aside0 (Kd.R (Kd.int .i64) 3 wc w.heap.size (fun k_ => some k_ ≠ (u151003 : Value).ownBlock) u151002 x151002_1) ∧ Aside0 (Kd.R (Kd.int .i64) 3 wc w.heap.size (fun k_ => some k_ ≠ (u151002 : Value).ownBlock) u151003 x151003_1) ∧ Aside0 (Kd.R k52 52 wc w.heap.size (fun _ => True) u151004 x151004_1) ∧ Aside0 (Kd.R k54 54 wc w.heap.size (fun _ => True) u151005 x151005_1) ∧ Aside0 (Kd.R k56 56 wc w.heap.size (fun _ => True) u151006 x151006_1) ∧ Aside0 (wc.heap[gb147]? = some (.cells #[.int .i64 0, .int .i64 0, (.slice none 0 0), (.slice none 0 0), (.slice none 0 0), (.slice none 0 0), (.slice none 0 0)] 30 (0, 0))) ∧ Aside0 (wc.heap[gb150]? = some (.cells #[.int .i64 (wrap64 (1 + t148)), .int .i64 (wrap64 (1 + t149)), u151002, u151003, u151004, u151005, u151006] 30 (0, 0))) ∧ Aside0 (Below w.heap.size w wc))
   case first =>
    have H := HC11.out
    clear HC11
    by_cases c12 : x10_1 < (l2.length : Int)
    ·rw [if_pos c12] at H
     have c12b0 : decide (x10_1 < (l2.length : Int)) = true := decide_eq_true c12
     clear c12
     (first | rw [c12b0] | (simp only [i64_w, i32_w]; rw [c12b0]) | skip)
     have H' := Aside0.mk H
     clear H
     go_wp2
     go_meet
     case rel => exact ⟨_, (decide (x10_1 < 24)), (by first | rfl | (simp; done) | (simp [*]; done)), H', ⟨by have := HK1.out; first | omega | exact Nat.le_refl _⟩, ⟨by (with_reducible repeat (first | apply Kd.R_alloc | apply Kd.R_drewN | apply Kd.R_drew)); exact HO_151002.out⟩, ⟨by (with_reducible repeat (first | apply Kd.R_alloc | apply Kd.R_drewN | apply Kd.R_drew)); exact HO_151003.out⟩, ⟨by (with_reducible repeat (first | apply Kd.R_alloc | apply Kd.R_drewN | apply Kd.R_drew)); exact HO_151004.out⟩, ⟨by (with_reducible repeat (first | apply Kd.R_alloc | apply Kd.R_drewN | apply Kd.R_drew)); exact HO_151005.out⟩, ⟨by (with_reducible repeat (first | apply Kd.R_alloc | apply Kd.R_drewN | apply Kd.R_drew)); exact HO_151006.out⟩, ⟨by (with_reducible repeat (first | refine blk_drewN ?_ _ | refine blk_drew ?_ | refine blk_alloc ?_ _)); exact BK147.out⟩, ⟨by (with_reducible repeat (first | refine blk_drewN ?_ _ | refine blk_drew ?_ | refine blk_alloc ?_ _)); exact BK150.out⟩, ⟨by repeat (first | (with_reducible first | exact HB.out | apply below_alloc | apply pw_below_drewN | apply below_drew1 | refine below_set ?_ GE147.out | refine below_set ?_ GE150.out) | exact HB.out)⟩⟩
    ·rw [if_neg c12] at H
     have c12b0 : decide (x10_1 < (l2.length : Int)) = false := decide_eq_false c12
     clear c12
     (first | rw [c12b0] | (simp only [i64_w, i32_w]; rw [c12b0]) | skip)
     have H' := Aside0.mk H
     clear H
     go_wp2
     go_meet
     case rel => exact ⟨_, (false), (by first | rfl | (simp; done) | (simp [*]; done)), H', ⟨by have := HK1.out; first | omega | exact Nat.le_refl _⟩, ⟨by (with_reducible repeat (first | apply Kd.R_alloc | apply Kd.R_drewN | apply Kd.R_drew)); exact HO_151002.out⟩, ⟨by (with_reducible repeat (first | apply Kd.R_alloc | apply Kd.R_drewN | apply Kd.R_drew)); exact HO_151003.out⟩, ⟨by (with_reducible repeat (first | apply Kd.R_alloc | apply Kd.R_drewN | apply Kd.R_drew)); exact HO_151004.out⟩, ⟨by (with_reducible repeat (first | apply Kd.R_alloc | apply Kd.R_drewN | apply Kd.R_drew)); exact HO_151005.out⟩, ⟨by (with_reducible repeat (first | apply Kd.R_alloc | apply Kd.R_drewN | apply Kd.R_drew)); exact HO_151006.out⟩, ⟨by (with_reducible repeat (first | refine blk_drewN ?_ _ | refine blk_drew ?_ | refine blk_alloc ?_ _)); exact BK147.out⟩, ⟨by (with_reducible repeat (first | refine blk_drewN ?_ _ | refine blk_drew ?_ | refine blk_alloc ?_ _)); exact BK150.out⟩, ⟨by repeat (first | (with_reducible first | exact HB.out | apply below_alloc | apply pw_below_drewN | apply below_drew1 | refine below_set ?_ GE147.out | refine below_set ?_ GE150.out) | exact HB.out)⟩⟩
   case rest =>
    clear HC11
    try clear c1
    try clear c2
    try clear p2
    try clear c3
    try clear p6
    try clear c9
    try clear c12
    try clear c12b0
    try clear hcz10_0
    try clear hcz10_1
    try clear hcz10_2
    try clear hcz10_3
    try clear hcz10_4
    try clear hcz10_5
    try clear hcz10_6
    try clear hfz10_0
    try clear hfz10_1
    try clear hfz10_2
    try clear hfz10_3
    try clear hfz10_4
    try clear hfz10_5
    try clear hfz10_6
    try clear p2
    try clear p6
    obtain ⟨kq, x33_10, rfl, HA, HJ10, HO_151002, HO_151003, HO_151004, HO_151005, HO_151006, BK147, BK150, HB⟩ := hcut
    cases kq with
    | zero => exact absurd HA.out (by simp [canopylaw3_Make.j1])
    | succ kj10 =>
     have H := HA.out
     clear HA
     simp only [canopylaw3_Make.j1] at H
     by_cases c13 : x33_10 = true
     ·subst c13
      have H1 : (if 0 ≤ x10_1 then (if x10_1 < (l2.length : Int) then ((canopylaw3_within.f (rd l2 x10_1) 1099511627776).bind fun t155 => (if (wrap64 (1 + t148)) = 0 then (none) else (if (Int.tmod t155 8) = 0 then (if x151002_1.length < 17592186044416 then (canopylaw3_Make.l0 kj10 l0 l2 (wrap64 (x10_1 + 1)) (wrap64 (1 + t148)) (wrap64 (1 + t149)) (x151002_1 ++ [Int.tmod (wrap64 (Int.tdiv t155 8)) (wrap64 (1 + t148))]) x151003_1 x151004_1 x151005_1 x151006_1) else (none)) else (if (Int.tmod t155 8) = 1 then (if x151003_1.length < 17592186044416 then (canopylaw3_Make.l0 kj10 l0 l2 (wrap64 (x10_1 + 1)) (wrap64 (1 + t148)) (wrap64 (1 + t149)) x151002_1 (x151003_1 ++ [Int.tmod (wrap64 (Int.tdiv t155 8)) (wrap64 (1 + t148))]) x151004_1 x151005_1 x151006_1) else (none)) else (if (Int.tmod t155 8) = 2 then (canopylaw3_Make.j2 kj10 l0 l2 x10_1 t155 (Int.tmod (wrap64 (Int.tdiv t155 8)) (wrap64 (1 + t148))) (Int.tmod (wrap64 (Int.tdiv t155 80)) (wrap64 (1 + t148))) (Int.tmod t155 8) ((Int.tmod t155 8) == 2) (wrap64 (1 + t148)) (wrap64 (1 + t149)) x151002_1 x151003_1 x151004_1 x151005_1 x151006_1) else (canopylaw3_Make.j2 kj10 l0 l2 x10_1 t155 (Int.tmod (wrap64 (Int.tdiv t155 8)) (wrap64 (1 + t148))) (Int.tmod (wrap64 (Int.tdiv t155 80)) (wrap64 (1 + t148))) (Int.tmod t155 8) ((Int.tmod t155 8) == 3) (wrap64 (1 + t148)) (wrap64 (1 + t149)) x151002_1 x151003_1 x151004_1 x151005_1 x151006_1)))))) else (none)) else (none)) = some (r1, r2, r3, r4, r5, r6, r7) := by rw [if_pos rfl] at H; exact H
      clear H
      have H := H1
      clear H1
      by_cases c14 : 0 ≤ x10_1
      ·rw [if_pos c14] at H
       have c14b0 : decide (0 ≤ x10_1) = true := decide_eq_true c14
       clear c14
       by_cases c15 : x10_1 < (l2.length : Int)
       ·rw [if_pos c15] at H
        have c15b0 : decide (x10_1 < (l2.length : Int)) = true := decide_eq_true c15
        clear c15
        replace H := Option.bind_eq_some_iff.mp H
        obtain ⟨t155, A160, H⟩ := H
        replace H : (if (wrap64 (1 + t148)) = 0 then (none) else (if (Int.tmod t155 8) = 0 then (if x151002_1.length < 17592186044416 then (canopylaw3_Make.l0 kj10 l0 l2 (wrap64 (x10_1 + 1)) (wrap64 (1 + t148)) (wrap64 (1 + t149)) (x151002_1 ++ [Int.tmod (wrap64 (Int.tdiv t155 8)) (wrap64 (1 + t148))]) x151003_1 x151004_1 x151005_1 x151006_1) else (none)) else (if (Int.tmod t155 8) = 1 then (if x151003_1.length < 17592186044416 then (canopylaw3_Make.l0 kj10 l0 l2 (wrap64 (x10_1 + 1)) (wrap64 (1 + t148)) (wrap64 (1 + t149)) x151002_1 (x151003_1 ++ [Int.tmod (wrap64 (Int.tdiv t155 8)) (wrap64 (1 + t148))]) x151004_1 x151005_1 x151006_1) else (none)) else (if (Int.tmod t155 8) = 2 then (canopylaw3_Make.j2 kj10 l0 l2 x10_1 t155 (Int.tmod (wrap64 (Int.tdiv t155 8)) (wrap64 (1 + t148))) (Int.tmod (wrap64 (Int.tdiv t155 80)) (wrap64 (1 + t148))) (Int.tmod t155 8) ((Int.tmod t155 8) == 2) (wrap64 (1 + t148)) (wrap64 (1 + t149)) x151002_1 x151003_1 x151004_1 x151005_1 x151006_1) else (canopylaw3_Make.j2 kj10 l0 l2 x10_1 t155 (Int.tmod (wrap64 (Int.tdiv t155 8)) (wrap64 (1 + t148))) (Int.tmod (wrap64 (Int.tdiv t155 80)) (wrap64 (1 + t148))) (Int.tmod t155 8) ((Int.tmod t155 8) == 3) (wrap64 (1 + t148)) (wrap64 (1 + t149)) x151002_1 x151003_1 x151004_1 x151005_1 x151006_1))))) = some (r1, r2, r3, r4, r5, r6, r7) := H
        have A16 := Aside0.mk A160
        clear A160
        by_cases c17 : (wrap64 (1 + t148)) = 0
        ·rw [if_pos c17] at H
         exact absurd H (by simp)
        ·rw [if_neg c17] at H
         have c17b0 : ((wrap64 (1 + t148)) == 0) = false := beq_eq_false_iff_ne.mpr c17
         have c17b1 : ((wrap64 (1 + t148)) != 0) = true := bne_iff_ne.mpr c17
         by_cases c18 : (Int.tmod t155 8) = 0
         ·rw [if_pos c18] at H
          have c18b0 : ((Int.tmod t155 8) == 0) = true := beq_iff_eq.mpr c18
          have c18b1 : ((Int.tmod t155 8) != 0) = false := bne_eq_false_iff_eq.mpr c18
          clear c18
          by_cases c19 : x151002_1.length < 17592186044416
          ·rw [if_pos c19] at H
           have LMc19 := Aside0.mk c19
           clear c19
           obtain ⟨y156, hy156⟩ : ∃ y_ : List Int, y_ = (x151002_1 ++ [Int.tmod (wrap64 (Int.tdiv t155 8)) (wrap64 (1 + t148))]) := ⟨_, rfl⟩
           replace H : (canopylaw3_Make.l0 kj10 l0 l2 (wrap64 (x10_1 + 1)) (wrap64 (1 + t148)) (wrap64 (1 + t149)) y156 x151003_1 x151004_1 x151005_1 x151006_1) = some (r1, r2, r3, r4, r5, r6, r7) := by first | (rw [hy156]; with_reducible exact H) | (have H2_ := (Option.bind_some _ _).symm.trans H; rw [hy156]; with_reducible exact H2_) | (have H2_ := (Option.bind_some _ _).symm.trans H; with_reducible exact H2_) | with_reducible exact H | (rw [hy156]; exact H) | exact H
           have Ny156 := Aside0.mk hy156
           clear hy156
           have H' := Aside0.mk H
           clear H
           have p154 : 0 ≤ (x10_1 : Int) := of_decide_eq_true (by first | (with_reducible assumption) | assumption)
           have q154 : x10_1 < (l2.length : Int) := of_decide_eq_true (by first | (with_reducible assumption) | assumption)
           obtain ⟨ad154, e154, hx154_0⟩ := Kd.at_int HR2.out x10_1 p154 q154
           cases e154
           replace hx154_0 := (HB.out.cell (World.block_lt_of_cell? w _ hx154_0)).trans hx154_0
           replace p154 := eq_true p154
           replace q154 := eq_true q154
           try go_wp2_with (first | ((with_reducible refine gate_callee (f := 31) rfl ?_); refine goesL_ (some 40) rfl rfl Try.func31 (by kernel_rfl) rfl #[.int .i64 (rd l2 x10_1), .int .i64 1099511627776] rfl (by (try simp only [List.map_toArray, List.map_cons, List.map_nil]); first | done | rfl | (simp only [List.length_drop, List.length_take]; rfl)) ?_; (with_reducible refine (canopylaw3_within.calls (rd l2 x10_1) 1099511627776 t155 _ A16.out).mono ?_); rintro e w' ⟨rfl, ⟨nd, rfl⟩⟩; refine ⟨_, rfl, ?_⟩; (try (rw [drewN_self wc]; generalize hq_ : World.drewN wc _ = wc; have n0_ : Aside0 (Kd.R (Kd.int .i64) 3 wc w.heap.size (fun k_ => some k_ ≠ (u151003 : Value).ownBlock) u151002 x151002_1) := ⟨by rw [← hq_]; exact (by (with_reducible repeat (first | apply Kd.R_alloc | apply Kd.R_drewN | apply Kd.R_drew)); exact HO_151002.out)⟩; have n1_ : Aside0 (Kd.R (Kd.int .i64) 3 wc w.heap.size (fun k_ => some k_ ≠ (u151002 : Value).ownBlock) u151003 x151003_1) := ⟨by rw [← hq_]; exact (by (with_reducible repeat (first | apply Kd.R_alloc | apply Kd.R_drewN | apply Kd.R_drew)); exact HO_151003.out)⟩; have n2_ : Aside0 (Kd.R k52 52 wc w.heap.size (fun _ => True) u151004 x151004_1) := ⟨by rw [← hq_]; exact (by (with_reducible repeat (first | apply Kd.R_alloc | apply Kd.R_drewN | apply Kd.R_drew)); exact HO_151004.out)⟩; have n3_ : Aside0 (Kd.R k54 54 wc w.heap.size (fun _ => True) u151005 x151005_1) := ⟨by rw [← hq_]; exact (by (with_reducible repeat (first | apply Kd.R_alloc | apply Kd.R_drewN | apply Kd.R_drew)); exact HO_151005.out)⟩; have n4_ : Aside0 (Kd.R k56 56 wc w.heap.size (fun _ => True) u151006 x151006_1) := ⟨by rw [← hq_]; exact (by (with_reducible repeat (first | apply Kd.R_alloc | apply Kd.R_drewN | apply Kd.R_drew)); exact HO_151006.out)⟩; have n5_ : Aside0 (wc.heap[gb147]? = some (.cells #[.int .i64 0, .int .i64 0, .slice none 0 0, .slice none 0 0, .slice none 0 0, .slice none 0 0, .slice none 0 0] 30 (0, 0))) := ⟨by rw [← hq_]; exact (by (with_reducible repeat (first | refine blk_drewN ?_ _ | refine blk_drew ?_ | refine blk_alloc ?_ _)); exact BK147.out)⟩; have n6_ : Aside0 (wc.heap[gb150]? = some (.cells #[.int .i64 (wrap64 (1 + t148)), .int .i64 (wrap64 (1 + t149)), u151002, u151003, u151004, u151005, u151006] 30 (0, 0))) := ⟨by rw [← hq_]; exact (by (with_reducible repeat (first | refine blk_drewN ?_ _ | refine blk_drew ?_ | refine blk_alloc ?_ _)); exact BK150.out)⟩; have n7_ : Aside0 (Below w.heap.size w wc) := ⟨by rw [← hq_]; exact (by repeat (first | (with_reducible first | exact HB.out | apply below_alloc | apply pw_below_drewN | apply below_drew1 | refine below_set ?_ GE147.out | refine below_set ?_ GE150.out) | exact HB.out))⟩; clear HO_151002 HO_151003 HO_151004 HO_151005 HO_151006 BK147 BK150 HB hq_; have HO_151002 := n0_; have HO_151003 := n1_; have HO_151004 := n2_; have HO_151005 := n3_; have HO_151006 := n4_; have BK147 := n5_; have BK150 := n6_; have HB := n7_; clear n0_ n1_ n2_ n3_ n4_ n5_ n6_ n7_))))
           have n0_ := Aside0.mk (Kd.R_drew HO_151002.out)
           have n1_ := Aside0.mk (Kd.R_drew HO_151003.out)
           have n2_ := Aside0.mk (Kd.R_drew HO_151004.out)
           have n3_ := Aside0.mk (Kd.R_drew HO_151005.out)
           have n4_ := Aside0.mk (Kd.R_drew HO_151006.out)
           have n5_ := Aside0.mk (blk_drew BK147.out)
           have n6_ := Aside0.mk (blk_drew BK150.out)
           have n7_ := Aside0.mk (below_drew1 HB.out)
           clear HO_151002
           clear HO_151003
           clear HO_151004
           clear HO_151005
           clear HO_151006
           clear BK147
           clear BK150
           clear HB
           have HO_151002 := n0_
           have HO_151003 := n1_
           have HO_151004 := n2_
           have HO_151005 := n3_
           have HO_151006 := n4_
           have BK147 := n5_
           have BK150 := n6_
           have HB := n7_
           clear n0_ n1_ n2_ n3_ n4_ n5_ n6_ n7_
           refine start_ (n := 12) (S := fun w' => w'.cell? ⟨gb150, 0, none⟩ = some (.int .i64 (wrap64 (1 + t148))) ∧ w'.cell? ⟨gb150, 1, none⟩ = some (.int .i64 (wrap64 (1 + t149))) ∧ w'.cell? ⟨gb150, 2, none⟩ = some (u151002) ∧ w'.cell? ⟨gb150, 3, none⟩ = some (u151003) ∧ w'.cell? ⟨gb150, 4, none⟩ = some (u151004) ∧ w'.cell? ⟨gb150, 5, none⟩ = some (u151005) ∧ w'.cell? ⟨gb150, 6, none⟩ = some (u151006)) (ds := []) #[false, false, false, false, false, false, false, false, false, false, false, false] (by kernel_rfl) rfl rfl ⟨(blk_cell BK150.out 0).trans rfl, (blk_cell BK150.out 1).trans rfl, (blk_cell BK150.out 2).trans rfl, (blk_cell BK150.out 3).trans rfl, (blk_cell BK150.out 4).trans rfl, (blk_cell BK150.out 5).trans rfl, (blk_cell BK150.out 6).trans rfl⟩ (fun hHeld => ?_); refine with_tabW canopylaw3_Make.tab6 canopylaw3_Make.bits6 (fun HT_ HW_ => ?_)
           generalize wc.drew = w20 at HO_151002 HO_151003 HO_151004 HO_151005 HO_151006 BK147 BK150 HB hHeld ⊢
           refine pure_ (i := 0) (N := some 41) (v := ?_) (a' := ?_) #[true, false, false, false, false, false, false, false, false, false, false, false] rfl rfl (any_of HT_.out (by kernel_rfl)) (fun _ _ _ h => h) (Or.inl ⟨by rfl, ?_⟩) ?_ ?_
           rotate_left
           ·intro w'
            go_simp
            with_reducible rfl
           rotate_left
           ·simp only [Act.put, List.setIfInBounds_toArray, List.set_cons_zero, List.set_cons_succ, i64_w, i32_w]
            rfl
           refine pure_ (i := 1) (N := some 42) (v := ?_) (a' := ?_) #[true, true, false, false, false, false, false, false, false, false, false, false] rfl rfl (any_of HT_.out (by kernel_rfl)) (fun _ _ _ h => h) (Or.inl ⟨by rfl, ?_⟩) ?_ ?_
           rotate_left
           ·intro w'
            go_simp
            with_reducible rfl
           rotate_left
           ·simp only [Act.put, List.setIfInBounds_toArray, List.set_cons_zero, List.set_cons_succ, i64_w, i32_w]
            rfl
           refine pure_ (i := 2) (N := some 43) (v := ?_) (a' := ?_) #[true, true, true, false, false, false, false, false, false, false, false, false] rfl rfl (any_of HT_.out (by kernel_rfl)) (fun _ _ _ h => h) (Or.inl ⟨by rfl, ?_⟩) ?_ ?_
           rotate_left
           ·intro w'
            go_simp
            with_reducible rfl
           rotate_left
           ·simp only [Act.put, List.setIfInBounds_toArray, List.set_cons_zero, List.set_cons_succ, i64_w, i32_w]
            rfl
           refine pure_ (i := 5) (N := some 46) (v := ?_) (a' := ?_) #[true, true, true, false, false, true, false, false, false, false, false, false] rfl rfl (any_of HT_.out (by kernel_rfl)) (fun _ _ _ h => h) (Or.inl ⟨by rfl, ?_⟩) ?_ ?_
           rotate_left
           ·intro w'
            go_simp
            with_reducible rfl
           rotate_left
           ·simp only [Act.put, List.setIfInBounds_toArray, List.set_cons_zero, List.set_cons_succ, i64_w, i32_w]
            rfl
           refine pure_ (i := 6) (N := some 47) (v := ?_) (a' := ?_) #[true, true, true, false, false, true, true, false, false, false, false, false] rfl rfl (any_of HT_.out (by kernel_rfl)) (fun _ _ _ h => h) (Or.inl ⟨by rfl, ?_⟩) ?_ ?_
           rotate_left
           ·intro w'
            go_simp
            with_reducible rfl
           rotate_left
           ·simp only [Act.put, List.setIfInBounds_toArray, List.set_cons_zero, List.set_cons_succ, i64_w, i32_w]
            rfl
           refine pure_ (i := 7) (N := some 48) (v := ?_) (a' := ?_) #[true, true, true, false, false, true, true, true, false, false, false, false] rfl rfl (any_of HT_.out (by kernel_rfl)) (fun _ _ _ h => h) (Or.inl ⟨by rfl, ?_⟩) ?_ ?_
           rotate_left
           ·intro w'
            go_simp
            with_reducible rfl
           rotate_left
           ·simp only [Act.put, List.setIfInBounds_toArray, List.set_cons_zero, List.set_cons_succ, i64_w, i32_w]
            rfl
           refine take_ (i := 3) (N := some 44) (v := ?_) (a' := ?_) #[true, true, true, true, false, true, true, true, false, false, false, false] rfl rfl (take_ofW HT_.out HW_.out (by kernel_rfl)) (fun _ _ _ h => h) (Or.inl ⟨by rfl, ?_⟩) hHeld ?_ ?_
           rotate_left
           ·rintro w' ⟨s0, s1, s2, s3, s4, s5, s6⟩
            go_simp
            with_reducible rfl
           rotate_left
           ·simp only [Act.put, List.setIfInBounds_toArray, List.set_cons_zero, List.set_cons_succ, i64_w, i32_w]
            rfl
           refine pure_ (i := 4) (N := some 45) (v := ?_) (a' := ?_) #[true, true, true, true, true, true, true, true, false, false, false, false] rfl rfl (any_of HT_.out (by kernel_rfl)) (fun _ _ _ h => h) (Or.inl ⟨by rfl, ?_⟩) ?_ ?_
           rotate_left
           ·intro w'
            go_simp
            with_reducible rfl
           rotate_left
           ·simp only [Act.put, List.setIfInBounds_toArray, List.set_cons_zero, List.set_cons_succ, i64_w, i32_w]
            rfl
           refine pure_ (i := 10) (N := some 12) (v := ?_) (a' := ?_) #[true, true, true, true, true, true, true, true, false, false, true, false] rfl rfl (any_of HT_.out (by kernel_rfl)) (fun _ _ _ h => h) (Or.inl ⟨by rfl, ?_⟩) ?_ ?_
           rotate_left
           ·intro w'
            go_simp
            with_reducible rfl
           rotate_left
           ·simp only [Act.put, List.setIfInBounds_toArray, List.set_cons_zero, List.set_cons_succ, i64_w, i32_w]
            rfl
           refine take_ (i := 8) (N := some 49) (v := ?_) (a' := ?_) #[true, true, true, true, true, true, true, true, true, false, true, false] rfl rfl (take_ofW HT_.out HW_.out (by kernel_rfl)) (fun _ _ _ h => h) (Or.inl ⟨by rfl, ?_⟩) hHeld ?_ ?_
           rotate_left
           ·rintro w' ⟨s0, s1, s2, s3, s4, s5, s6⟩
            go_simp
            with_reducible rfl
           rotate_left
           ·simp only [Act.put, List.setIfInBounds_toArray, List.set_cons_zero, List.set_cons_succ, i64_w, i32_w]
            rfl
           refine pure_ (i := 9) (N := some 50) (v := ?_) (a' := ?_) #[true, true, true, true, true, true, true, true, true, true, true, false] rfl rfl (any_of HT_.out (by kernel_rfl)) (fun _ _ _ h => h) (Or.inl ⟨by rfl, ?_⟩) ?_ ?_
           rotate_left
           ·intro w'
            go_simp
            with_reducible rfl
           rotate_left
           ·simp only [Act.put, List.setIfInBounds_toArray, List.set_cons_zero, List.set_cons_succ, i64_w, i32_w]
            rfl
           refine pure_ (i := 11) (N := some 13) (v := ?_) (a' := ?_) #[true, true, true, true, true, true, true, true, true, true, true, true] rfl rfl (any_of HT_.out (by kernel_rfl)) (fun _ _ _ h => h) (Or.inl ⟨by rfl, ?_⟩) ?_ ?_
           rotate_left
           ·intro w'
            go_simp
            with_reducible rfl
           rotate_left
           ·simp only [Act.put, List.setIfInBounds_toArray, List.set_cons_zero, List.set_cons_succ, i64_w, i32_w]
            rfl
           refine done_ (done_of HT_.out (by kernel_rfl)) ?_
           have hnb21 := NB150_147.out
           have hnc21 := NB147_150.out
           have hcz22_0 : w20.cell? ⟨gb150, 0, none⟩ = some (.int .i64 (wrap64 (1 + t148))) := (blk_cell BK150.out 0).trans rfl
           have hcz22_1 : w20.cell? ⟨gb150, 1, none⟩ = some (.int .i64 (wrap64 (1 + t149))) := (blk_cell BK150.out 1).trans rfl
           have hcz22_2 : w20.cell? ⟨gb150, 2, none⟩ = some (u151002) := (blk_cell BK150.out 2).trans rfl
           have hcz22_3 : w20.cell? ⟨gb150, 3, none⟩ = some (u151003) := (blk_cell BK150.out 3).trans rfl
           have hcz22_4 : w20.cell? ⟨gb150, 4, none⟩ = some (u151004) := (blk_cell BK150.out 4).trans rfl
           have hcz22_5 : w20.cell? ⟨gb150, 5, none⟩ = some (u151005) := (blk_cell BK150.out 5).trans rfl
           have hcz22_6 : w20.cell? ⟨gb150, 6, none⟩ = some (u151006) := (blk_cell BK150.out 6).trans rfl
           have hfz22_0 := blk_frozen BK150.out 0
           have hfz22_1 := blk_frozen BK150.out 1
           have hfz22_2 := blk_frozen BK150.out 2
           have hfz22_3 := blk_frozen BK150.out 3
           have hfz22_4 := blk_frozen BK150.out 4
           have hfz22_5 := blk_frozen BK150.out 5
           have hfz22_6 := blk_frozen BK150.out 6
           try go_wp2_with (first | ((with_reducible refine gate_builtin (b := .append) (xs := #[.tmp 72, .tmp 74]) rfl ?_); at_builtin; refine Kd.R_append (Kd.int .i64) (w0 := w) w.heap.size rfl (.tmp 72) (.tmp 74) 22 3 (.int .i64 0) 8 rfl Try.underlying22 info3 rfl (by decide) (by omega) u151002 x151002_1 (Int.tmod (wrap64 (Int.tdiv t155 8)) (wrap64 (1 + t148))) [.int .i64 (Int.tmod (wrap64 (Int.tdiv t155 8)) (wrap64 (1 + t148)))] (fun k_ => some k_ ≠ (u151003 : Value).ownBlock) (fun _ => False) rfl rfl ?aP (fun _ hk => hk.elim) ?aF ?aO ?aB ?aS ?aL ?_; (case aP => exact rfl); (case aB => exact (by repeat (first | (with_reducible first | exact HB.out | apply below_alloc | apply pw_below_drewN | apply below_drew1 | refine below_set ?_ GE147.out | refine below_set ?_ GE150.out) | exact HB.out))); (case aF => exact (fun k_ hk => Kd.fresh' (Kd.R_lt (by (with_reducible repeat (first | apply Kd.R_alloc | apply Kd.R_drewN | apply Kd.R_drew)); exact HO_151003.out)) k_ hk)); (case aO => exact (by (with_reducible repeat (first | apply Kd.R_alloc | apply Kd.R_drewN | apply Kd.R_drew)); exact HO_151002.out)); (case aS => exact (below_size (by repeat (first | (with_reducible first | exact HB.out | apply below_alloc | apply pw_below_drewN | apply below_drew1 | refine below_set ?_ GE147.out | refine below_set ?_ GE150.out) | exact HB.out)))); (case aL => have := LMc19.out; omega); intro v157 w23 ho hb hg hat; rw [← Ny156.out] at ho; have n0_ := Aside0.mk (Kd.R_after (ok := (fun _ => True)) (by (with_reducible repeat (first | apply Kd.R_alloc | apply Kd.R_drewN | apply Kd.R_drew)); exact Kd.R_mono HO_151003.out (fun _ hk => ⟨trivial, hk⟩)) hg hat); have n1_ := Aside0.mk (Kd.R_over' (by (with_reducible repeat (first | apply Kd.R_alloc | apply Kd.R_drewN | apply Kd.R_drew)); exact HO_151004.out) (Kd.R_typed (by (with_reducible repeat (first | apply Kd.R_alloc | apply Kd.R_drewN | apply Kd.R_drew)); exact HO_151002.out)) (by decide) hg); have n2_ := Aside0.mk (Kd.R_over' (by (with_reducible repeat (first | apply Kd.R_alloc | apply Kd.R_drewN | apply Kd.R_drew)); exact HO_151005.out) (Kd.R_typed (by (with_reducible repeat (first | apply Kd.R_alloc | apply Kd.R_drewN | apply Kd.R_drew)); exact HO_151002.out)) (by decide) hg); have n3_ := Aside0.mk (Kd.R_over' (by (with_reducible repeat (first | apply Kd.R_alloc | apply Kd.R_drewN | apply Kd.R_drew)); exact HO_151006.out) (Kd.R_typed (by (with_reducible repeat (first | apply Kd.R_alloc | apply Kd.R_drewN | apply Kd.R_drew)); exact HO_151002.out)) (by decide) hg); have n4_ := Aside0.mk (blk_grown (g := gb147) (o := .cells #[.int .i64 0, .int .i64 0, .slice none 0 0, .slice none 0 0, .slice none 0 0, .slice none 0 0, .slice none 0 0] 30 (0, 0)) (by (with_reducible repeat (first | refine blk_drewN ?_ _ | refine blk_drew ?_ | refine blk_alloc ?_ _)); exact BK147.out) hg (Kd.R_ne HO_151002.out BK147.out (by decide))); have n5_ := Aside0.mk (blk_grown (g := gb150) (o := .cells #[.int .i64 (wrap64 (1 + t148)), .int .i64 (wrap64 (1 + t149)), u151002, u151003, u151004, u151005, u151006] 30 (0, 0)) (by (with_reducible repeat (first | refine blk_drewN ?_ _ | refine blk_drew ?_ | refine blk_alloc ?_ _)); exact BK150.out) hg (Kd.R_ne HO_151002.out BK150.out (by decide))); have n6_ := Aside0.mk (hb); have n7_ := Aside0.mk (ho); clear HO_151003; clear HO_151004; clear HO_151005; clear HO_151006; clear BK147; clear BK150; clear HB; clear HO_151002; have HO_151003 := n0_; have HO_151004 := n1_; have HO_151005 := n2_; have HO_151006 := n3_; have BK147 := n4_; have BK150 := n5_; have HB := n6_; have HO158 := n7_; clear n0_ n1_ n2_ n3_ n4_ n5_ n6_ n7_; clear ho hb hg hat; obtain ⟨Ao24, co24, eo24⟩ := Kd.R_slice HO158.out; subst eo24; have hcz25_0 : w23.cell? ⟨gb150, 0, none⟩ = some (.int .i64 (wrap64 (1 + t148))) := (blk_cell BK150.out 0).trans rfl; have hcz25_1 : w23.cell? ⟨gb150, 1, none⟩ = some (.int .i64 (wrap64 (1 + t149))) := (blk_cell BK150.out 1).trans rfl; have hcz25_2 : w23.cell? ⟨gb150, 2, none⟩ = some (u151002) := (blk_cell BK150.out 2).trans rfl; have hcz25_3 : w23.cell? ⟨gb150, 3, none⟩ = some (u151003) := (blk_cell BK150.out 3).trans rfl; have hcz25_4 : w23.cell? ⟨gb150, 4, none⟩ = some (u151004) := (blk_cell BK150.out 4).trans rfl; have hcz25_5 : w23.cell? ⟨gb150, 5, none⟩ = some (u151005) := (blk_cell BK150.out 5).trans rfl; have hcz25_6 : w23.cell? ⟨gb150, 6, none⟩ = some (u151006) := (blk_cell BK150.out 6).trans rfl; have hfz25_0 := blk_frozen BK150.out 0; have hfz25_1 := blk_frozen BK150.out 1; have hfz25_2 := blk_frozen BK150.out 2; have hfz25_3 := blk_frozen BK150.out 3; have hfz25_4 := blk_frozen BK150.out 4; have hfz25_5 := blk_frozen BK150.out 5; have hfz25_6 := blk_frozen BK150.out 6))
           go_roundg kj10
           case measure => have := HK1.out; have := HJ10.out; omega
           case rel => exact ⟨(wrap64 (x10_1 + 1)), (y156), (x151003_1), (x151004_1), (x151005_1), (x151006_1), (.slice Ao24 y156.length co24), (u151003), (u151004), (u151005), (u151006), (by first | rfl | (simp; done) | (simp [*]; done)), H', ⟨by have := HK1.out; have := HJ10.out; omega⟩, ⟨by (with_reducible repeat (first | apply Kd.R_alloc | apply Kd.R_drewN | apply Kd.R_drew)); exact Kd.R_mono (Kd.R_far (p := ⟨gb150, 2, none⟩) (Kd.R_types HO158.out BK150.out (by decide)) (fun _ hk => hk.2) (.slice Ao24 y156.length co24)) (fun _ hk => hk.1)⟩, ⟨by (with_reducible repeat (first | apply Kd.R_alloc | apply Kd.R_drewN | apply Kd.R_drew)); exact Kd.R_mono (Kd.R_far (p := ⟨gb150, 2, none⟩) (Kd.R_types HO_151003.out BK150.out (by decide)) (fun _ hk => hk.2) (.slice Ao24 y156.length co24)) (fun _ hk => hk.1.2)⟩, ⟨by (with_reducible repeat (first | apply Kd.R_alloc | apply Kd.R_drewN | apply Kd.R_drew)); exact Kd.R_mono (Kd.R_far (p := ⟨gb150, 2, none⟩) (Kd.R_types HO_151004.out BK150.out (by decide)) (fun _ hk => hk.2) (.slice Ao24 y156.length co24)) (fun _ hk => trivial)⟩, ⟨by (with_reducible repeat (first | apply Kd.R_alloc | apply Kd.R_drewN | apply Kd.R_drew)); exact Kd.R_mono (Kd.R_far (p := ⟨gb150, 2, none⟩) (Kd.R_types HO_151005.out BK150.out (by decide)) (fun _ hk => hk.2) (.slice Ao24 y156.length co24)) (fun _ hk => trivial)⟩, ⟨by (with_reducible repeat (first | apply Kd.R_alloc | apply Kd.R_drewN | apply Kd.R_drew)); exact Kd.R_mono (Kd.R_far (p := ⟨gb150, 2, none⟩) (Kd.R_types HO_151006.out BK150.out (by decide)) (fun _ hk => hk.2) (.slice Ao24 y156.length co24)) (fun _ hk => trivial)⟩, ⟨by (with_reducible repeat (first | refine blk_drewN ?_ _ | refine blk_drew ?_ | refine blk_alloc ?_ _)); refine blk_far ?_ NB147_150.out _; (with_reducible repeat (first | refine blk_drewN ?_ _ | refine blk_drew ?_ | refine blk_alloc ?_ _)); exact BK147.out⟩, ⟨by (with_reducible repeat (first | refine blk_drewN ?_ _ | refine blk_drew ?_ | refine blk_alloc ?_ _)); refine blk_put (cs := #[.int .i64 (wrap64 (1 + t148)), .int .i64 (wrap64 (1 + t149)), u151002, u151003, u151004, u151005, u151006]) ?_ 2 _ rfl; (with_reducible repeat (first | refine blk_drewN ?_ _ | refine blk_drew ?_ | refine blk_alloc ?_ _)); exact BK150.out⟩, ⟨by repeat (first | (with_reducible first | exact HB.out | apply below_alloc | apply pw_below_drewN | apply below_drew1 | refine below_set ?_ GE147.out | refine below_set ?_ GE150.out) | exact HB.out)⟩⟩
          ·rw [if_neg c19] at H
           exact absurd H (by simp)
         ·rw [if_neg c18] at H
          have c18b0 : ((Int.tmod t155 8) == 0) = false := beq_eq_false_iff_ne.mpr c18
          have c18b1 : ((Int.tmod t155 8) != 0) = true := bne_iff_ne.mpr c18
          by_cases c26 : (Int.tmod t155 8) = 1
          ·rw [if_pos c26] at H
           have c26b0 : ((Int.tmod t155 8) == 1) = true := beq_iff_eq.mpr c26
           have c26b1 : ((Int.tmod t155 8) != 1) = false := bne_eq_false_iff_eq.mpr c26
           clear c26
           by_cases c27 : x151003_1.length < 17592186044416
           ·rw [if_pos c27] at H
            have LMc27 := Aside0.mk c27
            clear c27
            obtain ⟨y159, hy159⟩ : ∃ y_ : List Int, y_ = (x151003_1 ++ [Int.tmod (wrap64 (Int.tdiv t155 8)) (wrap64 (1 + t148))]) := ⟨_, rfl⟩
            replace H : (canopylaw3_Make.l0 kj10 l0 l2 (wrap64 (x10_1 + 1)) (wrap64 (1 + t148)) (wrap64 (1 + t149)) x151002_1 y159 x151004_1 x151005_1 x151006_1) = some (r1, r2, r3, r4, r5, r6, r7) := by first | (rw [hy159]; with_reducible exact H) | (have H2_ := (Option.bind_some _ _).symm.trans H; rw [hy159]; with_reducible exact H2_) | (have H2_ := (Option.bind_some _ _).symm.trans H; with_reducible exact H2_) | with_reducible exact H | (rw [hy159]; exact H) | exact H
            have Ny159 := Aside0.mk hy159
            clear hy159
            have H' := Aside0.mk H
            clear H
            have p154 : 0 ≤ (x10_1 : Int) := of_decide_eq_true (by first | (with_reducible assumption) | assumption)
            have q154 : x10_1 < (l2.length : Int) := of_decide_eq_true (by first | (with_reducible assumption) | assumption)
            obtain ⟨ad154, e154, hx154_0⟩ := Kd.at_int HR2.out x10_1 p154 q154
            cases e154
            replace hx154_0 := (HB.out.cell (World.block_lt_of_cell? w _ hx154_0)).trans hx154_0
            replace p154 := eq_true p154
            replace q154 := eq_true q154
            try go_wp2_with (first | ((with_reducible refine gate_callee (f := 31) rfl ?_); refine goesL_ (some 40) rfl rfl Try.func31 (by kernel_rfl) rfl #[.int .i64 (rd l2 x10_1), .int .i64 1099511627776] rfl (by (try simp only [List.map_toArray, List.map_cons, List.map_nil]); first | done | rfl | (simp only [List.length_drop, List.length_take]; rfl)) ?_; (with_reducible refine (canopylaw3_within.calls (rd l2 x10_1) 1099511627776 t155 _ A16.out).mono ?_); rintro e w' ⟨rfl, ⟨nd, rfl⟩⟩; refine ⟨_, rfl, ?_⟩; (try (rw [drewN_self wc]; generalize hq_ : World.drewN wc _ = wc; have n0_ : Aside0 (Kd.R (Kd.int .i64) 3 wc w.heap.size (fun k_ => some k_ ≠ (u151003 : Value).ownBlock) u151002 x151002_1) := ⟨by rw [← hq_]; exact (by (with_reducible repeat (first | apply Kd.R_alloc | apply Kd.R_drewN | apply Kd.R_drew)); exact HO_151002.out)⟩; have n1_ : Aside0 (Kd.R (Kd.int .i64) 3 wc w.heap.size (fun k_ => some k_ ≠ (u151002 : Value).ownBlock) u151003 x151003_1) := ⟨by rw [← hq_]; exact (by (with_reducible repeat (first | apply Kd.R_alloc | apply Kd.R_drewN | apply Kd.R_drew)); exact HO_151003.out)⟩; have n2_ : Aside0 (Kd.R k52 52 wc w.heap.size (fun _ => True) u151004 x151004_1) := ⟨by rw [← hq_]; exact (by (with_reducible repeat (first | apply Kd.R_alloc | apply Kd.R_drewN | apply Kd.R_drew)); exact HO_151004.out)⟩; have n3_ : Aside0 (Kd.R k54 54 wc w.heap.size (fun _ => True) u151005 x151005_1) := ⟨by rw [← hq_]; exact (by (with_reducible repeat (first | apply Kd.R_alloc | apply Kd.R_drewN | apply Kd.R_drew)); exact HO_151005.out)⟩; have n4_ : Aside0 (Kd.R k56 56 wc w.heap.size (fun _ => True) u151006 x151006_1) := ⟨by rw [← hq_]; exact (by (with_reducible repeat (first | apply Kd.R_alloc | apply Kd.R_drewN | apply Kd.R_drew)); exact HO_151006.out)⟩; have n5_ : Aside0 (wc.heap[gb147]? = some (.cells #[.int .i64 0, .int .i64 0, .slice none 0 0, .slice none 0 0, .slice none 0 0, .slice none 0 0, .slice none 0 0] 30 (0, 0))) := ⟨by rw [← hq_]; exact (by (with_reducible repeat (first | refine blk_drewN ?_ _ | refine blk_drew ?_ | refine blk_alloc ?_ _)); exact BK147.out)⟩; have n6_ : Aside0 (wc.heap[gb150]? = some (.cells #[.int .i64 (wrap64 (1 + t148)), .int .i64 (wrap64 (1 + t149)), u151002, u151003, u151004, u151005, u151006] 30 (0, 0))) := ⟨by rw [← hq_]; exact (by (with_reducible repeat (first | refine blk_drewN ?_ _ | refine blk_drew ?_ | refine blk_alloc ?_ _)); exact BK150.out)⟩; have n7_ : Aside0 (Below w.heap.size w wc) := ⟨by rw [← hq_]; exact (by repeat (first | (with_reducible first | exact HB.out | apply below_alloc | apply pw_below_drewN | apply below_drew1 | refine below_set ?_ GE147.out | refine below_set ?_ GE150.out) | exact HB.out))⟩; clear HO_151002 HO_151003 HO_151004 HO_151005 HO_151006 BK147 BK150 HB hq_; have HO_151002 := n0_; have HO_151003 := n1_; have HO_151004 := n2_; have HO_151005 := n3_; have HO_151006 := n4_; have BK147 := n5_; have BK150 := n6_; have HB := n7_; clear n0_ n1_ n2_ n3_ n4_ n5_ n6_ n7_))))
            have n0_ := Aside0.mk (Kd.R_drew HO_151002.out)
            have n1_ := Aside0.mk (Kd.R_drew HO_151003.out)
            have n2_ := Aside0.mk (Kd.R_drew HO_151004.out)
            have n3_ := Aside0.mk (Kd.R_drew HO_151005.out)
            have n4_ := Aside0.mk (Kd.R_drew HO_151006.out)
            have n5_ := Aside0.mk (blk_drew BK147.out)
            have n6_ := Aside0.mk (blk_drew BK150.out)
            have n7_ := Aside0.mk (below_drew1 HB.out)
            clear HO_151002
            clear HO_151003
            clear HO_151004
            clear HO_151005
            clear HO_151006
            clear BK147
            clear BK150
            clear HB
            have HO_151002 := n0_
            have HO_151003 := n1_
            have HO_151004 := n2_
            have HO_151005 := n3_
            have HO_151006 := n4_
            have BK147 := n5_
            have BK150 := n6_
            have HB := n7_
            clear n0_ n1_ n2_ n3_ n4_ n5_ n6_ n7_
            refine start_ (n := 12) (S := fun w' => w'.cell? ⟨gb150, 0, none⟩ = some (.int .i64 (wrap64 (1 + t148))) ∧ w'.cell? ⟨gb150, 1, none⟩ = some (.int .i64 (wrap64 (1 + t149))) ∧ w'.cell? ⟨gb150, 2, none⟩ = some (u151002) ∧ w'.cell? ⟨gb150, 3, none⟩ = some (u151003) ∧ w'.cell? ⟨gb150, 4, none⟩ = some (u151004) ∧ w'.cell? ⟨gb150, 5, none⟩ = some (u151005) ∧ w'.cell? ⟨gb150, 6, none⟩ = some (u151006)) (ds := []) #[false, false, false, false, false, false, false, false, false, false, false, false] (by kernel_rfl) rfl rfl ⟨(blk_cell BK150.out 0).trans rfl, (blk_cell BK150.out 1).trans rfl, (blk_cell BK150.out 2).trans rfl, (blk_cell BK150.out 3).trans rfl, (blk_cell BK150.out 4).trans rfl, (blk_cell BK150.out 5).trans rfl, (blk_cell BK150.out 6).trans rfl⟩ (fun hHeld => ?_); refine with_tabW canopylaw3_Make.tab6 canopylaw3_Make.bits6 (fun HT_ HW_ => ?_)
            generalize wc.drew = w28 at HO_151002 HO_151003 HO_151004 HO_151005 HO_151006 BK147 BK150 HB hHeld ⊢
            refine pure_ (i := 0) (N := some 41) (v := ?_) (a' := ?_) #[true, false, false, false, false, false, false, false, false, false, false, false] rfl rfl (any_of HT_.out (by kernel_rfl)) (fun _ _ _ h => h) (Or.inl ⟨by rfl, ?_⟩) ?_ ?_
            rotate_left
            ·intro w'
             go_simp
             with_reducible rfl
            rotate_left
            ·simp only [Act.put, List.setIfInBounds_toArray, List.set_cons_zero, List.set_cons_succ, i64_w, i32_w]
             rfl
            refine pure_ (i := 1) (N := some 42) (v := ?_) (a' := ?_) #[true, true, false, false, false, false, false, false, false, false, false, false] rfl rfl (any_of HT_.out (by kernel_rfl)) (fun _ _ _ h => h) (Or.inl ⟨by rfl, ?_⟩) ?_ ?_
            rotate_left
            ·intro w'
             go_simp
             with_reducible rfl
            rotate_left
            ·simp only [Act.put, List.setIfInBounds_toArray, List.set_cons_zero, List.set_cons_succ, i64_w, i32_w]
             rfl
            refine pure_ (i := 2) (N := some 43) (v := ?_) (a' := ?_) #[true, true, true, false, false, false, false, false, false, false, false, false] rfl rfl (any_of HT_.out (by kernel_rfl)) (fun _ _ _ h => h) (Or.inl ⟨by rfl, ?_⟩) ?_ ?_
            rotate_left
            ·intro w'
             go_simp
             with_reducible rfl
            rotate_left
            ·simp only [Act.put, List.setIfInBounds_toArray, List.set_cons_zero, List.set_cons_succ, i64_w, i32_w]
             rfl
            refine pure_ (i := 5) (N := some 46) (v := ?_) (a' := ?_) #[true, true, true, false, false, true, false, false, false, false, false, false] rfl rfl (any_of HT_.out (by kernel_rfl)) (fun _ _ _ h => h) (Or.inl ⟨by rfl, ?_⟩) ?_ ?_
            rotate_left
            ·intro w'
             go_simp
             with_reducible rfl
            rotate_left
            ·simp only [Act.put, List.setIfInBounds_toArray, List.set_cons_zero, List.set_cons_succ, i64_w, i32_w]
             rfl
            refine pure_ (i := 6) (N := some 47) (v := ?_) (a' := ?_) #[true, true, true, false, false, true, true, false, false, false, false, false] rfl rfl (any_of HT_.out (by kernel_rfl)) (fun _ _ _ h => h) (Or.inl ⟨by rfl, ?_⟩) ?_ ?_
            rotate_left
            ·intro w'
             go_simp
             with_reducible rfl
            rotate_left
            ·simp only [Act.put, List.setIfInBounds_toArray, List.set_cons_zero, List.set_cons_succ, i64_w, i32_w]
             rfl
            refine pure_ (i := 7) (N := some 48) (v := ?_) (a' := ?_) #[true, true, true, false, false, true, true, true, false, false, false, false] rfl rfl (any_of HT_.out (by kernel_rfl)) (fun _ _ _ h => h) (Or.inl ⟨by rfl, ?_⟩) ?_ ?_
            rotate_left
            ·intro w'
             go_simp
             with_reducible rfl
            rotate_left
            ·simp only [Act.put, List.setIfInBounds_toArray, List.set_cons_zero, List.set_cons_succ, i64_w, i32_w]
             rfl
            refine take_ (i := 3) (N := some 44) (v := ?_) (a' := ?_) #[true, true, true, true, false, true, true, true, false, false, false, false] rfl rfl (take_ofW HT_.out HW_.out (by kernel_rfl)) (fun _ _ _ h => h) (Or.inl ⟨by rfl, ?_⟩) hHeld ?_ ?_
            rotate_left
            ·rintro w' ⟨s0, s1, s2, s3, s4, s5, s6⟩
             go_simp
             with_reducible rfl
            rotate_left
            ·simp only [Act.put, List.setIfInBounds_toArray, List.set_cons_zero, List.set_cons_succ, i64_w, i32_w]
             rfl
            refine pure_ (i := 4) (N := some 45) (v := ?_) (a' := ?_) #[true, true, true, true, true, true, true, true, false, false, false, false] rfl rfl (any_of HT_.out (by kernel_rfl)) (fun _ _ _ h => h) (Or.inl ⟨by rfl, ?_⟩) ?_ ?_
            rotate_left
            ·intro w'
             go_simp
             with_reducible rfl
            rotate_left
            ·simp only [Act.put, List.setIfInBounds_toArray, List.set_cons_zero, List.set_cons_succ, i64_w, i32_w]
             rfl
            refine pure_ (i := 10) (N := some 12) (v := ?_) (a' := ?_) #[true, true, true, true, true, true, true, true, false, false, true, false] rfl rfl (any_of HT_.out (by kernel_rfl)) (fun _ _ _ h => h) (Or.inl ⟨by rfl, ?_⟩) ?_ ?_
            rotate_left
            ·intro w'
             go_simp
             with_reducible rfl
            rotate_left
            ·simp only [Act.put, List.setIfInBounds_toArray, List.set_cons_zero, List.set_cons_succ, i64_w, i32_w]
             rfl
            refine take_ (i := 8) (N := some 49) (v := ?_) (a' := ?_) #[true, true, true, true, true, true, true, true, true, false, true, false] rfl rfl (take_ofW HT_.out HW_.out (by kernel_rfl)) (fun _ _ _ h => h) (Or.inl ⟨by rfl, ?_⟩) hHeld ?_ ?_
            rotate_left
            ·rintro w' ⟨s0, s1, s2, s3, s4, s5, s6⟩
             go_simp
             with_reducible rfl
            rotate_left
            ·simp only [Act.put, List.setIfInBounds_toArray, List.set_cons_zero, List.set_cons_succ, i64_w, i32_w]
             rfl
            refine pure_ (i := 9) (N := some 50) (v := ?_) (a' := ?_) #[true, true, true, true, true, true, true, true, true, true, true, false] rfl rfl (any_of HT_.out (by kernel_rfl)) (fun _ _ _ h => h) (Or.inl ⟨by rfl, ?_⟩) ?_ ?_
            rotate_left
            ·intro w'
             go_simp
             with_reducible rfl
            rotate_left
            ·simp only [Act.put, List.setIfInBounds_toArray, List.set_cons_zero, List.set_cons_succ, i64_w, i32_w]
             rfl
            refine pure_ (i := 11) (N := some 13) (v := ?_) (a' := ?_) #[true, true, true, true, true, true, true, true, true, true, true, true] rfl rfl (any_of HT_.out (by kernel_rfl)) (fun _ _ _ h => h) (Or.inl ⟨by rfl, ?_⟩) ?_ ?_
            rotate_left
            ·intro w'
             go_simp
             with_reducible rfl
            rotate_left
            ·simp only [Act.put, List.setIfInBounds_toArray, List.set_cons_zero, List.set_cons_succ, i64_w, i32_w]
             rfl
            refine done_ (done_of HT_.out (by kernel_rfl)) ?_
            have hnb29 := NB150_147.out
            have hnc29 := NB147_150.out
            have hcz30_0 : w28.cell? ⟨gb150, 0, none⟩ = some (.int .i64 (wrap64 (1 + t148))) := (blk_cell BK150.out 0).trans rfl
            have hcz30_1 : w28.cell? ⟨gb150, 1, none⟩ = some (.int .i64 (wrap64 (1 + t149))) := (blk_cell BK150.out 1).trans rfl
            have hcz30_2 : w28.cell? ⟨gb150, 2, none⟩ = some (u151002) := (blk_cell BK150.out 2).trans rfl
            have hcz30_3 : w28.cell? ⟨gb150, 3, none⟩ = some (u151003) := (blk_cell BK150.out 3).trans rfl
            have hcz30_4 : w28.cell? ⟨gb150, 4, none⟩ = some (u151004) := (blk_cell BK150.out 4).trans rfl
            have hcz30_5 : w28.cell? ⟨gb150, 5, none⟩ = some (u151005) := (blk_cell BK150.out 5).trans rfl
            have hcz30_6 : w28.cell? ⟨gb150, 6, none⟩ = some (u151006) := (blk_cell BK150.out 6).trans rfl
            have hfz30_0 := blk_frozen BK150.out 0
            have hfz30_1 := blk_frozen BK150.out 1
            have hfz30_2 := blk_frozen BK150.out 2
            have hfz30_3 := blk_frozen BK150.out 3
            have hfz30_4 := blk_frozen BK150.out 4
            have hfz30_5 := blk_frozen BK150.out 5
            have hfz30_6 := blk_frozen BK150.out 6
            try go_wp2_with (first | ((with_reducible refine gate_builtin (b := .append) (xs := #[.tmp 80, .tmp 82]) rfl ?_); at_builtin; refine Kd.R_append (Kd.int .i64) (w0 := w) w.heap.size rfl (.tmp 80) (.tmp 82) 22 3 (.int .i64 0) 8 rfl Try.underlying22 info3 rfl (by decide) (by omega) u151003 x151003_1 (Int.tmod (wrap64 (Int.tdiv t155 8)) (wrap64 (1 + t148))) [.int .i64 (Int.tmod (wrap64 (Int.tdiv t155 8)) (wrap64 (1 + t148)))] (fun k_ => some k_ ≠ (u151002 : Value).ownBlock) (fun _ => False) rfl rfl ?aP (fun _ hk => hk.elim) ?aF ?aO ?aB ?aS ?aL ?_; (case aP => exact rfl); (case aB => exact (by repeat (first | (with_reducible first | exact HB.out | apply below_alloc | apply pw_below_drewN | apply below_drew1 | refine below_set ?_ GE147.out | refine below_set ?_ GE150.out) | exact HB.out))); (case aF => exact (fun k_ hk => Kd.fresh' (Kd.R_lt (by (with_reducible repeat (first | apply Kd.R_alloc | apply Kd.R_drewN | apply Kd.R_drew)); exact HO_151002.out)) k_ hk)); (case aO => exact (by (with_reducible repeat (first | apply Kd.R_alloc | apply Kd.R_drewN | apply Kd.R_drew)); exact HO_151003.out)); (case aS => exact (below_size (by repeat (first | (with_reducible first | exact HB.out | apply below_alloc | apply pw_below_drewN | apply below_drew1 | refine below_set ?_ GE147.out | refine below_set ?_ GE150.out) | exact HB.out)))); (case aL => have := LMc27.out; omega); intro v160 w31 ho hb hg hat; rw [← Ny159.out] at ho; have n0_ := Aside0.mk (Kd.R_after (ok := (fun _ => True)) (by (with_reducible repeat (first | apply Kd.R_alloc | apply Kd.R_drewN | apply Kd.R_drew)); exact Kd.R_mono HO_151002.out (fun _ hk => ⟨trivial, hk⟩)) hg hat); have n1_ := Aside0.mk (Kd.R_over' (by (with_reducible repeat (first | apply Kd.R_alloc | apply Kd.R_drewN | apply Kd.R_drew)); exact HO_151004.out) (Kd.R_typed (by (with_reducible repeat (first | apply Kd.R_alloc | apply Kd.R_drewN | apply Kd.R_drew)); exact HO_151003.out)) (by decide) hg); have n2_ := Aside0.mk (Kd.R_over' (by (with_reducible repeat (first | apply Kd.R_alloc | apply Kd.R_drewN | apply Kd.R_drew)); exact HO_151005.out) (Kd.R_typed (by (with_reducible repeat (first | apply Kd.R_alloc | apply Kd.R_drewN | apply Kd.R_drew)); exact HO_151003.out)) (by decide) hg); have n3_ := Aside0.mk (Kd.R_over' (by (with_reducible repeat (first | apply Kd.R_alloc | apply Kd.R_drewN | apply Kd.R_drew)); exact HO_151006.out) (Kd.R_typed (by (with_reducible repeat (first | apply Kd.R_alloc | apply Kd.R_drewN | apply Kd.R_drew)); exact HO_151003.out)) (by decide) hg); have n4_ := Aside0.mk (blk_grown (g := gb147) (o := .cells #[.int .i64 0, .int .i64 0, .slice none 0 0, .slice none 0 0, .slice none 0 0, .slice none 0 0, .slice none 0 0] 30 (0, 0)) (by (with_reducible repeat (first | refine blk_drewN ?_ _ | refine blk_drew ?_ | refine blk_alloc ?_ _)); exact BK147.out) hg (Kd.R_ne HO_151003.out BK147.out (by decide))); have n5_ := Aside0.mk (blk_grown (g := gb150) (o := .cells #[.int .i64 (wrap64 (1 + t148)), .int .i64 (wrap64 (1 + t149)), u151002, u151003, u151004, u151005, u151006] 30 (0, 0)) (by (with_reducible repeat (first | refine blk_drewN ?_ _ | refine blk_drew ?_ | refine blk_alloc ?_ _)); exact BK150.out) hg (Kd.R_ne HO_151003.out BK150.out (by decide))); have n6_ := Aside0.mk (hb); have n7_ := Aside0.mk (ho); clear HO_151002; clear HO_151004; clear HO_151005; clear HO_151006; clear BK147; clear BK150; clear HB; clear HO_151003; have HO_151002 := n0_; have HO_151004 := n1_; have HO_151005 := n2_; have HO_151006 := n3_; have BK147 := n4_; have BK150 := n5_; have HB := n6_; have HO161 := n7_; clear n0_ n1_ n2_ n3_ n4_ n5_ n6_ n7_; clear ho hb hg hat; obtain ⟨Ao32, co32, eo32⟩ := Kd.R_slice HO161.out; subst eo32; have hcz33_0 : w31.cell? ⟨gb150, 0, none⟩ = some (.int .i64 (wrap64 (1 + t148))) := (blk_cell BK150.out 0).trans rfl; have hcz33_1 : w31.cell? ⟨gb150, 1, none⟩ = some (.int .i64 (wrap64 (1 + t149))) := (blk_cell BK150.out 1).trans rfl; have hcz33_2 : w31.cell? ⟨gb150, 2, none⟩ = some (u151002) := (blk_cell BK150.out 2).trans rfl; have hcz33_3 : w31.cell? ⟨gb150, 3, none⟩ = some (u151003) := (blk_cell BK150.out 3).trans rfl; have hcz33_4 : w31.cell? ⟨gb150, 4, none⟩ = some (u151004) := (blk_cell BK150.out 4).trans rfl; have hcz33_5 : w31.cell? ⟨gb150, 5, none⟩ = some (u151005) := (blk_cell BK150.out 5).trans rfl; have hcz33_6 : w31.cell? ⟨gb150, 6, none⟩ = some (u151006) := (blk_cell BK150.out 6).trans rfl; have hfz33_0 := blk_frozen BK150.out 0; have hfz33_1 := blk_frozen BK150.out 1; have hfz33_2 := blk_frozen BK150.out 2; have hfz33_3 := blk_frozen BK150.out 3; have hfz33_4 := blk_frozen BK150.out 4; have hfz33_5 := blk_frozen BK150.out 5; have hfz33_6 := blk_frozen BK150.out 6))
            go_roundg kj10
            case measure => have := HK1.out; have := HJ10.out; omega
            case rel => exact ⟨(wrap64 (x10_1 + 1)), (x151002_1), (y159), (x151004_1), (x151005_1), (x151006_1), (u151002), (.slice Ao32 y159.length co32), (u151004), (u151005), (u151006), (by first | rfl | (simp; done) | (simp [*]; done)), H', ⟨by have := HK1.out; have := HJ10.out; omega⟩, ⟨by (with_reducible repeat (first | apply Kd.R_alloc | apply Kd.R_drewN | apply Kd.R_drew)); exact Kd.R_mono (Kd.R_far (p := ⟨gb150, 3, none⟩) (Kd.R_types HO_151002.out BK150.out (by decide)) (fun _ hk => hk.2) (.slice Ao32 y159.length co32)) (fun _ hk => hk.1.2)⟩, ⟨by (with_reducible repeat (first | apply Kd.R_alloc | apply Kd.R_drewN | apply Kd.R_drew)); exact Kd.R_mono (Kd.R_far (p := ⟨gb150, 3, none⟩) (Kd.R_types HO161.out BK150.out (by decide)) (fun _ hk => hk.2) (.slice Ao32 y159.length co32)) (fun _ hk => hk.1)⟩, ⟨by (with_reducible repeat (first | apply Kd.R_alloc | apply Kd.R_drewN | apply Kd.R_drew)); exact Kd.R_mono (Kd.R_far (p := ⟨gb150, 3, none⟩) (Kd.R_types HO_151004.out BK150.out (by decide)) (fun _ hk => hk.2) (.slice Ao32 y159.length co32)) (fun _ hk => trivial)⟩, ⟨by (with_reducible repeat (first | apply Kd.R_alloc | apply Kd.R_drewN | apply Kd.R_drew)); exact Kd.R_mono (Kd.R_far (p := ⟨gb150, 3, none⟩) (Kd.R_types HO_151005.out BK150.out (by decide)) (fun _ hk => hk.2) (.slice Ao32 y159.length co32)) (fun _ hk => trivial)⟩, ⟨by (with_reducible repeat (first | apply Kd.R_alloc | apply Kd.R_drewN | apply Kd.R_drew)); exact Kd.R_mono (Kd.R_far (p := ⟨gb150, 3, none⟩) (Kd.R_types HO_151006.out BK150.out (by decide)) (fun _ hk => hk.2) (.slice Ao32 y159.length co32)) (fun _ hk => trivial)⟩, ⟨by (with_reducible repeat (first | refine blk_drewN ?_ _ | refine blk_drew ?_ | refine blk_alloc ?_ _)); refine blk_far ?_ NB147_150.out _; (with_reducible repeat (first | refine blk_drewN ?_ _ | refine blk_drew ?_ | refine blk_alloc ?_ _)); exact BK147.out⟩, ⟨by (with_reducible repeat (first | refine blk_drewN ?_ _ | refine blk_drew ?_ | refine blk_alloc ?_ _)); refine blk_put (cs := #[.int .i64 (wrap64 (1 + t148)), .int .i64 (wrap64 (1 + t149)), u151002, u151003, u151004, u151005, u151006]) ?_ 3 _ rfl; (with_reducible repeat (first | refine blk_drewN ?_ _ | refine blk_drew ?_ | refine blk_alloc ?_ _)); exact BK150.out⟩, ⟨by repeat (first | (with_reducible first | exact HB.out | apply below_alloc | apply pw_below_drewN | apply below_drew1 | refine below_set ?_ GE147.out | refine below_set ?_ GE150.out) | exact HB.out)⟩⟩
           ·rw [if_neg c27] at H
            exact absurd H (by simp)
          ·rw [if_neg c26] at H
           have c26b0 : ((Int.tmod t155 8) == 1) = false := beq_eq_false_iff_ne.mpr c26
           have c26b1 : ((Int.tmod t155 8) != 1) = true := bne_iff_ne.mpr c26
           have HC34 := Aside0.mk H
           clear H
           have p154 : 0 ≤ (x10_1 : Int) := of_decide_eq_true (by first | (with_reducible assumption) | assumption)
           have q154 : x10_1 < (l2.length : Int) := of_decide_eq_true (by first | (with_reducible assumption) | assumption)
           obtain ⟨ad154, e154, hx154_0⟩ := Kd.at_int HR2.out x10_1 p154 q154
           cases e154
           replace hx154_0 := (HB.out.cell (World.block_lt_of_cell? w _ hx154_0)).trans hx154_0
           replace p154 := eq_true p154
           replace q154 := eq_true q154
           try go_wp2_with (first | ((with_reducible refine gate_callee (f := 31) rfl ?_); refine goesL_ (some 40) rfl rfl Try.func31 (by kernel_rfl) rfl #[.int .i64 (rd l2 x10_1), .int .i64 1099511627776] rfl (by (try simp only [List.map_toArray, List.map_cons, List.map_nil]); first | done | rfl | (simp only [List.length_drop, List.length_take]; rfl)) ?_; (with_reducible refine (canopylaw3_within.calls (rd l2 x10_1) 1099511627776 t155 _ A16.out).mono ?_); rintro e w' ⟨rfl, ⟨nd, rfl⟩⟩; refine ⟨_, rfl, ?_⟩))
           (try (rw [drewN_self wc]; generalize hq_ : World.drewN wc _ = wc; have n0_ : Aside0 (Kd.R (Kd.int .i64) 3 wc w.heap.size (fun k_ => some k_ ≠ (u151003 : Value).ownBlock) u151002 x151002_1) := ⟨by rw [← hq_]; exact (by (with_reducible repeat (first | apply Kd.R_alloc | apply Kd.R_drewN | apply Kd.R_drew)); exact HO_151002.out)⟩; have n1_ : Aside0 (Kd.R (Kd.int .i64) 3 wc w.heap.size (fun k_ => some k_ ≠ (u151002 : Value).ownBlock) u151003 x151003_1) := ⟨by rw [← hq_]; exact (by (with_reducible repeat (first | apply Kd.R_alloc | apply Kd.R_drewN | apply Kd.R_drew)); exact HO_151003.out)⟩; have n2_ : Aside0 (Kd.R k52 52 wc w.heap.size (fun _ => True) u151004 x151004_1) := ⟨by rw [← hq_]; exact (by (with_reducible repeat (first | apply Kd.R_alloc | apply Kd.R_drewN | apply Kd.R_drew)); exact HO_151004.out)⟩; have n3_ : Aside0 (Kd.R k54 54 wc w.heap.size (fun _ => True) u151005 x151005_1) := ⟨by rw [← hq_]; exact (by (with_reducible repeat (first | apply Kd.R_alloc | apply Kd.R_drewN | apply Kd.R_drew)); exact HO_151005.out)⟩; have n4_ : Aside0 (Kd.R k56 56 wc w.heap.size (fun _ => True) u151006 x151006_1) := ⟨by rw [← hq_]; exact (by (with_reducible repeat (first | apply Kd.R_alloc | apply Kd.R_drewN | apply Kd.R_drew)); exact HO_151006.out)⟩; have n5_ : Aside0 (wc.heap[gb147]? = some (.cells #[.int .i64 0, .int .i64 0, .slice none 0 0, .slice none 0 0, .slice none 0 0, .slice none 0 0, .slice none 0 0] 30 (0, 0))) := ⟨by rw [← hq_]; exact (by (with_reducible repeat (first | refine blk_drewN ?_ _ | refine blk_drew ?_ | refine blk_alloc ?_ _)); exact BK147.out)⟩; have n6_ : Aside0 (wc.heap[gb150]? = some (.cells #[.int .i64 (wrap64 (1 + t148)), .int .i64 (wrap64 (1 + t149)), u151002, u151003, u151004, u151005, u151006] 30 (0, 0))) := ⟨by rw [← hq_]; exact (by (with_reducible repeat (first | refine blk_drewN ?_ _ | refine blk_drew ?_ | refine blk_alloc ?_ _)); exact BK150.out)⟩; have n7_ : Aside0 (Below w.heap.size w wc) := ⟨by rw [← hq_]; exact (by repeat (first | (with_reducible first | exact HB.out | apply below_alloc | apply pw_below_drewN | apply below_drew1 | refine below_set ?_ GE147.out | refine below_set ?_ GE150.out) | exact HB.out))⟩; clear HO_151002 HO_151003 HO_151004 HO_151005 HO_151006 BK147 BK150 HB hq_; have HO_151002 := n0_; have HO_151003 := n1_; have HO_151004 := n2_; have HO_151005 := n3_; have HO_151006 := n4_; have BK147 := n5_; have BK150 := n6_; have HB := n7_; clear n0_ n1_ n2_ n3_ n4_ n5_ n6_ n7_))
           have n0_ := Aside0.mk (Kd.R_drew HO_151002.out)
           have n1_ := Aside0.mk (Kd.R_drew HO_151003.out)
           have n2_ := Aside0.mk (Kd.R_drew HO_151004.out)
           have n3_ := Aside0.mk (Kd.R_drew HO_151005.out)
           have n4_ := Aside0.mk (Kd.R_drew HO_151006.out)
           have n5_ := Aside0.mk (blk_drew BK147.out)
           have n6_ := Aside0.mk (blk_drew BK150.out)
           have n7_ := Aside0.mk (below_drew1 HB.out)
           clear HO_151002
           clear HO_151003
           clear HO_151004
           clear HO_151005
           clear HO_151006
           clear BK147
           clear BK150
           clear HB
           have HO_151002 := n0_
           have HO_151003 := n1_
           have HO_151004 := n2_
           have HO_151005 := n3_
           have HO_151006 := n4_
           have BK147 := n5_
           have BK150 := n6_
           have HB := n7_
           clear n0_ n1_ n2_ n3_ n4_ n5_ n6_ n7_
           refine start_ (n := 12) (S := fun w' => w'.cell? ⟨gb150, 0, none⟩ = some (.int .i64 (wrap64 (1 + t148))) ∧ w'.cell? ⟨gb150, 1, none⟩ = some (.int .i64 (wrap64 (1 + t149))) ∧ w'.cell? ⟨gb150, 2, none⟩ = some (u151002) ∧ w'.cell? ⟨gb150, 3, none⟩ = some (u151003) ∧ w'.cell? ⟨gb150, 4, none⟩ = some (u151004) ∧ w'.cell? ⟨gb150, 5, none⟩ = some (u151005) ∧ w'.cell? ⟨gb150, 6, none⟩ = some (u151006)) (ds := []) #[false, false, false, false, false, false, false, false, false, false, false, false] (by kernel_rfl) rfl rfl ⟨(blk_cell BK150.out 0).trans rfl, (blk_cell BK150.out 1).trans rfl, (blk_cell BK150.out 2).trans rfl, (blk_cell BK150.out 3).trans rfl, (blk_cell BK150.out 4).trans rfl, (blk_cell BK150.out 5).trans rfl, (blk_cell BK150.out 6).trans rfl⟩ (fun hHeld => ?_); refine with_tabW canopylaw3_Make.tab6 canopylaw3_Make.bits6 (fun HT_ HW_ => ?_)
           generalize wc.drew = w35 at HO_151002 HO_151003 HO_151004 HO_151005 HO_151006 BK147 BK150 HB hHeld ⊢
           refine pure_ (i := 0) (N := some 41) (v := ?_) (a' := ?_) #[true, false, false, false, false, false, false, false, false, false, false, false] rfl rfl (any_of HT_.out (by kernel_rfl)) (fun _ _ _ h => h) (Or.inl ⟨by rfl, ?_⟩) ?_ ?_
           rotate_left
           ·intro w'
            go_simp
            with_reducible rfl
           rotate_left
           ·simp only [Act.put, List.setIfInBounds_toArray, List.set_cons_zero, List.set_cons_succ, i64_w, i32_w]
            rfl
           refine pure_ (i := 1) (N := some 42) (v := ?_) (a' := ?_) #[true, true, false, false, false, false, false, false, false, false, false, false] rfl rfl (any_of HT_.out (by kernel_rfl)) (fun _ _ _ h => h) (Or.inl ⟨by rfl, ?_⟩) ?_ ?_
           rotate_left
           ·intro w'
            go_simp
            with_reducible rfl
           rotate_left
           ·simp only [Act.put, List.setIfInBounds_toArray, List.set_cons_zero, List.set_cons_succ, i64_w, i32_w]
            rfl
           refine pure_ (i := 2) (N := some 43) (v := ?_) (a' := ?_) #[true, true, true, false, false, false, false, false, false, false, false, false] rfl rfl (any_of HT_.out (by kernel_rfl)) (fun _ _ _ h => h) (Or.inl ⟨by rfl, ?_⟩) ?_ ?_
           rotate_left
           ·intro w'
            go_simp
            with_reducible rfl
           rotate_left
           ·simp only [Act.put, List.setIfInBounds_toArray, List.set_cons_zero, List.set_cons_succ, i64_w, i32_w]
            rfl
           refine pure_ (i := 5) (N := some 46) (v := ?_) (a' := ?_) #[true, true, true, false, false, true, false, false, false, false, false, false] rfl rfl (any_of HT_.out (by kernel_rfl)) (fun _ _ _ h => h) (Or.inl ⟨by rfl, ?_⟩) ?_ ?_
           rotate_left
           ·intro w'
            go_simp
            with_reducible rfl
           rotate_left
           ·simp only [Act.put, List.setIfInBounds_toArray, List.set_cons_zero, List.set_cons_succ, i64_w, i32_w]
            rfl
           refine pure_ (i := 6) (N := some 47) (v := ?_) (a' := ?_) #[true, true, true, false, false, true, true, false, false, false, false, false] rfl rfl (any_of HT_.out (by kernel_rfl)) (fun _ _ _ h => h) (Or.inl ⟨by rfl, ?_⟩) ?_ ?_
           rotate_left
           ·intro w'
            go_simp
            with_reducible rfl
           rotate_left
           ·simp only [Act.put, List.setIfInBounds_toArray, List.set_cons_zero, List.set_cons_succ, i64_w, i32_w]
            rfl
           refine pure_ (i := 7) (N := some 48) (v := ?_) (a' := ?_) #[true, true, true, false, false, true, true, true, false, false, false, false] rfl rfl (any_of HT_.out (by kernel_rfl)) (fun _ _ _ h => h) (Or.inl ⟨by rfl, ?_⟩) ?_ ?_
           rotate_left
           ·intro w'
            go_simp
            with_reducible rfl
           rotate_left
           ·simp only [Act.put, List.setIfInBounds_toArray, List.set_cons_zero, List.set_cons_succ, i64_w, i32_w]
            rfl
           refine take_ (i := 3) (N := some 44) (v := ?_) (a' := ?_) #[true, true, true, true, false, true, true, true, false, false, false, false] rfl rfl (take_ofW HT_.out HW_.out (by kernel_rfl)) (fun _ _ _ h => h) (Or.inl ⟨by rfl, ?_⟩) hHeld ?_ ?_
           rotate_left
           ·rintro w' ⟨s0, s1, s2, s3, s4, s5, s6⟩
            go_simp
            with_reducible rfl
           rotate_left
           ·simp only [Act.put, List.setIfInBounds_toArray, List.set_cons_zero, List.set_cons_succ, i64_w, i32_w]
            rfl
           refine pure_ (i := 4) (N := some 45) (v := ?_) (a' := ?_) #[true, true, true, true, true, true, true, true, false, false, false, false] rfl rfl (any_of HT_.out (by kernel_rfl)) (fun _ _ _ h => h) (Or.inl ⟨by rfl, ?_⟩) ?_ ?_
           rotate_left
           ·intro w'
            go_simp
            with_reducible rfl
           rotate_left
           ·simp only [Act.put, List.setIfInBounds_toArray, List.set_cons_zero, List.set_cons_succ, i64_w, i32_w]
            rfl
           refine pure_ (i := 10) (N := some 12) (v := ?_) (a' := ?_) #[true, true, true, true, true, true, true, true, false, false, true, false] rfl rfl (any_of HT_.out (by kernel_rfl)) (fun _ _ _ h => h) (Or.inl ⟨by rfl, ?_⟩) ?_ ?_
           rotate_left
           ·intro w'
            go_simp
            with_reducible rfl
           rotate_left
           ·simp only [Act.put, List.setIfInBounds_toArray, List.set_cons_zero, List.set_cons_succ, i64_w, i32_w]
            rfl
           refine take_ (i := 8) (N := some 49) (v := ?_) (a' := ?_) #[true, true, true, true, true, true, true, true, true, false, true, false] rfl rfl (take_ofW HT_.out HW_.out (by kernel_rfl)) (fun _ _ _ h => h) (Or.inl ⟨by rfl, ?_⟩) hHeld ?_ ?_
           rotate_left
           ·rintro w' ⟨s0, s1, s2, s3, s4, s5, s6⟩
            go_simp
            with_reducible rfl
           rotate_left
           ·simp only [Act.put, List.setIfInBounds_toArray, List.set_cons_zero, List.set_cons_succ, i64_w, i32_w]
            rfl
           refine pure_ (i := 9) (N := some 50) (v := ?_) (a' := ?_) #[true, true, true, true, true, true, true, true, true, true, true, false] rfl rfl (any_of HT_.out (by kernel_rfl)) (fun _ _ _ h => h) (Or.inl ⟨by rfl, ?_⟩) ?_ ?_
           rotate_left
           ·intro w'
            go_simp
            with_reducible rfl
           rotate_left
           ·simp only [Act.put, List.setIfInBounds_toArray, List.set_cons_zero, List.set_cons_succ, i64_w, i32_w]
            rfl
           refine pure_ (i := 11) (N := some 13) (v := ?_) (a' := ?_) #[true, true, true, true, true, true, true, true, true, true, true, true] rfl rfl (any_of HT_.out (by kernel_rfl)) (fun _ _ _ h => h) (Or.inl ⟨by rfl, ?_⟩) ?_ ?_
           rotate_left
           ·intro w'
            go_simp
            with_reducible rfl
           rotate_left
           ·simp only [Act.put, List.setIfInBounds_toArray, List.set_cons_zero, List.set_cons_succ, i64_w, i32_w]
            rfl
           refine done_ (done_of HT_.out (by kernel_rfl)) ?_
           go_upto_if 85 with (fail)
           go_cut [85] (fun v85 wc => ∃ (kq : Nat) (x85_33 : Bool), v85 = .bool x85_33 ∧ Aside0 (canopylaw3_Make.j2 kq l0 l2 x10_1 t155 (Int.tmod (wrap64 (Int.tdiv t155 8)) (wrap64 (1 + t148))) (Int.tmod (wrap64 (Int.tdiv t155 80)) (wrap64 (1 + t148))) (Int.tmod t155 8) x85_33 (wrap64 (1 + t148)) (wrap64 (1 + t149)) x151002_1 x151003_1 x151004_1 x151005_1 x151006_1 = some (r1, r2, r3, r4, r5, r6, r7)) ∧ Aside0 (kq ≤ kj10) ∧ Aside0 (Kd.R (Kd.int .i64) 3 wc w.heap.size (fun k_ => some k_ ≠ (u151003 : Value).ownBlock) u151002 x151002_1) ∧ Aside0 (Kd.R (Kd.int .i64) 3 wc w.heap.size (fun k_ => some k_ ≠ (u151002 : Value).ownBlock) u151003 x151003_1) ∧ Aside0 (Kd.R k52 52 wc w.heap.size (fun _ => True) u151004 x151004_1) ∧ Aside0 (Kd.R k54 54 wc w.heap.size (fun _ => True) u151005 x151005_1) ∧ Aside0 (Kd.R k56 56 wc w.heap.size (fun _ => True) u151006 x151006_1) ∧ Aside0 (wc.heap[gb147]? = some (.cells #[.int .i64 0, .int .i64 0, (.slice none 0 0), (.slice none 0 0), (.slice none 0 0), (.slice none 0 0), (.slice none 0 0)] 30 (0, 0))) ∧ Aside0 (wc.heap[gb150]? = some (.cells #[.int .i64 (wrap64 (1 + t148)), .int .i64 (wrap64 (1 + t149)), u151002, u151003, u151004, u151005, u151006] 30 (0, 0))) ∧ Aside0 (Below w.heap.size w wc))
           case first =>
            have H := HC34.out
            clear HC34
            by_cases c36 : (Int.tmod t155 8) = 2
            ·rw [if_pos c36] at H
             have c36b0 : ((Int.tmod t155 8) == 2) = true := beq_iff_eq.mpr c36
             have c36b1 : ((Int.tmod t155 8) != 2) = false := bne_eq_false_iff_eq.mpr c36
             clear c36
             (first | rw [c36b0] | (simp only [i64_w, i32_w]; rw [c36b0]) | skip)
             have H' := Aside0.mk H
             clear H
             go_wp2
             go_meet
             case rel => exact ⟨_, (((Int.tmod t155 8) == 2)), (by first | rfl | (simp; done) | (simp [*]; done)), H', ⟨by have := HK1.out; have := HJ10.out; first | omega | exact Nat.le_refl _⟩, ⟨by (with_reducible repeat (first | apply Kd.R_alloc | apply Kd.R_drewN | apply Kd.R_drew)); exact HO_151002.out⟩, ⟨by (with_reducible repeat (first | apply Kd.R_alloc | apply Kd.R_drewN | apply Kd.R_drew)); exact HO_151003.out⟩, ⟨by (with_reducible repeat (first | apply Kd.R_alloc | apply Kd.R_drewN | apply Kd.R_drew)); exact HO_151004.out⟩, ⟨by (with_reducible repeat (first | apply Kd.R_alloc | apply Kd.R_drewN | apply Kd.R_drew)); exact HO_151005.out⟩, ⟨by (with_reducible repeat (first | apply Kd.R_alloc | apply Kd.R_drewN | apply Kd.R_drew)); exact HO_151006.out⟩, ⟨by (with_reducible repeat (first | refine blk_drewN ?_ _ | refine blk_drew ?_ | refine blk_alloc ?_ _)); exact BK147.out⟩, ⟨by (with_reducible repeat (first | refine blk_drewN ?_ _ | refine blk_drew ?_ | refine blk_alloc ?_ _)); exact BK150.out⟩, ⟨by repeat (first | (with_reducible first | exact HB.out | apply below_alloc | apply pw_below_drewN | apply below_drew1 | refine below_set ?_ GE147.out | refine below_set ?_ GE150.out) | exact HB.out)⟩⟩
            ·rw [if_neg c36] at H
             have c36b0 : ((Int.tmod t155 8) == 2) = false := beq_eq_false_iff_ne.mpr c36
             have c36b1 : ((Int.tmod t155 8) != 2) = true := bne_iff_ne.mpr c36
             (first | rw [c36b0] | (simp only [i64_w, i32_w]; rw [c36b0]) | skip)
             have H' := Aside0.mk H
             clear H
             go_wp2
             go_meet
             case rel => exact ⟨_, (((Int.tmod t155 8) == 3)), (by first | rfl | (simp; done) | (simp [*]; done)), H', ⟨by have := HK1.out; have := HJ10.out; first | omega | exact Nat.le_refl _⟩, ⟨by (with_reducible repeat (first | apply Kd.R_alloc | apply Kd.R_drewN | apply Kd.R_drew)); exact HO_151002.out⟩, ⟨by (with_reducible repeat (first | apply Kd.R_alloc | apply Kd.R_drewN | apply Kd.R_drew)); exact HO_151003.out⟩, ⟨by (with_reducible repeat (first | apply Kd.R_alloc | apply Kd.R_drewN | apply Kd.R_drew)); exact HO_151004.out⟩, ⟨by (with_reducible repeat (first | apply Kd.R_alloc | apply Kd.R_drewN | apply Kd.R_drew)); exact HO_151005.out⟩, ⟨by (with_reducible repeat (first | apply Kd.R_alloc | apply Kd.R_drewN | apply Kd.R_drew)); exact HO_151006.out⟩, ⟨by (with_reducible repeat (first | refine blk_drewN ?_ _ | refine blk_drew ?_ | refine blk_alloc ?_ _)); exact BK147.out⟩, ⟨by (with_reducible repeat (first | refine blk_drewN ?_ _ | refine blk_drew ?_ | refine blk_alloc ?_ _)); exact BK150.out⟩, ⟨by repeat (first | (with_reducible first | exact HB.out | apply below_alloc | apply pw_below_drewN | apply below_drew1 | refine below_set ?_ GE147.out | refine below_set ?_ GE150.out) | exact HB.out)⟩⟩
           case rest =>
            clear HC34
            try clear c1
            try clear p1
            try clear q1
            try clear hx1
            try clear c2
            try clear p2
            try clear c3
            try clear p6
            try clear c9
            try clear c12
            try clear c12b0
            try clear c13
            try clear c14
            try clear c14b0
            try clear c15
            try clear c15b0
            try clear p15
            try clear q15
            try clear hx15
            try clear c17
            try clear c17b0
            try clear c17b1
            try clear c18
            try clear c18b0
            try clear c18b1
            try clear c19
            try clear c21
            try clear c26
            try clear c26b0
            try clear c26b1
            try clear c27
            try clear c29
            try clear c31
            try clear c36
            try clear c36b0
            try clear c36b1
            try clear hcz10_0
            try clear hcz10_1
            try clear hcz10_2
            try clear hcz10_3
            try clear hcz10_4
            try clear hcz10_5
            try clear hcz10_6
            try clear hcz22_0
            try clear hcz22_1
            try clear hcz22_2
            try clear hcz22_3
            try clear hcz22_4
            try clear hcz22_5
            try clear hcz22_6
            try clear hcz25_0
            try clear hcz25_1
            try clear hcz25_2
            try clear hcz25_3
            try clear hcz25_4
            try clear hcz25_5
            try clear hcz25_6
            try clear hcz30_0
            try clear hcz30_1
            try clear hcz30_2
            try clear hcz30_3
            try clear hcz30_4
            try clear hcz30_5
            try clear hcz30_6
            try clear hcz33_0
            try clear hcz33_1
            try clear hcz33_2
            try clear hcz33_3
            try clear hcz33_4
            try clear hcz33_5
            try clear hcz33_6
            try clear hfz10_0
            try clear hfz10_1
            try clear hfz10_2
            try clear hfz10_3
            try clear hfz10_4
            try clear hfz10_5
            try clear hfz10_6
            try clear hfz22_0
            try clear hfz22_1
            try clear hfz22_2
            try clear hfz22_3
            try clear hfz22_4
            try clear hfz22_5
            try clear hfz22_6
            try clear hfz25_0
            try clear hfz25_1
            try clear hfz25_2
            try clear hfz25_3
            try clear hfz25_4
            try clear hfz25_5
            try clear hfz25_6
            try clear hfz30_0
            try clear hfz30_1
            try clear hfz30_2
            try clear hfz30_3
            try clear hfz30_4
            try clear hfz30_5
            try clear hfz30_6
            try clear hfz33_0
            try clear hfz33_1
            try clear hfz33_2
            try clear hfz33_3
            try clear hfz33_4
            try clear hfz33_5
            try clear hfz33_6
            try clear hx154_0
            try clear p154
            try clear p2
            try clear p6
            try clear q154
            obtain ⟨kq, x85_33, rfl, HA, HJ33, HO_151002, HO_151003, HO_151004, HO_151005, HO_151006, BK147, BK150, HB⟩ := hcut
            cases kq with
            | zero => exact absurd HA.out (by simp [canopylaw3_Make.j2])
            | succ kj33 =>
             have H := HA.out
             clear HA
             simp only [canopylaw3_Make.j2] at H
             by_cases c37 : x85_33 = true
             ·subst c37
              have H1 : ((canopylaw3_pick.f kj33 l0 1 (Int.tmod (wrap64 (Int.tdiv t155 800)) 7)).bind fun t162 => (if t162 ≥ 0 then (if (wrap64 (1 + t149)) = 0 then (none) else (if x151004_1.length < 4398046511104 then (canopylaw3_Make.l0 kj33 l0 l2 (wrap64 (x10_1 + 1)) (wrap64 (1 + t148)) (wrap64 (1 + t149)) x151002_1 x151003_1 (x151004_1 ++ [(⟨(Int.tmod (wrap64 (Int.tdiv t155 8)) (wrap64 (1 + t148))), t162, (Int.tmod (wrap64 (Int.tdiv t155 80)) (wrap64 (1 + t148))), wrap64 (1 + (Int.tmod (wrap64 (Int.tdiv t155 8000)) (wrap64 (1 + t149))))⟩ : S52)]) x151005_1 x151006_1) else (none))) else (canopylaw3_Make.l0 kj33 l0 l2 (wrap64 (x10_1 + 1)) (wrap64 (1 + t148)) (wrap64 (1 + t149)) x151002_1 x151003_1 x151004_1 x151005_1 x151006_1))) = some (r1, r2, r3, r4, r5, r6, r7) := by rw [if_pos rfl] at H; exact H
              clear H
              have H := H1
              clear H1
              replace H := Option.bind_eq_some_iff.mp H
              obtain ⟨t162, A380, H⟩ := H
              replace H : (if t162 ≥ 0 then (if (wrap64 (1 + t149)) = 0 then (none) else (if x151004_1.length < 4398046511104 then (canopylaw3_Make.l0 kj33 l0 l2 (wrap64 (x10_1 + 1)) (wrap64 (1 + t148)) (wrap64 (1 + t149)) x151002_1 x151003_1 (x151004_1 ++ [(⟨(Int.tmod (wrap64 (Int.tdiv t155 8)) (wrap64 (1 + t148))), t162, (Int.tmod (wrap64 (Int.tdiv t155 80)) (wrap64 (1 + t148))), wrap64 (1 + (Int.tmod (wrap64 (Int.tdiv t155 8000)) (wrap64 (1 + t149))))⟩ : S52)]) x151005_1 x151006_1) else (none))) else (canopylaw3_Make.l0 kj33 l0 l2 (wrap64 (x10_1 + 1)) (wrap64 (1 + t148)) (wrap64 (1 + t149)) x151002_1 x151003_1 x151004_1 x151005_1 x151006_1)) = some (r1, r2, r3, r4, r5, r6, r7) := H
              have A38 := Aside0.mk A380
              clear A380
              by_cases c39 : t162 ≥ 0
              ·rw [if_pos c39] at H
               have c39b0 : decide (0 ≤ t162) = true := decide_eq_true c39
               clear c39
               by_cases c40 : (wrap64 (1 + t149)) = 0
               ·rw [if_pos c40] at H
                exact absurd H (by simp)
               ·rw [if_neg c40] at H
                have c40b0 : ((wrap64 (1 + t149)) == 0) = false := beq_eq_false_iff_ne.mpr c40
                have c40b1 : ((wrap64 (1 + t149)) != 0) = true := bne_iff_ne.mpr c40
                by_cases c41 : x151004_1.length < 4398046511104
                ·rw [if_pos c41] at H
                 have LMc41 := Aside0.mk c41
                 clear c41
                 obtain ⟨y163, hy163⟩ : ∃ y_ : List (S52), y_ = (x151004_1 ++ [(⟨(Int.tmod (wrap64 (Int.tdiv t155 8)) (wrap64 (1 + t148))), t162, (Int.tmod (wrap64 (Int.tdiv t155 80)) (wrap64 (1 + t148))), wrap64 (1 + (Int.tmod (wrap64 (Int.tdiv t155 8000)) (wrap64 (1 + t149))))⟩ : S52)]) := ⟨_, rfl⟩
                 replace H : (canopylaw3_Make.l0 kj33 l0 l2 (wrap64 (x10_1 + 1)) (wrap64 (1 + t148)) (wrap64 (1 + t149)) x151002_1 x151003_1 y163 x151005_1 x151006_1) = some (r1, r2, r3, r4, r5, r6, r7) := by first | (rw [hy163]; with_reducible exact H) | (have H2_ := (Option.bind_some _ _).symm.trans H; rw [hy163]; with_reducible exact H2_) | (have H2_ := (Option.bind_some _ _).symm.trans H; with_reducible exact H2_) | with_reducible exact H | (rw [hy163]; exact H) | exact H
                 have Ny163 := Aside0.mk hy163
                 clear hy163
                 have H' := Aside0.mk H
                 clear H
                 try go_wp2_with (first | ((with_reducible refine gate_callee (f := 32) rfl ?_); refine goesL_ (some 92) rfl rfl Try.func32 (by kernel_rfl) rfl #[.slice A0 l0.length c0, .int .i64 1, .int .i64 (Int.tmod (wrap64 (Int.tdiv t155 800)) 7)] rfl (by (try simp only [List.map_toArray, List.map_cons, List.map_nil]); first | done | rfl | (simp only [List.length_drop, List.length_take]; rfl)) ?_; (with_reducible refine (canopylaw3_pick.calls kj33 _ _ l0 1 (Int.tmod (wrap64 (Int.tdiv t155 800)) 7) t162 _ ?side1 ?side2 A38.out).mono ?_); (case side1 => repeat (first | exact (Kd.C_below HR0.out HB.out) | (with_reducible refine Kd.C_alloc ?_ _) | (with_reducible refine Kd.C_drewN ?_ _) | (with_reducible refine Kd.C_drew ?_))); (case side2 => exact HC0.out); rintro e w42 ⟨rfl, hb⟩; refine ⟨_, rfl, ?_⟩; have n0_ := Aside0.mk (Kd.R_below (by (with_reducible repeat (first | apply Kd.R_alloc | apply Kd.R_drewN | apply Kd.R_drew)); exact HO_151002.out) hb); have n1_ := Aside0.mk (Kd.R_below (by (with_reducible repeat (first | apply Kd.R_alloc | apply Kd.R_drewN | apply Kd.R_drew)); exact HO_151003.out) hb); have n2_ := Aside0.mk (Kd.R_below (by (with_reducible repeat (first | apply Kd.R_alloc | apply Kd.R_drewN | apply Kd.R_drew)); exact HO_151004.out) hb); have n3_ := Aside0.mk (Kd.R_below (by (with_reducible repeat (first | apply Kd.R_alloc | apply Kd.R_drewN | apply Kd.R_drew)); exact HO_151005.out) hb); have n4_ := Aside0.mk (Kd.R_below (by (with_reducible repeat (first | apply Kd.R_alloc | apply Kd.R_drewN | apply Kd.R_drew)); exact HO_151006.out) hb); have n5_ := Aside0.mk (blk_below (g := gb147) (o := .cells #[.int .i64 0, .int .i64 0, .slice none 0 0, .slice none 0 0, .slice none 0 0, .slice none 0 0, .slice none 0 0] 30 (0, 0)) (by (with_reducible repeat (first | refine blk_drewN ?_ _ | refine blk_drew ?_ | refine blk_alloc ?_ _)); exact BK147.out) hb); have n6_ := Aside0.mk (blk_below (g := gb150) (o := .cells #[.int .i64 (wrap64 (1 + t148)), .int .i64 (wrap64 (1 + t149)), u151002, u151003, u151004, u151005, u151006] 30 (0, 0)) (by (with_reducible repeat (first | refine blk_drewN ?_ _ | refine blk_drew ?_ | refine blk_alloc ?_ _)); exact BK150.out) hb); have n7_ := Aside0.mk (below_step (by repeat (first | (with_reducible first | exact HB.out | apply below_alloc | apply pw_below_drewN | apply below_drew1 | refine below_set ?_ GE147.out | refine below_set ?_ GE150.out) | exact HB.out)) hb); clear HO_151002; clear HO_151003; clear HO_151004; clear HO_151005; clear HO_151006; clear BK147; clear BK150; clear HB; have HO_151002 := n0_; have HO_151003 := n1_; have HO_151004 := n2_; have HO_151005 := n3_; have HO_151006 := n4_; have BK147 := n5_; have BK150 := n6_; have HB := n7_; clear n0_ n1_ n2_ n3_ n4_ n5_ n6_ n7_; (try clear hb); (try clear hb2); (try clear hk); (try clear hi)))
                 have n0_ := Aside0.mk (Kd.R_drew HO_151002.out)
                 have n1_ := Aside0.mk (Kd.R_drew HO_151003.out)
                 have n2_ := Aside0.mk (Kd.R_drew HO_151004.out)
                 have n3_ := Aside0.mk (Kd.R_drew HO_151005.out)
                 have n4_ := Aside0.mk (Kd.R_drew HO_151006.out)
                 have n5_ := Aside0.mk (blk_drew BK147.out)
                 have n6_ := Aside0.mk (blk_drew BK150.out)
                 have n7_ := Aside0.mk (below_drew1 HB.out)
                 clear HO_151002
                 clear HO_151003
                 clear HO_151004
                 clear HO_151005
                 clear HO_151006
                 clear BK147
                 clear BK150
                 clear HB
                 have HO_151002 := n0_
                 have HO_151003 := n1_
                 have HO_151004 := n2_
                 have HO_151005 := n3_
                 have HO_151006 := n4_
                 have BK147 := n5_
                 have BK150 := n6_
                 have HB := n7_
                 clear n0_ n1_ n2_ n3_ n4_ n5_ n6_ n7_
                 refine start_ (n := 16) (S := fun w' => w'.cell? ⟨gb150, 0, none⟩ = some (.int .i64 (wrap64 (1 + t148))) ∧ w'.cell? ⟨gb150, 1, none⟩ = some (.int .i64 (wrap64 (1 + t149))) ∧ w'.cell? ⟨gb150, 2, none⟩ = some (u151002) ∧ w'.cell? ⟨gb150, 3, none⟩ = some (u151003) ∧ w'.cell? ⟨gb150, 4, none⟩ = some (u151004) ∧ w'.cell? ⟨gb150, 5, none⟩ = some (u151005) ∧ w'.cell? ⟨gb150, 6, none⟩ = some (u151006)) (ds := [15]) bz0 (by kernel_rfl) rfl rfl ⟨(blk_cell BK150.out 0).trans rfl, (blk_cell BK150.out 1).trans rfl, (blk_cell BK150.out 2).trans rfl, (blk_cell BK150.out 3).trans rfl, (blk_cell BK150.out 4).trans rfl, (blk_cell BK150.out 5).trans rfl, (blk_cell BK150.out 6).trans rfl⟩ (fun hHeld => ?_); refine with_tabW canopylaw3_Make.tab19 canopylaw3_Make.bits19 (fun HT_ HW_ => ?_)
                 generalize w42.drew = w43 at HO_151002 HO_151003 HO_151004 HO_151005 HO_151006 BK147 BK150 HB hHeld ⊢
                 refine pure_ (i := 0) (N := some 95) (v := ?_) (a' := ?_) bz1 rfl rfl (any_of HT_.out (by kernel_rfl)) (fun _ _ _ h => h) (Or.inl ⟨by rfl, ?_⟩) ?_ ?_
                 rotate_left
                 ·intro w'
                  go_simp
                  with_reducible rfl
                 rotate_left
                 ·simp only [Act.put, List.setIfInBounds_toArray, List.set_cons_zero, List.set_cons_succ, i64_w, i32_w]
                  rfl
                 refine pure_ (i := 2) (N := some 97) (v := ?_) (a' := ?_) bz2 rfl rfl (any_of HT_.out (by kernel_rfl)) (fun _ _ _ h => h) (Or.inl ⟨by rfl, ?_⟩) ?_ ?_
                 rotate_left
                 ·intro w'
                  go_simp
                  with_reducible rfl
                 rotate_left
                 ·simp only [Act.put, List.setIfInBounds_toArray, List.set_cons_zero, List.set_cons_succ, i64_w, i32_w]
                  rfl
                 refine pure_ (i := 3) (N := some 98) (v := ?_) (a' := ?_) bz3 rfl rfl (any_of HT_.out (by kernel_rfl)) (fun _ _ _ h => h) (Or.inl ⟨by rfl, ?_⟩) ?_ ?_
                 rotate_left
                 ·intro w'
                  go_simp
                  with_reducible rfl
                 rotate_left
                 ·simp only [Act.put, List.setIfInBounds_toArray, List.set_cons_zero, List.set_cons_succ, i64_w, i32_w]
                  rfl
                 refine pure_ (i := 4) (N := some 99) (v := ?_) (a' := ?_) bz4 rfl rfl (any_of HT_.out (by kernel_rfl)) (fun _ _ _ h => h) (Or.inl ⟨by rfl, ?_⟩) ?_ ?_
                 rotate_left
                 ·intro w'
                  go_simp
                  with_reducible rfl
                 rotate_left
                 ·simp only [Act.put, List.setIfInBounds_toArray, List.set_cons_zero, List.set_cons_succ, i64_w, i32_w]
                  rfl
                 refine pure_ (i := 5) (N := some 100) (v := ?_) (a' := ?_) bz5 rfl rfl (any_of HT_.out (by kernel_rfl)) (fun _ _ _ h => h) (Or.inl ⟨by rfl, ?_⟩) ?_ ?_
                 rotate_left
                 ·intro w'
                  go_simp
                  with_reducible rfl
                 rotate_left
                 ·simp only [Act.put, List.setIfInBounds_toArray, List.set_cons_zero, List.set_cons_succ, i64_w, i32_w]
                  rfl
                 refine pure_ (i := 6) (N := some 101) (v := ?_) (a' := ?_) bz6 rfl rfl (any_of HT_.out (by kernel_rfl)) (fun _ _ _ h => h) (Or.inl ⟨by rfl, ?_⟩) ?_ ?_
                 rotate_left
                 ·intro w'
                  go_simp
                  with_reducible rfl
                 rotate_left
                 ·simp only [Act.put, List.setIfInBounds_toArray, List.set_cons_zero, List.set_cons_succ, i64_w, i32_w]
                  rfl
                 refine pure_ (i := 7) (N := some 102) (v := ?_) (a' := ?_) #[true, false, true, true, true, true, true, true, false, false, false, false, false, false, false, false] rfl rfl (any_of HT_.out (by kernel_rfl)) (fun _ _ _ h => h) (Or.inl ⟨by rfl, ?_⟩) ?_ ?_
                 rotate_left
                 ·intro w'
                  go_simp
                  with_reducible rfl
                 rotate_left
                 ·simp only [Act.put, List.setIfInBounds_toArray, List.set_cons_zero, List.set_cons_succ, i64_w, i32_w]
                  rfl
                 refine take_ (i := 1) (N := some 96) (v := ?_) (a' := ?_) #[true, true, true, true, true, true, true, true, false, false, false, false, false, false, false, false] rfl rfl (take_ofW HT_.out HW_.out (by kernel_rfl)) (fun _ _ _ h => h) (Or.inl ⟨by rfl, ?_⟩) hHeld ?_ ?_
                 rotate_left
                 ·rintro w' ⟨s0, s1, s2, s3, s4, s5, s6⟩
                  go_simp
                  with_reducible rfl
                 rotate_left
                 ·simp only [Act.put, List.setIfInBounds_toArray, List.set_cons_zero, List.set_cons_succ, i64_w, i32_w]
                  rfl
                 refine take_ (i := 8) (N := some 103) (v := ?_) (a' := ?_) #[true, true, true, true, true, true, true, true, true, false, false, false, false, false, false, false] rfl rfl (take_ofW HT_.out HW_.out (by kernel_rfl)) (fun _ _ _ h => h) (Or.inl ⟨by rfl, ?_⟩) hHeld ?_ ?_
                 rotate_left
                 ·rintro w' ⟨s0, s1, s2, s3, s4, s5, s6⟩
                  go_simp
                  with_reducible rfl
                 rotate_left
                 ·simp only [Act.put, List.setIfInBounds_toArray, List.set_cons_zero, List.set_cons_succ, i64_w, i32_w]
                  rfl
                 refine pure_ (i := 9) (N := some 104) (v := ?_) (a' := ?_) #[true, true, true, true, true, true, true, true, true, true, false, false, false, false, false, false] rfl rfl (any_of HT_.out (by kernel_rfl)) (fun _ _ _ h => h) (Or.inl ⟨by rfl, ?_⟩) ?_ ?_
                 rotate_left
                 ·intro w'
                  go_simp
                  with_reducible rfl
                 rotate_left
                 ·simp only [Act.put, List.setIfInBounds_toArray, List.set_cons_zero, List.set_cons_succ, i64_w, i32_w]
                  rfl
                 refine pure_ (i := 10) (N := some 105) (v := ?_) (a' := ?_) bz7 rfl rfl (any_of HT_.out (by kernel_rfl)) (fun _ _ _ h => h) (Or.inl ⟨by rfl, ?_⟩) ?_ ?_
                 rotate_left
                 ·intro w'
                  go_simp
                  with_reducible rfl
                 rotate_left
                 ·simp only [Act.put, List.setIfInBounds_toArray, List.set_cons_zero, List.set_cons_succ, i64_w, i32_w]
                  rfl
                 refine pure_ (i := 11) (N := some 106) (v := ?_) (a' := ?_) bz8 rfl rfl (any_of HT_.out (by kernel_rfl)) (fun _ _ _ h => h) (Or.inl ⟨by rfl, ?_⟩) ?_ ?_
                 rotate_left
                 ·intro w'
                  go_simp
                  with_reducible rfl
                 rotate_left
                 ·simp only [Act.put, List.setIfInBounds_toArray, List.set_cons_zero, List.set_cons_succ, i64_w, i32_w]
                  rfl
                 refine one_ (i := 12) (N := some 107) bz9 rfl rfl (one_of HT_.out (by kernel_rfl)) (by decide) (fun K hK => ?_)
                 refine value_ (w1 := ?_) (v := ?_) (by rfl) rfl ?_ ?_
                 rotate_left 2
                 ·go_simp
                  constructor
                  ·rfl
                  ·rfl
                 refine hK.out _ _ ⟨(blk_cell (blk_alloc BK150.out _) 0).trans rfl, (blk_cell (blk_alloc BK150.out _) 1).trans rfl, (blk_cell (blk_alloc BK150.out _) 2).trans rfl, (blk_cell (blk_alloc BK150.out _) 3).trans rfl, (blk_cell (blk_alloc BK150.out _) 4).trans rfl, (blk_cell (blk_alloc BK150.out _) 5).trans rfl, (blk_cell (blk_alloc BK150.out _) 6).trans rfl⟩ (fun hHeld => ?_)
                 clear hK K
                 refine norm_ (a' := ?_) ?_ ?_
                 rotate_left
                 ·show Act.put _ (some 107) _ = _
                  simp only [Act.put, List.setIfInBounds_toArray, List.set_cons_zero, List.set_cons_succ, i64_w, i32_w]
                  rfl
                 refine one_ (i := 13) (N := some 108) bz10 rfl rfl (one_of HT_.out (by kernel_rfl)) (by decide) (fun K hK => ?_)
                 refine Kd.R_append_step k52 (w0 := w) w.heap.size (by rfl) (.tmp 96) (.tmp 107) 26 52 (.agg #[(.int .i64 0), (.int .i64 0), (.int .i64 0), (.int .i64 0)]) 32 rfl Try.underlying26 info52 rfl (by decide) (by omega) u151004 x151004_1 (⟨(Int.tmod (wrap64 (Int.tdiv t155 8)) (wrap64 (1 + t148))), t162, (Int.tmod (wrap64 (Int.tdiv t155 80)) (wrap64 (1 + t148))), wrap64 (1 + (Int.tmod (wrap64 (Int.tdiv t155 8000)) (wrap64 (1 + t149))))⟩ : S52) [.int .i64 (Int.tmod (wrap64 (Int.tdiv t155 8)) (wrap64 (1 + t148))), .int .i64 t162, .int .i64 (Int.tmod (wrap64 (Int.tdiv t155 80)) (wrap64 (1 + t148))), .int .i64 (wrap64 (1 + (Int.tmod (wrap64 (Int.tdiv t155 8000)) (wrap64 (1 + t149)))))] (fun _ => True) (fun _ => False) rfl rfl ?aP (fun _ hk => hk.elim) ?aF ?aO ?aB ?aS ?aL ?_
                 (case aP => exact k52_mkM _ _ _ (⟨(Int.tmod (wrap64 (Int.tdiv t155 8)) (wrap64 (1 + t148))), t162, (Int.tmod (wrap64 (Int.tdiv t155 80)) (wrap64 (1 + t148))), wrap64 (1 + (Int.tmod (wrap64 (Int.tdiv t155 8000)) (wrap64 (1 + t149))))⟩ : S52))
                 (case aB => exact (by repeat (first | (with_reducible first | exact HB.out | apply below_alloc | apply pw_below_drewN | apply below_drew1 | refine below_set ?_ GE147.out | refine below_set ?_ GE150.out) | exact HB.out)))
                 (case aF => exact (fun _ _ => trivial))
                 (case aO => exact (by (with_reducible repeat (first | apply Kd.R_alloc | apply Kd.R_drewN | apply Kd.R_drew)); exact HO_151004.out))
                 (case aS => exact (below_size (by repeat (first | (with_reducible first | exact HB.out | apply below_alloc | apply pw_below_drewN | apply below_drew1 | refine below_set ?_ GE147.out | refine below_set ?_ GE150.out) | exact HB.out))))
                 (case aL => have := LMc41.out; omega)
                 intro v164 w44 ho hb hg hat
                 rw [← Ny163.out] at ho
                 have n0_ := Aside0.mk (Kd.R_over' (by (with_reducible repeat (first | apply Kd.R_alloc | apply Kd.R_drewN | apply Kd.R_drew)); exact HO_151002.out) (Kd.R_typed (by (with_reducible repeat (first | apply Kd.R_alloc | apply Kd.R_drewN | apply Kd.R_drew)); exact HO_151004.out)) (by decide) hg)
                 have n1_ := Aside0.mk (Kd.R_over' (by (with_reducible repeat (first | apply Kd.R_alloc | apply Kd.R_drewN | apply Kd.R_drew)); exact HO_151003.out) (Kd.R_typed (by (with_reducible repeat (first | apply Kd.R_alloc | apply Kd.R_drewN | apply Kd.R_drew)); exact HO_151004.out)) (by decide) hg)
                 have n2_ := Aside0.mk (Kd.R_over' (by (with_reducible repeat (first | apply Kd.R_alloc | apply Kd.R_drewN | apply Kd.R_drew)); exact HO_151005.out) (Kd.R_typed (by (with_reducible repeat (first | apply Kd.R_alloc | apply Kd.R_drewN | apply Kd.R_drew)); exact HO_151004.out)) (by decide) hg)
                 have n3_ := Aside0.mk (Kd.R_over' (by (with_reducible repeat (first | apply Kd.R_alloc | apply Kd.R_drewN | apply Kd.R_drew)); exact HO_151006.out) (Kd.R_typed (by (with_reducible repeat (first | apply Kd.R_alloc | apply Kd.R_drewN | apply Kd.R_drew)); exact HO_151004.out)) (by decide) hg)
                 have n4_ := Aside0.mk (blk_grown (g := gb147) (o := .cells #[.int .i64 0, .int .i64 0, .slice none 0 0, .slice none 0 0, .slice none 0 0, .slice none 0 0, .slice none 0 0] 30 (0, 0)) (by (with_reducible repeat (first | refine blk_drewN ?_ _ | refine blk_drew ?_ | refine blk_alloc ?_ _)); exact BK147.out) hg (Kd.R_ne HO_151004.out BK147.out (by decide)))
                 have n5_ := Aside0.mk (blk_grown (g := gb150) (o := .cells #[.int .i64 (wrap64 (1 + t148)), .int .i64 (wrap64 (1 + t149)), u151002, u151003, u151004, u151005, u151006] 30 (0, 0)) (by (with_reducible repeat (first | refine blk_drewN ?_ _ | refine blk_drew ?_ | refine blk_alloc ?_ _)); exact BK150.out) hg (Kd.R_ne HO_151004.out BK150.out (by decide)))
                 have n6_ := Aside0.mk (hb)
                 have n7_ := Aside0.mk (ho)
                 clear HO_151002
                 clear HO_151003
                 clear HO_151005
                 clear HO_151006
                 clear BK147
                 clear BK150
                 clear HB
                 clear HO_151004
                 have HO_151002 := n0_
                 have HO_151003 := n1_
                 have HO_151005 := n2_
                 have HO_151006 := n3_
                 have BK147 := n4_
                 have BK150 := n5_
                 have HB := n6_
                 have HO165 := n7_
                 clear n0_ n1_ n2_ n3_ n4_ n5_ n6_ n7_
                 clear ho hb hg hat
                 obtain ⟨Ao45, co45, eo45⟩ := Kd.R_slice HO165.out
                 (first | subst eo45 | (injection eo45 with f1_ f2_ f3_; have f4_ := f1_.symm; have f5_ := f3_.symm; clear f1_ f2_ f3_; subst f4_; subst f5_))
                 refine hK.out _ _ ⟨(blk_cell BK150.out 0).trans rfl, (blk_cell BK150.out 1).trans rfl, (blk_cell BK150.out 2).trans rfl, (blk_cell BK150.out 3).trans rfl, (blk_cell BK150.out 4).trans rfl, (blk_cell BK150.out 5).trans rfl, (blk_cell BK150.out 6).trans rfl⟩ (fun hHeld => ?_)
                 clear hK K
                 refine norm_ (a' := ?_) ?_ ?_
                 rotate_left
                 ·show Act.put _ (some 108) _ = _
                  simp only [Act.put, List.setIfInBounds_toArray, List.set_cons_zero, List.set_cons_succ, i64_w, i32_w]
                  rfl
                 refine pure_ (i := 14) (N := some 109) (v := ?_) (a' := ?_) bz11 rfl rfl (any_of HT_.out (by kernel_rfl)) (fun _ _ _ h => h) (Or.inl ⟨by rfl, ?_⟩) ?_ ?_
                 rotate_left
                 ·intro w'
                  go_simp
                  with_reducible rfl
                 rotate_left
                 ·simp only [Act.put, List.setIfInBounds_toArray, List.set_cons_zero, List.set_cons_succ, i64_w, i32_w]
                  rfl
                 refine last_ (i := 15) (N := none) bz12 rfl rfl (one_of HT_.out (by kernel_rfl)) (by decide) (fun K hK => ?_)
                 have hs46 : w44.cell? ⟨gb150, 4, none⟩ = some (u151004) := (blk_cell BK150.out 4).trans rfl
                 have hfs46 := blk_frozen BK150.out 4
                 have hns46_0 := NB147_150.out
                 have hms46_0 := NB150_147.out
                 refine skip_ (w1 := ?_) (by rfl) rfl ?_ ?_
                 rotate_left
                 ·go_simp
                  rfl
                 refine hK.out _ _ ?_
                 clear hK K
                 refine done_ (done_of HT_.out (by kernel_rfl)) ?_
                 try go_wp2
                 go_roundg kj33
                 case measure => have := HK1.out; have := HJ10.out; have := HJ33.out; omega
                 case rel => exact ⟨(wrap64 (x10_1 + 1)), (x151002_1), (x151003_1), (y163), (x151005_1), (x151006_1), (u151002), (u151003), (.slice Ao45 y163.length co45), (u151005), (u151006), (by first | rfl | (simp; done) | (simp [*]; done)), H', ⟨by have := HK1.out; have := HJ10.out; have := HJ33.out; omega⟩, ⟨by (with_reducible repeat (first | apply Kd.R_alloc | apply Kd.R_drewN | apply Kd.R_drew)); exact Kd.R_mono (Kd.R_far (p := ⟨gb150, 4, none⟩) (Kd.R_types HO_151002.out BK150.out (by decide)) (fun _ hk => hk.2) (.slice Ao45 y163.length co45)) (fun _ hk => hk.1)⟩, ⟨by (with_reducible repeat (first | apply Kd.R_alloc | apply Kd.R_drewN | apply Kd.R_drew)); exact Kd.R_mono (Kd.R_far (p := ⟨gb150, 4, none⟩) (Kd.R_types HO_151003.out BK150.out (by decide)) (fun _ hk => hk.2) (.slice Ao45 y163.length co45)) (fun _ hk => hk.1)⟩, ⟨by (with_reducible repeat (first | apply Kd.R_alloc | apply Kd.R_drewN | apply Kd.R_drew)); exact Kd.R_mono (Kd.R_far (p := ⟨gb150, 4, none⟩) (Kd.R_types HO165.out BK150.out (by decide)) (fun _ hk => hk.2) (.slice Ao45 y163.length co45)) (fun _ hk => trivial)⟩, ⟨by (with_reducible repeat (first | apply Kd.R_alloc | apply Kd.R_drewN | apply Kd.R_drew)); exact Kd.R_mono (Kd.R_far (p := ⟨gb150, 4, none⟩) (Kd.R_types HO_151005.out BK150.out (by decide)) (fun _ hk => hk.2) (.slice Ao45 y163.length co45)) (fun _ hk => trivial)⟩, ⟨by (with_reducible repeat (first | apply Kd.R_alloc | apply Kd.R_drewN | apply Kd.R_drew)); exact Kd.R_mono (Kd.R_far (p := ⟨gb150, 4, none⟩) (Kd.R_types HO_151006.out BK150.out (by decide)) (fun _ hk => hk.2) (.slice Ao45 y163.length co45)) (fun _ hk => trivial)⟩, ⟨by (with_reducible repeat (first | refine blk_drewN ?_ _ | refine blk_drew ?_ | refine blk_alloc ?_ _)); refine blk_far ?_ NB147_150.out _; (with_reducible repeat (first | refine blk_drewN ?_ _ | refine blk_drew ?_ | refine blk_alloc ?_ _)); exact BK147.out⟩, ⟨by (with_reducible repeat (first | refine blk_drewN ?_ _ | refine blk_drew ?_ | refine blk_alloc ?_ _)); refine blk_put (cs := #[.int .i64 (wrap64 (1 + t148)), .int .i64 (wrap64 (1 + t149)), u151002, u151003, u151004, u151005, u151006]) ?_ 4 _ rfl; (with_reducible repeat (first | refine blk_drewN ?_ _ | refine blk_drew ?_ | refine blk_alloc ?_ _)); exact BK150.out⟩, ⟨by repeat (first | (with_reducible first | exact HB.out | apply below_alloc | apply pw_below_drewN | apply below_drew1 | refine below_set ?_ GE147.out | refine below_set ?_ GE150.out) | exact HB.out)⟩⟩
                ·rw [if_neg c41] at H
                 exact absurd H (by simp)
              ·rw [if_neg c39] at H
               have c39b0 : decide (0 ≤ t162) = false := decide_eq_false c39
               clear c39
               have H' := Aside0.mk H
               clear H
               go_wp2_with (first | ((with_reducible refine gate_callee (f := 32) rfl ?_); refine goesL_ (some 92) rfl rfl Try.func32 (by kernel_rfl) rfl #[.slice A0 l0.length c0, .int .i64 1, .int .i64 (Int.tmod (wrap64 (Int.tdiv t155 800)) 7)] rfl (by (try simp only [List.map_toArray, List.map_cons, List.map_nil]); first | done | rfl | (simp only [List.length_drop, List.length_take]; rfl)) ?_; (with_reducible refine (canopylaw3_pick.calls kj33 _ _ l0 1 (Int.tmod (wrap64 (Int.tdiv t155 800)) 7) t162 _ ?side1 ?side2 A38.out).mono ?_); (case side1 => repeat (first | exact (Kd.C_below HR0.out HB.out) | (with_reducible refine Kd.C_alloc ?_ _) | (with_reducible refine Kd.C_drewN ?_ _) | (with_reducible refine Kd.C_drew ?_))); (case side2 => exact HC0.out); rintro e w47 ⟨rfl, hb⟩; refine ⟨_, rfl, ?_⟩; have n0_ := Aside0.mk (Kd.R_below (by (with_reducible repeat (first | apply Kd.R_alloc | apply Kd.R_drewN | apply Kd.R_drew)); exact HO_151002.out) hb); have n1_ := Aside0.mk (Kd.R_below (by (with_reducible repeat (first | apply Kd.R_alloc | apply Kd.R_drewN | apply Kd.R_drew)); exact HO_151003.out) hb); have n2_ := Aside0.mk (Kd.R_below (by (with_reducible repeat (first | apply Kd.R_alloc | apply Kd.R_drewN | apply Kd.R_drew)); exact HO_151004.out) hb); have n3_ := Aside0.mk (Kd.R_below (by (with_reducible repeat (first | apply Kd.R_alloc | apply Kd.R_drewN | apply Kd.R_drew)); exact HO_151005.out) hb); have n4_ := Aside0.mk (Kd.R_below (by (with_reducible repeat (first | apply Kd.R_alloc | apply Kd.R_drewN | apply Kd.R_drew)); exact HO_151006.out) hb); have n5_ := Aside0.mk (blk_below (g := gb147) (o := .cells #[.int .i64 0, .int .i64 0, .slice none 0 0, .slice none 0 0, .slice none 0 0, .slice none 0 0, .slice none 0 0] 30 (0, 0)) (by (with_reducible repeat (first | refine blk_drewN ?_ _ | refine blk_drew ?_ | refine blk_alloc ?_ _)); exact BK147.out) hb); have n6_ := Aside0.mk (blk_below (g := gb150) (o := .cells #[.int .i64 (wrap64 (1 + t148)), .int .i64 (wrap64 (1 + t149)), u151002, u151003, u151004, u151005, u151006] 30 (0, 0)) (by (with_reducible repeat (first | refine blk_drewN ?_ _ | refine blk_drew ?_ | refine blk_alloc ?_ _)); exact BK150.out) hb); have n7_ := Aside0.mk (below_step (by repeat (first | (with_reducible first | exact HB.out | apply below_alloc | apply pw_below_drewN | apply below_drew1 | refine below_set ?_ GE147.out | refine below_set ?_ GE150.out) | exact HB.out)) hb); clear HO_151002; clear HO_151003; clear HO_151004; clear HO_151005; clear HO_151006; clear BK147; clear BK150; clear HB; have HO_151002 := n0_; have HO_151003 := n1_; have HO_151004 := n2_; have HO_151005 := n3_; have HO_151006 := n4_; have BK147 := n5_; have BK150 := n6_; have HB := n7_; clear n0_ n1_ n2_ n3_ n4_ n5_ n6_ n7_; (try clear hb); (try clear hb2); (try clear hk); (try clear hi)))
               go_roundg kj33
               case measure => have := HK1.out; have := HJ10.out; have := HJ33.out; omega
               case rel => exact ⟨(wrap64 (x10_1 + 1)), (x151002_1), (x151003_1), (x151004_1), (x151005_1), (x151006_1), (u151002), (u151003), (u151004), (u151005), (u151006), (by first | rfl | (simp; done) | (simp [*]; done)), H', ⟨by have := HK1.out; have := HJ10.out; have := HJ33.out; omega⟩, ⟨by (with_reducible repeat (first | apply Kd.R_alloc | apply Kd.R_drewN | apply Kd.R_drew)); exact HO_151002.out⟩, ⟨by (with_reducible repeat (first | apply Kd.R_alloc | apply Kd.R_drewN | apply Kd.R_drew)); exact HO_151003.out⟩, ⟨by (with_reducible repeat (first | apply Kd.R_alloc | apply Kd.R_drewN | apply Kd.R_drew)); exact HO_151004.out⟩, ⟨by (with_reducible repeat (first | apply Kd.R_alloc | apply Kd.R_drewN | apply Kd.R_drew)); exact HO_151005.out⟩, ⟨by (with_reducible repeat (first | apply Kd.R_alloc | apply Kd.R_drewN | apply Kd.R_drew)); exact HO_151006.out⟩, ⟨by (with_reducible repeat (first | refine blk_drewN ?_ _ | refine blk_drew ?_ | refine blk_alloc ?_ _)); exact BK147.out⟩, ⟨by (with_reducible repeat (first | refine blk_drewN ?_ _ | refine blk_drew ?_ | refine blk_alloc ?_ _)); exact BK150.out⟩, ⟨by repeat (first | (with_reducible first | exact HB.out | apply below_alloc | apply pw_below_drewN | apply below_drew1 | refine below_set ?_ GE147.out | refine below_set ?_ GE150.out) | exact HB.out)⟩⟩
             ·replace c37 := Bool.eq_false_iff.mpr c37
              subst c37
              have H1 : (if (Int.tmod t155 8) = 4 then (canopylaw3_Make.j3 kj33 l0 l2 x10_1 t155 (Int.tmod (wrap64 (Int.tdiv t155 8)) (wrap64 (1 + t148))) (Int.tmod (wrap64 (Int.tdiv t155 80)) (wrap64 (1 + t148))) ((Int.tmod t155 8) == 4) (wrap64 (1 + t148)) (wrap64 (1 + t149)) x151002_1 x151003_1 x151004_1 x151005_1 x151006_1) else (canopylaw3_Make.j3 kj33 l0 l2 x10_1 t155 (Int.tmod (wrap64 (Int.tdiv t155 8)) (wrap64 (1 + t148))) (Int.tmod (wrap64 (Int.tdiv t155 80)) (wrap64 (1 + t148))) ((Int.tmod t155 8) == 5) (wrap64 (1 + t148)) (wrap64 (1 + t149)) x151002_1 x151003_1 x151004_1 x151005_1 x151006_1)) = some (r1, r2, r3, r4, r5, r6, r7) := by rw [if_neg (show ¬ (false = true) by decide)] at H; exact H
              clear H
              have H := H1
              clear H1
              have HC48 := Aside0.mk H
              clear H
              go_upto_if 110 with (fail)
              go_cut [110] (fun v110 wc => ∃ (kq : Nat) (x110_47 : Bool), v110 = .bool x110_47 ∧ Aside0 (canopylaw3_Make.j3 kq l0 l2 x10_1 t155 (Int.tmod (wrap64 (Int.tdiv t155 8)) (wrap64 (1 + t148))) (Int.tmod (wrap64 (Int.tdiv t155 80)) (wrap64 (1 + t148))) x110_47 (wrap64 (1 + t148)) (wrap64 (1 + t149)) x151002_1 x151003_1 x151004_1 x151005_1 x151006_1 = some (r1, r2, r3, r4, r5, r6, r7)) ∧ Aside0 (kq ≤ kj33) ∧ Aside0 (Kd.R (Kd.int .i64) 3 wc w.heap.size (fun k_ => some k_ ≠ (u151003 : Value).ownBlock) u151002 x151002_1) ∧ Aside0 (Kd.R (Kd.int .i64) 3 wc w.heap.size (fun k_ => some k_ ≠ (u151002 : Value).ownBlock) u151003 x151003_1) ∧ Aside0 (Kd.R k52 52 wc w.heap.size (fun _ => True) u151004 x151004_1) ∧ Aside0 (Kd.R k54 54 wc w.heap.size (fun _ => True) u151005 x151005_1) ∧ Aside0 (Kd.R k56 56 wc w.heap.size (fun _ => True) u151006 x151006_1) ∧ Aside0 (wc.heap[gb147]? = some (.cells #[.int .i64 0, .int .i64 0, (.slice none 0 0), (.slice none 0 0), (.slice none 0 0), (.slice none 0 0), (.slice none 0 0)] 30 (0, 0))) ∧ Aside0 (wc.heap[gb150]? = some (.cells #[.int .i64 (wrap64 (1 + t148)), .int .i64 (wrap64 (1 + t149)), u151002, u151003, u151004, u151005, u151006] 30 (0, 0))) ∧ Aside0 (Below w.heap.size w wc))
              case first =>
               have H := HC48.out
               clear HC48
               by_cases c49 : (Int.tmod t155 8) = 4
               ·rw [if_pos c49] at H
                have c49b0 : ((Int.tmod t155 8) == 4) = true := beq_iff_eq.mpr c49
                have c49b1 : ((Int.tmod t155 8) != 4) = false := bne_eq_false_iff_eq.mpr c49
                clear c49
                (first | rw [c49b0] | (simp only [i64_w, i32_w]; rw [c49b0]) | skip)
                have H' := Aside0.mk H
                clear H
                go_wp2
                go_meet
                case rel => exact ⟨_, (((Int.tmod t155 8) == 4)), (by first | rfl | (simp; done) | (simp [*]; done)), H', ⟨by have := HK1.out; have := HJ10.out; have := HJ33.out; first | omega | exact Nat.le_refl _⟩, ⟨by (with_reducible repeat (first | apply Kd.R_alloc | apply Kd.R_drewN | apply Kd.R_drew)); exact HO_151002.out⟩, ⟨by (with_reducible repeat (first | apply Kd.R_alloc | apply Kd.R_drewN | apply Kd.R_drew)); exact HO_151003.out⟩, ⟨by (with_reducible repeat (first | apply Kd.R_alloc | apply Kd.R_drewN | apply Kd.R_drew)); exact HO_151004.out⟩, ⟨by (with_reducible repeat (first | apply Kd.R_alloc | apply Kd.R_drewN | apply Kd.R_drew)); exact HO_151005.out⟩, ⟨by (with_reducible repeat (first | apply Kd.R_alloc | apply Kd.R_drewN | apply Kd.R_drew)); exact HO_151006.out⟩, ⟨by (with_reducible repeat (first | refine blk_drewN ?_ _ | refine blk_drew ?_ | refine blk_alloc ?_ _)); exact BK147.out⟩, ⟨by (with_reducible repeat (first | refine blk_drewN ?_ _ | refine blk_drew ?_ | refine blk_alloc ?_ _)); exact BK150.out⟩, ⟨by repeat (first | (with_reducible first | exact HB.out | apply below_alloc | apply pw_below_drewN | apply below_drew1 | refine below_set ?_ GE147.out | refine below_set ?_ GE150.out) | exact HB.out)⟩⟩
               ·rw [if_neg c49] at H
                have c49b0 : ((Int.tmod t155 8) == 4) = false := beq_eq_false_iff_ne.mpr c49
                have c49b1 : ((Int.tmod t155 8) != 4) = true := bne_iff_ne.mpr c49
                (first | rw [c49b0] | (simp only [i64_w, i32_w]; rw [c49b0]) | skip)
                have H' := Aside0.mk H
                clear H
                go_wp2
                go_meet
                case rel => exact ⟨_, (((Int.tmod t155 8) == 5)), (by first | rfl | (simp; done) | (simp [*]; done)), H', ⟨by have := HK1.out; have := HJ10.out; have := HJ33.out; first | omega | exact Nat.le_refl _⟩, ⟨by (with_reducible repeat (first | apply Kd.R_alloc | apply Kd.R_drewN | apply Kd.R_drew)); exact HO_151002.out⟩, ⟨by (with_reducible repeat (first | apply Kd.R_alloc | apply Kd.R_drewN | apply Kd.R_drew)); exact HO_151003.out⟩, ⟨by (with_reducible repeat (first | apply Kd.R_alloc | apply Kd.R_drewN | apply Kd.R_drew)); exact HO_151004.out⟩, ⟨by (with_reducible repeat (first | apply Kd.R_alloc | apply Kd.R_drewN | apply Kd.R_drew)); exact HO_151005.out⟩, ⟨by (with_reducible repeat (first | apply Kd.R_alloc | apply Kd.R_drewN | apply Kd.R_drew)); exact HO_151006.out⟩, ⟨by (with_reducible repeat (first | refine blk_drewN ?_ _ | refine blk_drew ?_ | refine blk_alloc ?_ _)); exact BK147.out⟩, ⟨by (with_reducible repeat (first | refine blk_drewN ?_ _ | refine blk_drew ?_ | refine blk_alloc ?_ _)); exact BK150.out⟩, ⟨by repeat (first | (with_reducible first | exact HB.out | apply below_alloc | apply pw_below_drewN | apply below_drew1 | refine below_set ?_ GE147.out | refine below_set ?_ GE150.out) | exact HB.out)⟩⟩
              case rest =>
               clear HC48
               try clear c1
               try clear p1
               try clear q1
               try clear hx1
               try clear c2
               try clear p2
               try clear c3
               try clear c4
               try clear p6
               try clear c9
               try clear c12
               try clear c12b0
               try clear c13
               try clear c14
               try clear c14b0
               try clear c15
               try clear c15b0
               try clear p15
               try clear q15
               try clear hx15
               try clear c17
               try clear c17b0
               try clear c17b1
               try clear c18
               try clear c18b0
               try clear c18b1
               try clear c19
               try clear c21
               try clear c26
               try clear c26b0
               try clear c26b1
               try clear c27
               try clear c29
               try clear c31
               try clear c32
               try clear c36
               try clear c36b0
               try clear c36b1
               try clear c37
               try clear c39
               try clear c39b0
               try clear c40
               try clear c40b0
               try clear c40b1
               try clear c41
               try clear c49
               try clear c49b0
               try clear c49b1
               try clear hcz10_0
               try clear hcz10_1
               try clear hcz10_2
               try clear hcz10_3
               try clear hcz10_4
               try clear hcz10_5
               try clear hcz10_6
               try clear hcz22_0
               try clear hcz22_1
               try clear hcz22_2
               try clear hcz22_3
               try clear hcz22_4
               try clear hcz22_5
               try clear hcz22_6
               try clear hcz25_0
               try clear hcz25_1
               try clear hcz25_2
               try clear hcz25_3
               try clear hcz25_4
               try clear hcz25_5
               try clear hcz25_6
               try clear hcz30_0
               try clear hcz30_1
               try clear hcz30_2
               try clear hcz30_3
               try clear hcz30_4
               try clear hcz30_5
               try clear hcz30_6
               try clear hcz33_0
               try clear hcz33_1
               try clear hcz33_2
               try clear hcz33_3
               try clear hcz33_4
               try clear hcz33_5
               try clear hcz33_6
               try clear hfz10_0
               try clear hfz10_1
               try clear hfz10_2
               try clear hfz10_3
               try clear hfz10_4
               try clear hfz10_5
               try clear hfz10_6
               try clear hfz22_0
               try clear hfz22_1
               try clear hfz22_2
               try clear hfz22_3
               try clear hfz22_4
               try clear hfz22_5
               try clear hfz22_6
               try clear hfz25_0
               try clear hfz25_1
               try clear hfz25_2
               try clear hfz25_3
               try clear hfz25_4
               try clear hfz25_5
               try clear hfz25_6
               try clear hfz30_0
               try clear hfz30_1
               try clear hfz30_2
               try clear hfz30_3
               try clear hfz30_4
               try clear hfz30_5
               try clear hfz30_6
               try clear hfz33_0
               try clear hfz33_1
               try clear hfz33_2
               try clear hfz33_3
               try clear hfz33_4
               try clear hfz33_5
               try clear hfz33_6
               try clear hx154_0
               try clear p1
               try clear p15
               try clear p154
               try clear p2
               try clear p6
               try clear q1
               try clear q15
               try clear q154
               obtain ⟨kq, x110_47, rfl, HA, HJ47, HO_151002, HO_151003, HO_151004, HO_151005, HO_151006, BK147, BK150, HB⟩ := hcut
               cases kq with
               | zero => exact absurd HA.out (by simp [canopylaw3_Make.j3])
               | succ kj47 =>
                have H := HA.out
                clear HA
                simp only [canopylaw3_Make.j3] at H
                by_cases c50 : x110_47 = true
                ·subst c50
                 have H1 : ((canopylaw3_pick.f kj47 l0 2 (Int.tmod (wrap64 (Int.tdiv t155 800)) 7)).bind fun t166 => (if t166 ≥ 0 then (if (wrap64 ((wrap64 (1 + t149)) + 1)) = 0 then (none) else (if x151005_1.length < 4398046511104 then (canopylaw3_Make.l0 kj47 l0 l2 (wrap64 (x10_1 + 1)) (wrap64 (1 + t148)) (wrap64 (1 + t149)) x151002_1 x151003_1 x151004_1 (x151005_1 ++ [(⟨(Int.tmod (wrap64 (Int.tdiv t155 8)) (wrap64 (1 + t148))), t166, Int.tmod (wrap64 (Int.tdiv t155 8000)) (wrap64 ((wrap64 (1 + t149)) + 1)), (Int.tmod (wrap64 (Int.tdiv t155 80)) (wrap64 (1 + t148)))⟩ : S54)]) x151006_1) else (none))) else (canopylaw3_Make.l0 kj47 l0 l2 (wrap64 (x10_1 + 1)) (wrap64 (1 + t148)) (wrap64 (1 + t149)) x151002_1 x151003_1 x151004_1 x151005_1 x151006_1))) = some (r1, r2, r3, r4, r5, r6, r7) := by rw [if_pos rfl] at H; exact H
                 clear H
                 have H := H1
                 clear H1
                 replace H := Option.bind_eq_some_iff.mp H
                 obtain ⟨t166, A510, H⟩ := H
                 replace H : (if t166 ≥ 0 then (if (wrap64 ((wrap64 (1 + t149)) + 1)) = 0 then (none) else (if x151005_1.length < 4398046511104 then (canopylaw3_Make.l0 kj47 l0 l2 (wrap64 (x10_1 + 1)) (wrap64 (1 + t148)) (wrap64 (1 + t149)) x151002_1 x151003_1 x151004_1 (x151005_1 ++ [(⟨(Int.tmod (wrap64 (Int.tdiv t155 8)) (wrap64 (1 + t148))), t166, Int.tmod (wrap64 (Int.tdiv t155 8000)) (wrap64 ((wrap64 (1 + t149)) + 1)), (Int.tmod (wrap64 (Int.tdiv t155 80)) (wrap64 (1 + t148)))⟩ : S54)]) x151006_1) else (none))) else (canopylaw3_Make.l0 kj47 l0 l2 (wrap64 (x10_1 + 1)) (wrap64 (1 + t148)) (wrap64 (1 + t149)) x151002_1 x151003_1 x151004_1 x151005_1 x151006_1)) = some (r1, r2, r3, r4, r5, r6, r7) := H
                 have A51 := Aside0.mk A510
                 clear A510
                 by_cases c52 : t166 ≥ 0
                 ·rw [if_pos c52] at H
                  have c52b0 : decide (0 ≤ t166) = true := decide_eq_true c52
                  clear c52
                  by_cases c53 : (wrap64 ((wrap64 (1 + t149)) + 1)) = 0
                  ·rw [if_pos c53] at H
                   exact absurd H (by simp)
                  ·rw [if_neg c53] at H
                   have c53b0 : ((wrap64 ((wrap64 (1 + t149)) + 1)) == 0) = false := beq_eq_false_iff_ne.mpr c53
                   have c53b1 : ((wrap64 ((wrap64 (1 + t149)) + 1)) != 0) = true := bne_iff_ne.mpr c53
                   by_cases c54 : x151005_1.length < 4398046511104
                   ·rw [if_pos c54] at H
                    have LMc54 := Aside0.mk c54
                    clear c54
                    obtain ⟨y167, hy167⟩ : ∃ y_ : List (S54), y_ = (x151005_1 ++ [(⟨(Int.tmod (wrap64 (Int.tdiv t155 8)) (wrap64 (1 + t148))), t166, Int.tmod (wrap64 (Int.tdiv t155 8000)) (wrap64 ((wrap64 (1 + t149)) + 1)), (Int.tmod (wrap64 (Int.tdiv t155 80)) (wrap64 (1 + t148)))⟩ : S54)]) := ⟨_, rfl⟩
                    replace H : (canopylaw3_Make.l0 kj47 l0 l2 (wrap64 (x10_1 + 1)) (wrap64 (1 + t148)) (wrap64 (1 + t149)) x151002_1 x151003_1 x151004_1 y167 x151006_1) = some (r1, r2, r3, r4, r5, r6, r7) := by first | (rw [hy167]; with_reducible exact H) | (have H2_ := (Option.bind_some _ _).symm.trans H; rw [hy167]; with_reducible exact H2_) | (have H2_ := (Option.bind_some _ _).symm.trans H; with_reducible exact H2_) | with_reducible exact H | (rw [hy167]; exact H) | exact H
                    have Ny167 := Aside0.mk hy167
                    clear hy167
                    have H' := Aside0.mk H
                    clear H
                    try go_wp2_with (first | ((with_reducible refine gate_callee (f := 32) rfl ?_); refine goesL_ (some 117) rfl rfl Try.func32 (by kernel_rfl) rfl #[.slice A0 l0.length c0, .int .i64 2, .int .i64 (Int.tmod (wrap64 (Int.tdiv t155 800)) 7)] rfl (by (try simp only [List.map_toArray, List.map_cons, List.map_nil]); first | done | rfl | (simp only [List.length_drop, List.length_take]; rfl)) ?_; (with_reducible refine (canopylaw3_pick.calls kj47 _ _ l0 2 (Int.tmod (wrap64 (Int.tdiv t155 800)) 7) t166 _ ?side1 ?side2 A51.out).mono ?_); (case side1 => repeat (first | exact (Kd.C_below HR0.out HB.out) | (with_reducible refine Kd.C_alloc ?_ _) | (with_reducible refine Kd.C_drewN ?_ _) | (with_reducible refine Kd.C_drew ?_))); (case side2 => exact HC0.out); rintro e w55 ⟨rfl, hb⟩; refine ⟨_, rfl, ?_⟩; have n0_ := Aside0.mk (Kd.R_below (by (with_reducible repeat (first | apply Kd.R_alloc | apply Kd.R_drewN | apply Kd.R_drew)); exact HO_151002.out) hb); have n1_ := Aside0.mk (Kd.R_below (by (with_reducible repeat (first | apply Kd.R_alloc | apply Kd.R_drewN | apply Kd.R_drew)); exact HO_151003.out) hb); have n2_ := Aside0.mk (Kd.R_below (by (with_reducible repeat (first | apply Kd.R_alloc | apply Kd.R_drewN | apply Kd.R_drew)); exact HO_151004.out) hb); have n3_ := Aside0.mk (Kd.R_below (by (with_reducible repeat (first | apply Kd.R_alloc | apply Kd.R_drewN | apply Kd.R_drew)); exact HO_151005.out) hb); have n4_ := Aside0.mk (Kd.R_below (by (with_reducible repeat (first | apply Kd.R_alloc | apply Kd.R_drewN | apply Kd.R_drew)); exact HO_151006.out) hb); have n5_ := Aside0.mk (blk_below (g := gb147) (o := .cells #[.int .i64 0, .int .i64 0, .slice none 0 0, .slice none 0 0, .slice none 0 0, .slice none 0 0, .slice none 0 0] 30 (0, 0)) (by (with_reducible repeat (first | refine blk_drewN ?_ _ | refine blk_drew ?_ | refine blk_alloc ?_ _)); exact BK147.out) hb); have n6_ := Aside0.mk (blk_below (g := gb150) (o := .cells #[.int .i64 (wrap64 (1 + t148)), .int .i64 (wrap64 (1 + t149)), u151002, u151003, u151004, u151005, u151006] 30 (0, 0)) (by (with_reducible repeat (first | refine blk_drewN ?_ _ | refine blk_drew ?_ | refine blk_alloc ?_ _)); exact BK150.out) hb); have n7_ := Aside0.mk (below_step (by repeat (first | (with_reducible first | exact HB.out | apply below_alloc | apply pw_below_drewN | apply below_drew1 | refine below_set ?_ GE147.out | refine below_set ?_ GE150.out) | exact HB.out)) hb); clear HO_151002; clear HO_151003; clear HO_151004; clear HO_151005; clear HO_151006; clear BK147; clear BK150; clear HB; have HO_151002 := n0_; have HO_151003 := n1_; have HO_151004 := n2_; have HO_151005 := n3_; have HO_151006 := n4_; have BK147 := n5_; have BK150 := n6_; have HB := n7_; clear n0_ n1_ n2_ n3_ n4_ n5_ n6_ n7_; (try clear hb); (try clear hb2); (try clear hk); (try clear hi)))
                    have n0_ := Aside0.mk (Kd.R_drew HO_151002.out)
                    have n1_ := Aside0.mk (Kd.R_drew HO_151003.out)
                    have n2_ := Aside0.mk (Kd.R_drew HO_151004.out)
                    have n3_ := Aside0.mk (Kd.R_drew HO_151005.out)
                    have n4_ := Aside0.mk (Kd.R_drew HO_151006.out)
                    have n5_ := Aside0.mk (blk_drew BK147.out)
                    have n6_ := Aside0.mk (blk_drew BK150.out)
                    have n7_ := Aside0.mk (below_drew1 HB.out)
                    clear HO_151002
                    clear HO_151003
                    clear HO_151004
                    clear HO_151005
                    clear HO_151006
                    clear BK147
                    clear BK150
                    clear HB
                    have HO_151002 := n0_
                    have HO_151003 := n1_
                    have HO_151004 := n2_
                    have HO_151005 := n3_
                    have HO_151006 := n4_
                    have BK147 := n5_
                    have BK150 := n6_
                    have HB := n7_
                    clear n0_ n1_ n2_ n3_ n4_ n5_ n6_ n7_
                    refine start_ (n := 16) (S := fun w' => w'.cell? ⟨gb150, 0, none⟩ = some (.int .i64 (wrap64 (1 + t148))) ∧ w'.cell? ⟨gb150, 1, none⟩ = some (.int .i64 (wrap64 (1 + t149))) ∧ w'.cell? ⟨gb150, 2, none⟩ = some (u151002) ∧ w'.cell? ⟨gb150, 3, none⟩ = some (u151003) ∧ w'.cell? ⟨gb150, 4, none⟩ = some (u151004) ∧ w'.cell? ⟨gb150, 5, none⟩ = some (u151005) ∧ w'.cell? ⟨gb150, 6, none⟩ = some (u151006)) (ds := [15]) bz0 (by kernel_rfl) rfl rfl ⟨(blk_cell BK150.out 0).trans rfl, (blk_cell BK150.out 1).trans rfl, (blk_cell BK150.out 2).trans rfl, (blk_cell BK150.out 3).trans rfl, (blk_cell BK150.out 4).trans rfl, (blk_cell BK150.out 5).trans rfl, (blk_cell BK150.out 6).trans rfl⟩ (fun hHeld => ?_); refine with_tabW canopylaw3_Make.tab24 canopylaw3_Make.bits24 (fun HT_ HW_ => ?_)
                    generalize w55.drew = w56 at HO_151002 HO_151003 HO_151004 HO_151005 HO_151006 BK147 BK150 HB hHeld ⊢
                    refine pure_ (i := 0) (N := some 120) (v := ?_) (a' := ?_) bz1 rfl rfl (any_of HT_.out (by kernel_rfl)) (fun _ _ _ h => h) (Or.inl ⟨by rfl, ?_⟩) ?_ ?_
                    rotate_left
                    ·intro w'
                     go_simp
                     with_reducible rfl
                    rotate_left
                    ·simp only [Act.put, List.setIfInBounds_toArray, List.set_cons_zero, List.set_cons_succ, i64_w, i32_w]
                     rfl
                    refine pure_ (i := 2) (N := some 122) (v := ?_) (a' := ?_) bz2 rfl rfl (any_of HT_.out (by kernel_rfl)) (fun _ _ _ h => h) (Or.inl ⟨by rfl, ?_⟩) ?_ ?_
                    rotate_left
                    ·intro w'
                     go_simp
                     with_reducible rfl
                    rotate_left
                    ·simp only [Act.put, List.setIfInBounds_toArray, List.set_cons_zero, List.set_cons_succ, i64_w, i32_w]
                     rfl
                    refine pure_ (i := 3) (N := some 123) (v := ?_) (a' := ?_) bz3 rfl rfl (any_of HT_.out (by kernel_rfl)) (fun _ _ _ h => h) (Or.inl ⟨by rfl, ?_⟩) ?_ ?_
                    rotate_left
                    ·intro w'
                     go_simp
                     with_reducible rfl
                    rotate_left
                    ·simp only [Act.put, List.setIfInBounds_toArray, List.set_cons_zero, List.set_cons_succ, i64_w, i32_w]
                     rfl
                    refine pure_ (i := 4) (N := some 124) (v := ?_) (a' := ?_) bz4 rfl rfl (any_of HT_.out (by kernel_rfl)) (fun _ _ _ h => h) (Or.inl ⟨by rfl, ?_⟩) ?_ ?_
                    rotate_left
                    ·intro w'
                     go_simp
                     with_reducible rfl
                    rotate_left
                    ·simp only [Act.put, List.setIfInBounds_toArray, List.set_cons_zero, List.set_cons_succ, i64_w, i32_w]
                     rfl
                    refine pure_ (i := 5) (N := some 125) (v := ?_) (a' := ?_) bz5 rfl rfl (any_of HT_.out (by kernel_rfl)) (fun _ _ _ h => h) (Or.inl ⟨by rfl, ?_⟩) ?_ ?_
                    rotate_left
                    ·intro w'
                     go_simp
                     with_reducible rfl
                    rotate_left
                    ·simp only [Act.put, List.setIfInBounds_toArray, List.set_cons_zero, List.set_cons_succ, i64_w, i32_w]
                     rfl
                    refine pure_ (i := 6) (N := some 126) (v := ?_) (a' := ?_) bz6 rfl rfl (any_of HT_.out (by kernel_rfl)) (fun _ _ _ h => h) (Or.inl ⟨by rfl, ?_⟩) ?_ ?_
                    rotate_left
                    ·intro w'
                     go_simp
                     with_reducible rfl
                    rotate_left
                    ·simp only [Act.put, List.setIfInBounds_toArray, List.set_cons_zero, List.set_cons_succ, i64_w, i32_w]
                     rfl
                    refine pure_ (i := 10) (N := some 130) (v := ?_) (a' := ?_) #[true, false, true, true, true, true, true, false, false, false, true, false, false, false, false, false] rfl rfl (any_of HT_.out (by kernel_rfl)) (fun _ _ _ h => h) (Or.inl ⟨by rfl, ?_⟩) ?_ ?_
                    rotate_left
                    ·intro w'
                     go_simp
                     with_reducible rfl
                    rotate_left
                    ·simp only [Act.put, List.setIfInBounds_toArray, List.set_cons_zero, List.set_cons_succ, i64_w, i32_w]
                     rfl
                    refine take_ (i := 1) (N := some 121) (v := ?_) (a' := ?_) #[true, true, true, true, true, true, true, false, false, false, true, false, false, false, false, false] rfl rfl (take_ofW HT_.out HW_.out (by kernel_rfl)) (fun _ _ _ h => h) (Or.inl ⟨by rfl, ?_⟩) hHeld ?_ ?_
                    rotate_left
                    ·rintro w' ⟨s0, s1, s2, s3, s4, s5, s6⟩
                     go_simp
                     with_reducible rfl
                    rotate_left
                    ·simp only [Act.put, List.setIfInBounds_toArray, List.set_cons_zero, List.set_cons_succ, i64_w, i32_w]
                     rfl
                    refine take_ (i := 7) (N := some 127) (v := ?_) (a' := ?_) #[true, true, true, true, true, true, true, true, false, false, true, false, false, false, false, false] rfl rfl (take_ofW HT_.out HW_.out (by kernel_rfl)) (fun _ _ _ h => h) (Or.inl ⟨by rfl, ?_⟩) hHeld ?_ ?_
                    rotate_left
                    ·rintro w' ⟨s0, s1, s2, s3, s4, s5, s6⟩
                     go_simp
                     with_reducible rfl
                    rotate_left
                    ·simp only [Act.put, List.setIfInBounds_toArray, List.set_cons_zero, List.set_cons_succ, i64_w, i32_w]
                     rfl
                    refine pure_ (i := 8) (N := some 128) (v := ?_) (a' := ?_) #[true, true, true, true, true, true, true, true, true, false, true, false, false, false, false, false] rfl rfl (any_of HT_.out (by kernel_rfl)) (fun _ _ _ h => h) (Or.inl ⟨by rfl, ?_⟩) ?_ ?_
                    rotate_left
                    ·intro w'
                     go_simp
                     with_reducible rfl
                    rotate_left
                    ·simp only [Act.put, List.setIfInBounds_toArray, List.set_cons_zero, List.set_cons_succ, i64_w, i32_w]
                     rfl
                    refine pure_ (i := 9) (N := some 129) (v := ?_) (a' := ?_) bz7 rfl rfl (any_of HT_.out (by kernel_rfl)) (fun _ _ _ h => h) (Or.inl ⟨by rfl, ?_⟩) ?_ ?_
                    rotate_left
                    ·intro w'
                     go_simp
                     with_reducible rfl
                    rotate_left
                    ·simp only [Act.put, List.setIfInBounds_toArray, List.set_cons_zero, List.set_cons_succ, i64_w, i32_w]
                     rfl
                    refine pure_ (i := 11) (N := some 131) (v := ?_) (a' := ?_) bz8 rfl rfl (any_of HT_.out (by kernel_rfl)) (fun _ _ _ h => h) (Or.inl ⟨by rfl, ?_⟩) ?_ ?_
                    rotate_left
                    ·intro w'
                     go_simp
                     with_reducible rfl
                    rotate_left
                    ·simp only [Act.put, List.setIfInBounds_toArray, List.set_cons_zero, List.set_cons_succ, i64_w, i32_w]
                     rfl
                    refine one_ (i := 12) (N := some 132) bz9 rfl rfl (one_of HT_.out (by kernel_rfl)) (by decide) (fun K hK => ?_)
                    refine value_ (w1 := ?_) (v := ?_) (by rfl) rfl ?_ ?_
                    rotate_left 2
                    ·go_simp
                     constructor
                     ·rfl
                     ·rfl
                    refine hK.out _ _ ⟨(blk_cell (blk_alloc BK150.out _) 0).trans rfl, (blk_cell (blk_alloc BK150.out _) 1).trans rfl, (blk_cell (blk_alloc BK150.out _) 2).trans rfl, (blk_cell (blk_alloc BK150.out _) 3).trans rfl, (blk_cell (blk_alloc BK150.out _) 4).trans rfl, (blk_cell (blk_alloc BK150.out _) 5).trans rfl, (blk_cell (blk_alloc BK150.out _) 6).trans rfl⟩ (fun hHeld => ?_)
                    clear hK K
                    refine norm_ (a' := ?_) ?_ ?_
                    rotate_left
                    ·show Act.put _ (some 132) _ = _
                     simp only [Act.put, List.setIfInBounds_toArray, List.set_cons_zero, List.set_cons_succ, i64_w, i32_w]
                     rfl
                    refine one_ (i := 13) (N := some 133) bz10 rfl rfl (one_of HT_.out (by kernel_rfl)) (by decide) (fun K hK => ?_)
                    refine Kd.R_append_step k54 (w0 := w) w.heap.size (by rfl) (.tmp 121) (.tmp 132) 27 54 (.agg #[(.int .i64 0), (.int .i64 0), (.int .i64 0), (.int .i64 0)]) 32 rfl Try.underlying27 info54 rfl (by decide) (by omega) u151005 x151005_1 (⟨(Int.tmod (wrap64 (Int.tdiv t155 8)) (wrap64 (1 + t148))), t166, Int.tmod (wrap64 (Int.tdiv t155 8000)) (wrap64 ((wrap64 (1 + t149)) + 1)), (Int.tmod (wrap64 (Int.tdiv t155 80)) (wrap64 (1 + t148)))⟩ : S54) [.int .i64 (Int.tmod (wrap64 (Int.tdiv t155 8)) (wrap64 (1 + t148))), .int .i64 t166, .int .i64 (Int.tmod (wrap64 (Int.tdiv t155 8000)) (wrap64 ((wrap64 (1 + t149)) + 1))), .int .i64 (Int.tmod (wrap64 (Int.tdiv t155 80)) (wrap64 (1 + t148)))] (fun _ => True) (fun _ => False) rfl rfl ?aP (fun _ hk => hk.elim) ?aF ?aO ?aB ?aS ?aL ?_
                    (case aP => exact k54_mkM _ _ _ (⟨(Int.tmod (wrap64 (Int.tdiv t155 8)) (wrap64 (1 + t148))), t166, Int.tmod (wrap64 (Int.tdiv t155 8000)) (wrap64 ((wrap64 (1 + t149)) + 1)), (Int.tmod (wrap64 (Int.tdiv t155 80)) (wrap64 (1 + t148)))⟩ : S54))
                    (case aB => exact (by repeat (first | (with_reducible first | exact HB.out | apply below_alloc | apply pw_below_drewN | apply below_drew1 | refine below_set ?_ GE147.out | refine below_set ?_ GE150.out) | exact HB.out)))
                    (case aF => exact (fun _ _ => trivial))
                    (case aO => exact (by (with_reducible repeat (first | apply Kd.R_alloc | apply Kd.R_drewN | apply Kd.R_drew)); exact HO_151005.out))
                    (case aS => exact (below_size (by repeat (first | (with_reducible first | exact HB.out | apply below_alloc | apply pw_below_drewN | apply below_drew1 | refine below_set ?_ GE147.out | refine below_set ?_ GE150.out) | exact HB.out))))
                    (case aL => have := LMc54.out; omega)
                    intro v168 w57 ho hb hg hat
                    rw [← Ny167.out] at ho
                    have n0_ := Aside0.mk (Kd.R_over' (by (with_reducible repeat (first | apply Kd.R_alloc | apply Kd.R_drewN | apply Kd.R_drew)); exact HO_151002.out) (Kd.R_typed (by (with_reducible repeat (first | apply Kd.R_alloc | apply Kd.R_drewN | apply Kd.R_drew)); exact HO_151005.out)) (by decide) hg)
                    have n1_ := Aside0.mk (Kd.R_over' (by (with_reducible repeat (first | apply Kd.R_alloc | apply Kd.R_drewN | apply Kd.R_drew)); exact HO_151003.out) (Kd.R_typed (by (with_reducible repeat (first | apply Kd.R_alloc | apply Kd.R_drewN | apply Kd.R_drew)); exact HO_151005.out)) (by decide) hg)
                    have n2_ := Aside0.mk (Kd.R_over' (by (with_reducible repeat (first | apply Kd.R_alloc | apply Kd.R_drewN | apply Kd.R_drew)); exact HO_151004.out) (Kd.R_typed (by (with_reducible repeat (first | apply Kd.R_alloc | apply Kd.R_drewN | apply Kd.R_drew)); exact HO_151005.out)) (by decide) hg)
                    have n3_ := Aside0.mk (Kd.R_over' (by (with_reducible repeat (first | apply Kd.R_alloc | apply Kd.R_drewN | apply Kd.R_drew)); exact HO_151006.out) (Kd.R_typed (by (with_reducible repeat (first | apply Kd.R_alloc | apply Kd.R_drewN | apply Kd.R_drew)); exact HO_151005.out)) (by decide) hg)
                    have n4_ := Aside0.mk (blk_grown (g := gb147) (o := .cells #[.int .i64 0, .int .i64 0, .slice none 0 0, .slice none 0 0, .slice none 0 0, .slice none 0 0, .slice none 0 0] 30 (0, 0)) (by (with_reducible repeat (first | refine blk_drewN ?_ _ | refine blk_drew ?_ | refine blk_alloc ?_ _)); exact BK147.out) hg (Kd.R_ne HO_151005.out BK147.out (by decide)))
                    have n5_ := Aside0.mk (blk_grown (g := gb150) (o := .cells #[.int .i64 (wrap64 (1 + t148)), .int .i64 (wrap64 (1 + t149)), u151002, u151003, u151004, u151005, u151006] 30 (0, 0)) (by (with_reducible repeat (first | refine blk_drewN ?_ _ | refine blk_drew ?_ | refine blk_alloc ?_ _)); exact BK150.out) hg (Kd.R_ne HO_151005.out BK150.out (by decide)))
                    have n6_ := Aside0.mk (hb)
                    have n7_ := Aside0.mk (ho)
                    clear HO_151002
                    clear HO_151003
                    clear HO_151004
                    clear HO_151006
                    clear BK147
                    clear BK150
                    clear HB
                    clear HO_151005
                    have HO_151002 := n0_
                    have HO_151003 := n1_
                    have HO_151004 := n2_
                    have HO_151006 := n3_
                    have BK147 := n4_
                    have BK150 := n5_
                    have HB := n6_
                    have HO169 := n7_
                    clear n0_ n1_ n2_ n3_ n4_ n5_ n6_ n7_
                    clear ho hb hg hat
                    obtain ⟨Ao58, co58, eo58⟩ := Kd.R_slice HO169.out
                    (first | subst eo58 | (injection eo58 with f1_ f2_ f3_; have f4_ := f1_.symm; have f5_ := f3_.symm; clear f1_ f2_ f3_; subst f4_; subst f5_))
                    refine hK.out _ _ ⟨(blk_cell BK150.out 0).trans rfl, (blk_cell BK150.out 1).trans rfl, (blk_cell BK150.out 2).trans rfl, (blk_cell BK150.out 3).trans rfl, (blk_cell BK150.out 4).trans rfl, (blk_cell BK150.out 5).trans rfl, (blk_cell BK150.out 6).trans rfl⟩ (fun hHeld => ?_)
                    clear hK K
                    refine norm_ (a' := ?_) ?_ ?_
                    rotate_left
                    ·show Act.put _ (some 133) _ = _
                     simp only [Act.put, List.setIfInBounds_toArray, List.set_cons_zero, List.set_cons_succ, i64_w, i32_w]
                     rfl
                    refine pure_ (i := 14) (N := some 134) (v := ?_) (a' := ?_) bz11 rfl rfl (any_of HT_.out (by kernel_rfl)) (fun _ _ _ h => h) (Or.inl ⟨by rfl, ?_⟩) ?_ ?_
                    rotate_left
                    ·intro w'
                     go_simp
                     with_reducible rfl
                    rotate_left
                    ·simp only [Act.put, List.setIfInBounds_toArray, List.set_cons_zero, List.set_cons_succ, i64_w, i32_w]
                     rfl
                    refine last_ (i := 15) (N := none) bz12 rfl rfl (one_of HT_.out (by kernel_rfl)) (by decide) (fun K hK => ?_)
                    have hs59 : w57.cell? ⟨gb150, 5, none⟩ = some (u151005) := (blk_cell BK150.out 5).trans rfl
                    have hfs59 := blk_frozen BK150.out 5
                    have hns59_0 := NB147_150.out
                    have hms59_0 := NB150_147.out
                    refine skip_ (w1 := ?_) (by rfl) rfl ?_ ?_
                    rotate_left
                    ·go_simp
                     rfl
                    refine hK.out _ _ ?_
                    clear hK K
                    refine done_ (done_of HT_.out (by kernel_rfl)) ?_
                    try go_wp2
                    go_roundg kj47
                    case measure => have := HK1.out; have := HJ10.out; have := HJ33.out; have := HJ47.out; omega
                    case rel => exact ⟨(wrap64 (x10_1 + 1)), (x151002_1), (x151003_1), (x151004_1), (y167), (x151006_1), (u151002), (u151003), (u151004), (.slice Ao58 y167.length co58), (u151006), (by first | rfl | (simp; done) | (simp [*]; done)), H', ⟨by have := HK1.out; have := HJ10.out; have := HJ33.out; have := HJ47.out; omega⟩, ⟨by (with_reducible repeat (first | apply Kd.R_alloc | apply Kd.R_drewN | apply Kd.R_drew)); exact Kd.R_mono (Kd.R_far (p := ⟨gb150, 5, none⟩) (Kd.R_types HO_151002.out BK150.out (by decide)) (fun _ hk => hk.2) (.slice Ao58 y167.length co58)) (fun _ hk => hk.1)⟩, ⟨by (with_reducible repeat (first | apply Kd.R_alloc | apply Kd.R_drewN | apply Kd.R_drew)); exact Kd.R_mono (Kd.R_far (p := ⟨gb150, 5, none⟩) (Kd.R_types HO_151003.out BK150.out (by decide)) (fun _ hk => hk.2) (.slice Ao58 y167.length co58)) (fun _ hk => hk.1)⟩, ⟨by (with_reducible repeat (first | apply Kd.R_alloc | apply Kd.R_drewN | apply Kd.R_drew)); exact Kd.R_mono (Kd.R_far (p := ⟨gb150, 5, none⟩) (Kd.R_types HO_151004.out BK150.out (by decide)) (fun _ hk => hk.2) (.slice Ao58 y167.length co58)) (fun _ hk => trivial)⟩, ⟨by (with_reducible repeat (first | apply Kd.R_alloc | apply Kd.R_drewN | apply Kd.R_drew)); exact Kd.R_mono (Kd.R_far (p := ⟨gb150, 5, none⟩) (Kd.R_types HO169.out BK150.out (by decide)) (fun _ hk => hk.2) (.slice Ao58 y167.length co58)) (fun _ hk => trivial)⟩, ⟨by (with_reducible repeat (first | apply Kd.R_alloc | apply Kd.R_drewN | apply Kd.R_drew)); exact Kd.R_mono (Kd.R_far (p := ⟨gb150, 5, none⟩) (Kd.R_types HO_151006.out BK150.out (by decide)) (fun _ hk => hk.2) (.slice Ao58 y167.length co58)) (fun _ hk => trivial)⟩, ⟨by (with_reducible repeat (first | refine blk_drewN ?_ _ | refine blk_drew ?_ | refine blk_alloc ?_ _)); refine blk_far ?_ NB147_150.out _; (with_reducible repeat (first | refine blk_drewN ?_ _ | refine blk_drew ?_ | refine blk_alloc ?_ _)); exact BK147.out⟩, ⟨by (with_reducible repeat (first | refine blk_drewN ?_ _ | refine blk_drew ?_ | refine blk_alloc ?_ _)); refine blk_put (cs := #[.int .i64 (wrap64 (1 + t148)), .int .i64 (wrap64 (1 + t149)), u151002, u151003, u151004, u151005, u151006]) ?_ 5 _ rfl; (with_reducible repeat (first | refine blk_drewN ?_ _ | refine blk_drew ?_ | refine blk_alloc ?_ _)); exact BK150.out⟩, ⟨by repeat (first | (with_reducible first | exact HB.out | apply below_alloc | apply pw_below_drewN | apply below_drew1 | refine below_set ?_ GE147.out | refine below_set ?_ GE150.out) | exact HB.out)⟩⟩
                   ·rw [if_neg c54] at H
                    exact absurd H (by simp)
                 ·rw [if_neg c52] at H
                  have c52b0 : decide (0 ≤ t166) = false := decide_eq_false c52
                  clear c52
                  have H' := Aside0.mk H
                  clear H
                  go_wp2_with (first | ((with_reducible refine gate_callee (f := 32) rfl ?_); refine goesL_ (some 117) rfl rfl Try.func32 (by kernel_rfl) rfl #[.slice A0 l0.length c0, .int .i64 2, .int .i64 (Int.tmod (wrap64 (Int.tdiv t155 800)) 7)] rfl (by (try simp only [List.map_toArray, List.map_cons, List.map_nil]); first | done | rfl | (simp only [List.length_drop, List.length_take]; rfl)) ?_; (with_reducible refine (canopylaw3_pick.calls kj47 _ _ l0 2 (Int.tmod (wrap64 (Int.tdiv t155 800)) 7) t166 _ ?side1 ?side2 A51.out).mono ?_); (case side1 => repeat (first | exact (Kd.C_below HR0.out HB.out) | (with_reducible refine Kd.C_alloc ?_ _) | (with_reducible refine Kd.C_drewN ?_ _) | (with_reducible refine Kd.C_drew ?_))); (case side2 => exact HC0.out); rintro e w60 ⟨rfl, hb⟩; refine ⟨_, rfl, ?_⟩; have n0_ := Aside0.mk (Kd.R_below (by (with_reducible repeat (first | apply Kd.R_alloc | apply Kd.R_drewN | apply Kd.R_drew)); exact HO_151002.out) hb); have n1_ := Aside0.mk (Kd.R_below (by (with_reducible repeat (first | apply Kd.R_alloc | apply Kd.R_drewN | apply Kd.R_drew)); exact HO_151003.out) hb); have n2_ := Aside0.mk (Kd.R_below (by (with_reducible repeat (first | apply Kd.R_alloc | apply Kd.R_drewN | apply Kd.R_drew)); exact HO_151004.out) hb); have n3_ := Aside0.mk (Kd.R_below (by (with_reducible repeat (first | apply Kd.R_alloc | apply Kd.R_drewN | apply Kd.R_drew)); exact HO_151005.out) hb); have n4_ := Aside0.mk (Kd.R_below (by (with_reducible repeat (first | apply Kd.R_alloc | apply Kd.R_drewN | apply Kd.R_drew)); exact HO_151006.out) hb); have n5_ := Aside0.mk (blk_below (g := gb147) (o := .cells #[.int .i64 0, .int .i64 0, .slice none 0 0, .slice none 0 0, .slice none 0 0, .slice none 0 0, .slice none 0 0] 30 (0, 0)) (by (with_reducible repeat (first | refine blk_drewN ?_ _ | refine blk_drew ?_ | refine blk_alloc ?_ _)); exact BK147.out) hb); have n6_ := Aside0.mk (blk_below (g := gb150) (o := .cells #[.int .i64 (wrap64 (1 + t148)), .int .i64 (wrap64 (1 + t149)), u151002, u151003, u151004, u151005, u151006] 30 (0, 0)) (by (with_reducible repeat (first | refine blk_drewN ?_ _ | refine blk_drew ?_ | refine blk_alloc ?_ _)); exact BK150.out) hb); have n7_ := Aside0.mk (below_step (by repeat (first | (with_reducible first | exact HB.out | apply below_alloc | apply pw_below_drewN | apply below_drew1 | refine below_set ?_ GE147.out | refine below_set ?_ GE150.out) | exact HB.out)) hb); clear HO_151002; clear HO_151003; clear HO_151004; clear HO_151005; clear HO_151006; clear BK147; clear BK150; clear HB; have HO_151002 := n0_; have HO_151003 := n1_; have HO_151004 := n2_; have HO_151005 := n3_; have HO_151006 := n4_; have BK147 := n5_; have BK150 := n6_; have HB := n7_; clear n0_ n1_ n2_ n3_ n4_ n5_ n6_ n7_; (try clear hb); (try clear hb2); (try clear hk); (try clear hi)))
                  go_roundg kj47
                  case measure => have := HK1.out; have := HJ10.out; have := HJ33.out; have := HJ47.out; omega
                  case rel => exact ⟨(wrap64 (x10_1 + 1)), (x151002_1), (x151003_1), (x151004_1), (x151005_1), (x151006_1), (u151002), (u151003), (u151004), (u151005), (u151006), (by first | rfl | (simp; done) | (simp [*]; done)), H', ⟨by have := HK1.out; have := HJ10.out; have := HJ33.out; have := HJ47.out; omega⟩, ⟨by (with_reducible repeat (first | apply Kd.R_alloc | apply Kd.R_drewN | apply Kd.R_drew)); exact HO_151002.out⟩, ⟨by (with_reducible repeat (first | apply Kd.R_alloc | apply Kd.R_drewN | apply Kd.R_drew)); exact HO_151003.out⟩, ⟨by (with_reducible repeat (first | apply Kd.R_alloc | apply Kd.R_drewN | apply Kd.R_drew)); exact HO_151004.out⟩, ⟨by (with_reducible repeat (first | apply Kd.R_alloc | apply Kd.R_drewN | apply Kd.R_drew)); exact HO_151005.out⟩, ⟨by (with_reducible repeat (first | apply Kd.R_alloc | apply Kd.R_drewN | apply Kd.R_drew)); exact HO_151006.out⟩, ⟨by (with_reducible repeat (first | refine blk_drewN ?_ _ | refine blk_drew ?_ | refine blk_alloc ?_ _)); exact BK147.out⟩, ⟨by (with_reducible repeat (first | refine blk_drewN ?_ _ | refine blk_drew ?_ | refine blk_alloc ?_ _)); exact BK150.out⟩, ⟨by repeat (first | (with_reducible first | exact HB.out | apply below_alloc | apply pw_below_drewN | apply below_drew1 | refine below_set ?_ GE147.out | refine below_set ?_ GE150.out) | exact HB.out)⟩⟩
                ·replace c50 := Bool.eq_false_iff.mpr c50
                 subst c50
                 have H1 : ((canopylaw3_pick.f kj47 l0 3 (Int.tmod (wrap64 (Int.tdiv t155 800)) 7)).bind fun t170 => (if t170 ≥ 0 then (if x151006_1.length < 5864062014805 then (canopylaw3_Make.l0 kj47 l0 l2 (wrap64 (x10_1 + 1)) (wrap64 (1 + t148)) (wrap64 (1 + t149)) x151002_1 x151003_1 x151004_1 x151005_1 (x151006_1 ++ [(⟨(Int.tmod (wrap64 (Int.tdiv t155 8)) (wrap64 (1 + t148))), t170, (Int.tmod (wrap64 (Int.tdiv t155 80)) (wrap64 (1 + t148)))⟩ : S56)])) else (none)) else (canopylaw3_Make.l0 kj47 l0 l2 (wrap64 (x10_1 + 1)) (wrap64 (1 + t148)) (wrap64 (1 + t149)) x151002_1 x151003_1 x151004_1 x151005_1 x151006_1))) = some (r1, r2, r3, r4, r5, r6, r7) := by rw [if_neg (show ¬ (false = true) by decide)] at H; exact H
                 clear H
                 have H := H1
                 clear H1
                 replace H := Option.bind_eq_some_iff.mp H
                 obtain ⟨t170, A610, H⟩ := H
                 replace H : (if t170 ≥ 0 then (if x151006_1.length < 5864062014805 then (canopylaw3_Make.l0 kj47 l0 l2 (wrap64 (x10_1 + 1)) (wrap64 (1 + t148)) (wrap64 (1 + t149)) x151002_1 x151003_1 x151004_1 x151005_1 (x151006_1 ++ [(⟨(Int.tmod (wrap64 (Int.tdiv t155 8)) (wrap64 (1 + t148))), t170, (Int.tmod (wrap64 (Int.tdiv t155 80)) (wrap64 (1 + t148)))⟩ : S56)])) else (none)) else (canopylaw3_Make.l0 kj47 l0 l2 (wrap64 (x10_1 + 1)) (wrap64 (1 + t148)) (wrap64 (1 + t149)) x151002_1 x151003_1 x151004_1 x151005_1 x151006_1)) = some (r1, r2, r3, r4, r5, r6, r7) := H
                 have A61 := Aside0.mk A610
                 clear A610
                 by_cases c62 : t170 ≥ 0
                 ·rw [if_pos c62] at H
                  have c62b0 : decide (0 ≤ t170) = true := decide_eq_true c62
                  clear c62
                  by_cases c63 : x151006_1.length < 5864062014805
                  ·rw [if_pos c63] at H
                   have LMc63 := Aside0.mk c63
                   clear c63
                   obtain ⟨y171, hy171⟩ : ∃ y_ : List (S56), y_ = (x151006_1 ++ [(⟨(Int.tmod (wrap64 (Int.tdiv t155 8)) (wrap64 (1 + t148))), t170, (Int.tmod (wrap64 (Int.tdiv t155 80)) (wrap64 (1 + t148)))⟩ : S56)]) := ⟨_, rfl⟩
                   replace H : (canopylaw3_Make.l0 kj47 l0 l2 (wrap64 (x10_1 + 1)) (wrap64 (1 + t148)) (wrap64 (1 + t149)) x151002_1 x151003_1 x151004_1 x151005_1 y171) = some (r1, r2, r3, r4, r5, r6, r7) := by first | (rw [hy171]; with_reducible exact H) | (have H2_ := (Option.bind_some _ _).symm.trans H; rw [hy171]; with_reducible exact H2_) | (have H2_ := (Option.bind_some _ _).symm.trans H; with_reducible exact H2_) | with_reducible exact H | (rw [hy171]; exact H) | exact H
                   have Ny171 := Aside0.mk hy171
                   clear hy171
                   have H' := Aside0.mk H
                   clear H
                   go_wp2_with (first | ((with_reducible refine gate_callee (f := 32) rfl ?_); refine goesL_ (some 57) rfl rfl Try.func32 (by kernel_rfl) rfl #[.slice A0 l0.length c0, .int .i64 3, .int .i64 (Int.tmod (wrap64 (Int.tdiv t155 800)) 7)] rfl (by (try simp only [List.map_toArray, List.map_cons, List.map_nil]); first | done | rfl | (simp only [List.length_drop, List.length_take]; rfl)) ?_; (with_reducible refine (canopylaw3_pick.calls kj47 _ _ l0 3 (Int.tmod (wrap64 (Int.tdiv t155 800)) 7) t170 _ ?side1 ?side2 A61.out).mono ?_); (case side1 => repeat (first | exact (Kd.C_below HR0.out HB.out) | (with_reducible refine Kd.C_alloc ?_ _) | (with_reducible refine Kd.C_drewN ?_ _) | (with_reducible refine Kd.C_drew ?_))); (case side2 => exact HC0.out); rintro e w64 ⟨rfl, hb⟩; refine ⟨_, rfl, ?_⟩; have n0_ := Aside0.mk (Kd.R_below (by (with_reducible repeat (first | apply Kd.R_alloc | apply Kd.R_drewN | apply Kd.R_drew)); exact HO_151002.out) hb); have n1_ := Aside0.mk (Kd.R_below (by (with_reducible repeat (first | apply Kd.R_alloc | apply Kd.R_drewN | apply Kd.R_drew)); exact HO_151003.out) hb); have n2_ := Aside0.mk (Kd.R_below (by (with_reducible repeat (first | apply Kd.R_alloc | apply Kd.R_drewN | apply Kd.R_drew)); exact HO_151004.out) hb); have n3_ := Aside0.mk (Kd.R_below (by (with_reducible repeat (first | apply Kd.R_alloc | apply Kd.R_drewN | apply Kd.R_drew)); exact HO_151005.out) hb); have n4_ := Aside0.mk (Kd.R_below (by (with_reducible repeat (first | apply Kd.R_alloc | apply Kd.R_drewN | apply Kd.R_drew)); exact HO_151006.out) hb); have n5_ := Aside0.mk (blk_below (g := gb147) (o := .cells #[.int .i64 0, .int .i64 0, .slice none 0 0, .slice none 0 0, .slice none 0 0, .slice none 0 0, .slice none 0 0] 30 (0, 0)) (by (with_reducible repeat (first | refine blk_drewN ?_ _ | refine blk_drew ?_ | refine blk_alloc ?_ _)); exact BK147.out) hb); have n6_ := Aside0.mk (blk_below (g := gb150) (o := .cells #[.int .i64 (wrap64 (1 + t148)), .int .i64 (wrap64 (1 + t149)), u151002, u151003, u151004, u151005, u151006] 30 (0, 0)) (by (with_reducible repeat (first | refine blk_drewN ?_ _ | refine blk_drew ?_ | refine blk_alloc ?_ _)); exact BK150.out) hb); have n7_ := Aside0.mk (below_step (by repeat (first | (with_reducible first | exact HB.out | apply below_alloc | apply pw_below_drewN | apply below_drew1 | refine below_set ?_ GE147.out | refine below_set ?_ GE150.out) | exact HB.out)) hb); clear HO_151002; clear HO_151003; clear HO_151004; clear HO_151005; clear HO_151006; clear BK147; clear BK150; clear HB; have HO_151002 := n0_; have HO_151003 := n1_; have HO_151004 := n2_; have HO_151005 := n3_; have HO_151006 := n4_; have BK147 := n5_; have BK150 := n6_; have HB := n7_; clear n0_ n1_ n2_ n3_ n4_ n5_ n6_ n7_; (try clear hb); (try clear hb2); (try clear hk); (try clear hi); have hnb65 := NB150_147.out; have hnc65 := NB147_150.out; have hcz66_0 : w64.cell? ⟨gb150, 0, none⟩ = some (.int .i64 (wrap64 (1 + t148))) := (blk_cell BK150.out 0).trans rfl; have hcz66_1 : w64.cell? ⟨gb150, 1, none⟩ = some (.int .i64 (wrap64 (1 + t149))) := (blk_cell BK150.out 1).trans rfl; have hcz66_2 : w64.cell? ⟨gb150, 2, none⟩ = some (u151002) := (blk_cell BK150.out 2).trans rfl; have hcz66_3 : w64.cell? ⟨gb150, 3, none⟩ = some (u151003) := (blk_cell BK150.out 3).trans rfl; have hcz66_4 : w64.cell? ⟨gb150, 4, none⟩ = some (u151004) := (blk_cell BK150.out 4).trans rfl; have hcz66_5 : w64.cell? ⟨gb150, 5, none⟩ = some (u151005) := (blk_cell BK150.out 5).trans rfl; have hcz66_6 : w64.cell? ⟨gb150, 6, none⟩ = some (u151006) := (blk_cell BK150.out 6).trans rfl; have hfz66_0 := blk_frozen BK150.out 0; have hfz66_1 := blk_frozen BK150.out 1; have hfz66_2 := blk_frozen BK150.out 2; have hfz66_3 := blk_frozen BK150.out 3; have hfz66_4 := blk_frozen BK150.out 4; have hfz66_5 := blk_frozen BK150.out 5; have hfz66_6 := blk_frozen BK150.out 6) | ((with_reducible refine gate_builtin (b := .append) (xs := #[.tmp 61, .tmp 66]) rfl ?_); at_builtin; refine Kd.R_append k56 (w0 := w) w.heap.size rfl (.tmp 61) (.tmp 66) 28 56 (.agg #[(.int .i64 0), (.int .i64 0), (.int .i64 0)]) 24 rfl Try.underlying28 info56 rfl (by decide) (by omega) u151006 x151006_1 (⟨(Int.tmod (wrap64 (Int.tdiv t155 8)) (wrap64 (1 + t148))), t170, (Int.tmod (wrap64 (Int.tdiv t155 80)) (wrap64 (1 + t148)))⟩ : S56) [.int .i64 (Int.tmod (wrap64 (Int.tdiv t155 8)) (wrap64 (1 + t148))), .int .i64 t170, .int .i64 (Int.tmod (wrap64 (Int.tdiv t155 80)) (wrap64 (1 + t148)))] (fun _ => True) (fun _ => False) rfl rfl ?aP (fun _ hk => hk.elim) ?aF ?aO ?aB ?aS ?aL ?_; (case aP => exact k56_mkM _ _ _ (⟨(Int.tmod (wrap64 (Int.tdiv t155 8)) (wrap64 (1 + t148))), t170, (Int.tmod (wrap64 (Int.tdiv t155 80)) (wrap64 (1 + t148)))⟩ : S56)); (case aB => exact (by repeat (first | (with_reducible first | exact HB.out | apply below_alloc | apply pw_below_drewN | apply below_drew1 | refine below_set ?_ GE147.out | refine below_set ?_ GE150.out) | exact HB.out))); (case aF => exact (fun _ _ => trivial)); (case aO => exact (by (with_reducible repeat (first | apply Kd.R_alloc | apply Kd.R_drewN | apply Kd.R_drew)); exact HO_151006.out)); (case aS => exact (below_size (by repeat (first | (with_reducible first | exact HB.out | apply below_alloc | apply pw_below_drewN | apply below_drew1 | refine below_set ?_ GE147.out | refine below_set ?_ GE150.out) | exact HB.out)))); (case aL => have := LMc63.out; omega); intro v172 w67 ho hb hg hat; rw [← Ny171.out] at ho; have n0_ := Aside0.mk (Kd.R_over' (by (with_reducible repeat (first | apply Kd.R_alloc | apply Kd.R_drewN | apply Kd.R_drew)); exact HO_151002.out) (Kd.R_typed (by (with_reducible repeat (first | apply Kd.R_alloc | apply Kd.R_drewN | apply Kd.R_drew)); exact HO_151006.out)) (by decide) hg); have n1_ := Aside0.mk (Kd.R_over' (by (with_reducible repeat (first | apply Kd.R_alloc | apply Kd.R_drewN | apply Kd.R_drew)); exact HO_151003.out) (Kd.R_typed (by (with_reducible repeat (first | apply Kd.R_alloc | apply Kd.R_drewN | apply Kd.R_drew)); exact HO_151006.out)) (by decide) hg); have n2_ := Aside0.mk (Kd.R_over' (by (with_reducible repeat (first | apply Kd.R_alloc | apply Kd.R_drewN | apply Kd.R_drew)); exact HO_151004.out) (Kd.R_typed (by (with_reducible repeat (first | apply Kd.R_alloc | apply Kd.R_drewN | apply Kd.R_drew)); exact HO_151006.out)) (by decide) hg); have n3_ := Aside0.mk (Kd.R_over' (by (with_reducible repeat (first | apply Kd.R_alloc | apply Kd.R_drewN | apply Kd.R_drew)); exact HO_151005.out) (Kd.R_typed (by (with_reducible repeat (first | apply Kd.R_alloc | apply Kd.R_drewN | apply Kd.R_drew)); exact HO_151006.out)) (by decide) hg); have n4_ := Aside0.mk (blk_grown (g := gb147) (o := .cells #[.int .i64 0, .int .i64 0, .slice none 0 0, .slice none 0 0, .slice none 0 0, .slice none 0 0, .slice none 0 0] 30 (0, 0)) (by (with_reducible repeat (first | refine blk_drewN ?_ _ | refine blk_drew ?_ | refine blk_alloc ?_ _)); exact BK147.out) hg (Kd.R_ne HO_151006.out BK147.out (by decide))); have n5_ := Aside0.mk (blk_grown (g := gb150) (o := .cells #[.int .i64 (wrap64 (1 + t148)), .int .i64 (wrap64 (1 + t149)), u151002, u151003, u151004, u151005, u151006] 30 (0, 0)) (by (with_reducible repeat (first | refine blk_drewN ?_ _ | refine blk_drew ?_ | refine blk_alloc ?_ _)); exact BK150.out) hg (Kd.R_ne HO_151006.out BK150.out (by decide))); have n6_ := Aside0.mk (hb); have n7_ := Aside0.mk (ho); clear HO_151002; clear HO_151003; clear HO_151004; clear HO_151005; clear BK147; clear BK150; clear HB; clear HO_151006; have HO_151002 := n0_; have HO_151003 := n1_; have HO_151004 := n2_; have HO_151005 := n3_; have BK147 := n4_; have BK150 := n5_; have HB := n6_; have HO173 := n7_; clear n0_ n1_ n2_ n3_ n4_ n5_ n6_ n7_; clear ho hb hg hat; obtain ⟨Ao68, co68, eo68⟩ := Kd.R_slice HO173.out; subst eo68; have hcz69_0 : w67.cell? ⟨gb150, 0, none⟩ = some (.int .i64 (wrap64 (1 + t148))) := (blk_cell BK150.out 0).trans rfl; have hcz69_1 : w67.cell? ⟨gb150, 1, none⟩ = some (.int .i64 (wrap64 (1 + t149))) := (blk_cell BK150.out 1).trans rfl; have hcz69_2 : w67.cell? ⟨gb150, 2, none⟩ = some (u151002) := (blk_cell BK150.out 2).trans rfl; have hcz69_3 : w67.cell? ⟨gb150, 3, none⟩ = some (u151003) := (blk_cell BK150.out 3).trans rfl; have hcz69_4 : w67.cell? ⟨gb150, 4, none⟩ = some (u151004) := (blk_cell BK150.out 4).trans rfl; have hcz69_5 : w67.cell? ⟨gb150, 5, none⟩ = some (u151005) := (blk_cell BK150.out 5).trans rfl; have hcz69_6 : w67.cell? ⟨gb150, 6, none⟩ = some (u151006) := (blk_cell BK150.out 6).trans rfl; have hfz69_0 := blk_frozen BK150.out 0; have hfz69_1 := blk_frozen BK150.out 1; have hfz69_2 := blk_frozen BK150.out 2; have hfz69_3 := blk_frozen BK150.out 3; have hfz69_4 := blk_frozen BK150.out 4; have hfz69_5 := blk_frozen BK150.out 5; have hfz69_6 := blk_frozen BK150.out 6))
                   go_roundg kj47
                   case measure => have := HK1.out; have := HJ10.out; have := HJ33.out; have := HJ47.out; omega
                   case rel => exact ⟨(wrap64 (x10_1 + 1)), (x151002_1), (x151003_1), (x151004_1), (x151005_1), (y171), (u151002), (u151003), (u151004), (u151005), (.slice Ao68 y171.length co68), (by first | rfl | (simp; done) | (simp [*]; done)), H', ⟨by have := HK1.out; have := HJ10.out; have := HJ33.out; have := HJ47.out; omega⟩, ⟨by (with_reducible repeat (first | apply Kd.R_alloc | apply Kd.R_drewN | apply Kd.R_drew)); exact Kd.R_mono (Kd.R_far (p := ⟨gb150, 6, none⟩) (Kd.R_types HO_151002.out BK150.out (by decide)) (fun _ hk => hk.2) (.slice Ao68 y171.length co68)) (fun _ hk => hk.1)⟩, ⟨by (with_reducible repeat (first | apply Kd.R_alloc | apply Kd.R_drewN | apply Kd.R_drew)); exact Kd.R_mono (Kd.R_far (p := ⟨gb150, 6, none⟩) (Kd.R_types HO_151003.out BK150.out (by decide)) (fun _ hk => hk.2) (.slice Ao68 y171.length co68)) (fun _ hk => hk.1)⟩, ⟨by (with_reducible repeat (first | apply Kd.R_alloc | apply Kd.R_drewN | apply Kd.R_drew)); exact Kd.R_mono (Kd.R_far (p := ⟨gb150, 6, none⟩) (Kd.R_types HO_151004.out BK150.out (by decide)) (fun _ hk => hk.2) (.slice Ao68 y171.length co68)) (fun _ hk => trivial)⟩, ⟨by (with_reducible repeat (first | apply Kd.R_alloc | apply Kd.R_drewN | apply Kd.R_drew)); exact Kd.R_mono (Kd.R_far (p := ⟨gb150, 6, none⟩) (Kd.R_types HO_151005.out BK150.out (by decide)) (fun _ hk => hk.2) (.slice Ao68 y171.length co68)) (fun _ hk => trivial)⟩, ⟨by (with_reducible repeat (first | apply Kd.R_alloc | apply Kd.R_drewN | apply Kd.R_drew)); exact Kd.R_mono (Kd.R_far (p := ⟨gb150, 6, none⟩) (Kd.R_types HO173.out BK150.out (by decide)) (fun _ hk => hk.2) (.slice Ao68 y171.length co68)) (fun _ hk => trivial)⟩, ⟨by (with_reducible repeat (first | refine blk_drewN ?_ _ | refine blk_drew ?_ | refine blk_alloc ?_ _)); refine blk_far ?_ NB147_150.out _; (with_reducible repeat (first | refine blk_drewN ?_ _ | refine blk_drew ?_ | refine blk_alloc ?_ _)); exact BK147.out⟩, ⟨by (with_reducible repeat (first | refine blk_drewN ?_ _ | refine blk_drew ?_ | refine blk_alloc ?_ _)); refine blk_put (cs := #[.int .i64 (wrap64 (1 + t148)), .int .i64 (wrap64 (1 + t149)), u151002, u151003, u151004, u151005, u151006]) ?_ 6 _ rfl; (with_reducible repeat (first | refine blk_drewN ?_ _ | refine blk_drew ?_ | refine blk_alloc ?_ _)); exact BK150.out⟩, ⟨by repeat (first | (with_reducible first | exact HB.out | apply below_alloc | apply pw_below_drewN | apply below_drew1 | refine below_set ?_ GE147.out | refine below_set ?_ GE150.out) | exact HB.out)⟩⟩
                  ·rw [if_neg c63] at H
                   exact absurd H (by simp)
                 ·rw [if_neg c62] at H
                  have c62b0 : decide (0 ≤ t170) = false := decide_eq_false c62
                  clear c62
                  have H' := Aside0.mk H
                  clear H
                  go_wp2_with (first | ((with_reducible refine gate_callee (f := 32) rfl ?_); refine goesL_ (some 57) rfl rfl Try.func32 (by kernel_rfl) rfl #[.slice A0 l0.length c0, .int .i64 3, .int .i64 (Int.tmod (wrap64 (Int.tdiv t155 800)) 7)] rfl (by (try simp only [List.map_toArray, List.map_cons, List.map_nil]); first | done | rfl | (simp only [List.length_drop, List.length_take]; rfl)) ?_; (with_reducible refine (canopylaw3_pick.calls kj47 _ _ l0 3 (Int.tmod (wrap64 (Int.tdiv t155 800)) 7) t170 _ ?side1 ?side2 A61.out).mono ?_); (case side1 => repeat (first | exact (Kd.C_below HR0.out HB.out) | (with_reducible refine Kd.C_alloc ?_ _) | (with_reducible refine Kd.C_drewN ?_ _) | (with_reducible refine Kd.C_drew ?_))); (case side2 => exact HC0.out); rintro e w70 ⟨rfl, hb⟩; refine ⟨_, rfl, ?_⟩; have n0_ := Aside0.mk (Kd.R_below (by (with_reducible repeat (first | apply Kd.R_alloc | apply Kd.R_drewN | apply Kd.R_drew)); exact HO_151002.out) hb); have n1_ := Aside0.mk (Kd.R_below (by (with_reducible repeat (first | apply Kd.R_alloc | apply Kd.R_drewN | apply Kd.R_drew)); exact HO_151003.out) hb); have n2_ := Aside0.mk (Kd.R_below (by (with_reducible repeat (first | apply Kd.R_alloc | apply Kd.R_drewN | apply Kd.R_drew)); exact HO_151004.out) hb); have n3_ := Aside0.mk (Kd.R_below (by (with_reducible repeat (first | apply Kd.R_alloc | apply Kd.R_drewN | apply Kd.R_drew)); exact HO_151005.out) hb); have n4_ := Aside0.mk (Kd.R_below (by (with_reducible repeat (first | apply Kd.R_alloc | apply Kd.R_drewN | apply Kd.R_drew)); exact HO_151006.out) hb); have n5_ := Aside0.mk (blk_below (g := gb147) (o := .cells #[.int .i64 0, .int .i64 0, .slice none 0 0, .slice none 0 0, .slice none 0 0, .slice none 0 0, .slice none 0 0] 30 (0, 0)) (by (with_reducible repeat (first | refine blk_drewN ?_ _ | refine blk_drew ?_ | refine blk_alloc ?_ _)); exact BK147.out) hb); have n6_ := Aside0.mk (blk_below (g := gb150) (o := .cells #[.int .i64 (wrap64 (1 + t148)), .int .i64 (wrap64 (1 + t149)), u151002, u151003, u151004, u151005, u151006] 30 (0, 0)) (by (with_reducible repeat (first | refine blk_drewN ?_ _ | refine blk_drew ?_ | refine blk_alloc ?_ _)); exact BK150.out) hb); have n7_ := Aside0.mk (below_step (by repeat (first | (with_reducible first | exact HB.out | apply below_alloc | apply pw_below_drewN | apply below_drew1 | refine below_set ?_ GE147.out | refine below_set ?_ GE150.out) | exact HB.out)) hb); clear HO_151002; clear HO_151003; clear HO_151004; clear HO_151005; clear HO_151006; clear BK147; clear BK150; clear HB; have HO_151002 := n0_; have HO_151003 := n1_; have HO_151004 := n2_; have HO_151005 := n3_; have HO_151006 := n4_; have BK147 := n5_; have BK150 := n6_; have HB := n7_; clear n0_ n1_ n2_ n3_ n4_ n5_ n6_ n7_; (try clear hb); (try clear hb2); (try clear hk); (try clear hi)))
                  go_roundg kj47
                  case measure => have := HK1.out; have := HJ10.out; have := HJ33.out; have := HJ47.out; omega
                  case rel => exact ⟨(wrap64 (x10_1 + 1)), (x151002_1), (x151003_1), (x151004_1), (x151005_1), (x151006_1), (u151002), (u151003), (u151004), (u151005), (u151006), (by first | rfl | (simp; done) | (simp [*]; done)), H', ⟨by have := HK1.out; have := HJ10.out; have := HJ33.out; have := HJ47.out; omega⟩, ⟨by (with_reducible repeat (first | apply Kd.R_alloc | apply Kd.R_drewN | apply Kd.R_drew)); exact HO_151002.out⟩, ⟨by (with_reducible repeat (first | apply Kd.R_alloc | apply Kd.R_drewN | apply Kd.R_drew)); exact HO_151003.out⟩, ⟨by (with_reducible repeat (first | apply Kd.R_alloc | apply Kd.R_drewN | apply Kd.R_drew)); exact HO_151004.out⟩, ⟨by (with_reducible repeat (first | apply Kd.R_alloc | apply Kd.R_drewN | apply Kd.R_drew)); exact HO_151005.out⟩, ⟨by (with_reducible repeat (first | apply Kd.R_alloc | apply Kd.R_drewN | apply Kd.R_drew)); exact HO_151006.out⟩, ⟨by (with_reducible repeat (first | refine blk_drewN ?_ _ | refine blk_drew ?_ | refine blk_alloc ?_ _)); exact BK147.out⟩, ⟨by (with_reducible repeat (first | refine blk_drewN ?_ _ | refine blk_drew ?_ | refine blk_alloc ?_ _)); exact BK150.out⟩, ⟨by repeat (first | (with_reducible first | exact HB.out | apply below_alloc | apply pw_below_drewN | apply below_drew1 | refine below_set ?_ GE147.out | refine below_set ?_ GE150.out) | exact HB.out)⟩⟩
       ·rw [if_neg c15] at H
        exact absurd H (by simp)
      ·rw [if_neg c14] at H
       exact absurd H (by simp)
     ·replace c13 := Bool.eq_false_iff.mpr c13
      subst c13
      have H1 : (if (x151002_1.length : Int) = 0 then (some ((wrap64 (1 + t148)), (wrap64 (1 + t149)), (([0] : List Int)), x151003_1, x151004_1, x151005_1, x151006_1)) else (some ((wrap64 (1 + t148)), (wrap64 (1 + t149)), x151002_1, x151003_1, x151004_1, x151005_1, x151006_1))) = some (r1, r2, r3, r4, r5, r6, r7) := by rw [if_neg (show ¬ (false = true) by decide)] at H; exact H
      clear H
      have H := H1
      clear H1
      by_cases c71 : (x151002_1.length : Int) = 0
      ·rw [if_pos c71] at H
       have c71b0 : ((x151002_1.length : Int) == 0) = true := beq_iff_eq.mpr c71
       have c71b1 : ((x151002_1.length : Int) != 0) = false := bne_eq_false_iff_eq.mpr c71
       clear c71
       obtain ⟨y151, hy151⟩ : ∃ y_ : List Int, y_ = (([0] : List Int)) := ⟨_, rfl⟩
       replace H : (some ((wrap64 (1 + t148)), (wrap64 (1 + t149)), y151, x151003_1, x151004_1, x151005_1, x151006_1)) = some (r1, r2, r3, r4, r5, r6, r7) := by first | (rw [hy151]; with_reducible exact H) | (have H2_ := (Option.bind_some _ _).symm.trans H; rw [hy151]; with_reducible exact H2_) | (have H2_ := (Option.bind_some _ _).symm.trans H; with_reducible exact H2_) | with_reducible exact H | (rw [hy151]; exact H) | exact H
       have Ny151 := Aside0.mk hy151
       clear hy151
       simp only [Option.some.injEq, Prod.mk.injEq] at H
       obtain ⟨rfl, rfl, rfl, rfl, rfl, rfl, rfl⟩ := H
       have hnb72 := NB150_147.out
       have hnc72 := NB147_150.out
       have hcz73_0 : wc.cell? ⟨gb150, 0, none⟩ = some (.int .i64 (wrap64 (1 + t148))) := (blk_cell BK150.out 0).trans rfl
       have hcz73_1 : wc.cell? ⟨gb150, 1, none⟩ = some (.int .i64 (wrap64 (1 + t149))) := (blk_cell BK150.out 1).trans rfl
       have hcz73_2 : wc.cell? ⟨gb150, 2, none⟩ = some (u151002) := (blk_cell BK150.out 2).trans rfl
       have hcz73_3 : wc.cell? ⟨gb150, 3, none⟩ = some (u151003) := (blk_cell BK150.out 3).trans rfl
       have hcz73_4 : wc.cell? ⟨gb150, 4, none⟩ = some (u151004) := (blk_cell BK150.out 4).trans rfl
       have hcz73_5 : wc.cell? ⟨gb150, 5, none⟩ = some (u151005) := (blk_cell BK150.out 5).trans rfl
       have hcz73_6 : wc.cell? ⟨gb150, 6, none⟩ = some (u151006) := (blk_cell BK150.out 6).trans rfl
       have hfz73_0 := blk_frozen BK150.out 0
       have hfz73_1 := blk_frozen BK150.out 1
       have hfz73_2 := blk_frozen BK150.out 2
       have hfz73_3 := blk_frozen BK150.out 3
       have hfz73_4 := blk_frozen BK150.out 4
       have hfz73_5 := blk_frozen BK150.out 5
       have hfz73_6 := blk_frozen BK150.out 6
       obtain ⟨Ao74, co74, eo74⟩ := Kd.R_slice HO_151002.out
       subst eo74
       go_wp2_with (first | ((with_reducible refine gate_dst (N := 139) rfl ?_); refine Kd.R_lit (Kd.int .i64) _ 3 ?hg (N := 139) ?hd (xs := ([0] : List Int)) (inner := [.int .i64 0]) (ok := fun _ => True) (okp := fun _ => True) ?hr ?hp (fun _ hk => hk) trivial (Below.refl _ _) (Nat.le_refl _) (by simp) ?_; (case hd => rfl); (case hg => rfl); (case hr => first | (go_simp; done) | (go_simp; rfl)); (case hp => exact (Reps.one (show Kd.M (Kd.int .i64) _ _ _ 0 [.int .i64 0] from rfl) (Reps.none _ _))); intro v152 w75 ho76 hb hg_ hnew_; clear hg_ hnew_; (first | rw [← Ny151.out] at ho76 | (simp only [Int.reduceToNat] at ho76; rw [← Ny151.out] at ho76)); have n0_ := Aside0.mk (Kd.R_elder' (by (with_reducible repeat (first | apply Kd.R_alloc | apply Kd.R_drewN | apply Kd.R_drew)); exact HO_151002.out) (Kd.R_base ho76) hb); have n1_ := Aside0.mk (Kd.R_elder' (by (with_reducible repeat (first | apply Kd.R_alloc | apply Kd.R_drewN | apply Kd.R_drew)); exact HO_151003.out) (Kd.R_base ho76) hb); have n2_ := Aside0.mk (Kd.R_below (by (with_reducible repeat (first | apply Kd.R_alloc | apply Kd.R_drewN | apply Kd.R_drew)); exact HO_151004.out) hb); have n3_ := Aside0.mk (Kd.R_below (by (with_reducible repeat (first | apply Kd.R_alloc | apply Kd.R_drewN | apply Kd.R_drew)); exact HO_151005.out) hb); have n4_ := Aside0.mk (Kd.R_below (by (with_reducible repeat (first | apply Kd.R_alloc | apply Kd.R_drewN | apply Kd.R_drew)); exact HO_151006.out) hb); have n5_ := Aside0.mk (Kd.R_lower (Kd.R_new' (Kd.R_new' ho76 (Kd.R_lt (by (with_reducible repeat (first | apply Kd.R_alloc | apply Kd.R_drewN | apply Kd.R_drew)); exact HO_151002.out))) (Kd.R_lt (by (with_reducible repeat (first | apply Kd.R_alloc | apply Kd.R_drewN | apply Kd.R_drew)); exact HO_151003.out))) (below_size (by repeat (first | (with_reducible first | exact HB.out | apply below_alloc | apply pw_below_drewN | apply below_drew1 | refine below_set ?_ GE147.out | refine below_set ?_ GE150.out) | exact HB.out)))); have n6_ := Aside0.mk (blk_below (g := gb147) (o := .cells #[.int .i64 0, .int .i64 0, .slice none 0 0, .slice none 0 0, .slice none 0 0, .slice none 0 0, .slice none 0 0] 30 (0, 0)) (by (with_reducible repeat (first | refine blk_drewN ?_ _ | refine blk_drew ?_ | refine blk_alloc ?_ _)); exact BK147.out) hb); have n7_ := Aside0.mk (blk_below (g := gb150) (o := .cells #[.int .i64 (wrap64 (1 + t148)), .int .i64 (wrap64 (1 + t149)), .slice Ao74 x151002_1.length co74, u151003, u151004, u151005, u151006] 30 (0, 0)) (by (with_reducible repeat (first | refine blk_drewN ?_ _ | refine blk_drew ?_ | refine blk_alloc ?_ _)); exact BK150.out) hb); have n8_ := Aside0.mk (below_step (by repeat (first | (with_reducible first | exact HB.out | apply below_alloc | apply pw_below_drewN | apply below_drew1 | refine below_set ?_ GE147.out | refine below_set ?_ GE150.out) | exact HB.out)) hb); clear HO_151002; clear HO_151003; clear HO_151004; clear HO_151005; clear HO_151006; clear BK147; clear BK150; clear HB; have HO_151002 := n0_; have HO_151003 := n1_; have HO_151004 := n2_; have HO_151005 := n3_; have HO_151006 := n4_; have HO153 := n5_; have BK147 := n6_; have BK150 := n7_; have HB := n8_; clear n0_ n1_ n2_ n3_ n4_ n5_ n6_ n7_ n8_; clear hb ho76; obtain ⟨Ao77, co77, eo77⟩ := Kd.R_slice HO153.out; subst eo77; have hcz78_0 : w75.cell? ⟨gb150, 0, none⟩ = some (.int .i64 (wrap64 (1 + t148))) := (blk_cell BK150.out 0).trans rfl; have hcz78_1 : w75.cell? ⟨gb150, 1, none⟩ = some (.int .i64 (wrap64 (1 + t149))) := (blk_cell BK150.out 1).trans rfl; have hcz78_2 : w75.cell? ⟨gb150, 2, none⟩ = some (.slice Ao74 x151002_1.length co74) := (blk_cell BK150.out 2).trans rfl; have hcz78_3 : w75.cell? ⟨gb150, 3, none⟩ = some (u151003) := (blk_cell BK150.out 3).trans rfl; have hcz78_4 : w75.cell? ⟨gb150, 4, none⟩ = some (u151004) := (blk_cell BK150.out 4).trans rfl; have hcz78_5 : w75.cell? ⟨gb150, 5, none⟩ = some (u151005) := (blk_cell BK150.out 5).trans rfl; have hcz78_6 : w75.cell? ⟨gb150, 6, none⟩ = some (u151006) := (blk_cell BK150.out 6).trans rfl; have hfz78_0 := blk_frozen BK150.out 0; have hfz78_1 := blk_frozen BK150.out 1; have hfz78_2 := blk_frozen BK150.out 2; have hfz78_3 := blk_frozen BK150.out 3; have hfz78_4 := blk_frozen BK150.out 4; have hfz78_5 := blk_frozen BK150.out 5; have hfz78_6 := blk_frozen BK150.out 6; have hcz79_0 : w75.cell? ⟨gb147, 0, none⟩ = some (.int .i64 0) := (blk_cell BK147.out 0).trans rfl; have hcz79_1 : w75.cell? ⟨gb147, 1, none⟩ = some (.int .i64 0) := (blk_cell BK147.out 1).trans rfl; have hcz79_2 : w75.cell? ⟨gb147, 2, none⟩ = some (.slice none 0 0) := (blk_cell BK147.out 2).trans rfl; have hcz79_3 : w75.cell? ⟨gb147, 3, none⟩ = some (.slice none 0 0) := (blk_cell BK147.out 3).trans rfl; have hcz79_4 : w75.cell? ⟨gb147, 4, none⟩ = some (.slice none 0 0) := (blk_cell BK147.out 4).trans rfl; have hcz79_5 : w75.cell? ⟨gb147, 5, none⟩ = some (.slice none 0 0) := (blk_cell BK147.out 5).trans rfl; have hcz79_6 : w75.cell? ⟨gb147, 6, none⟩ = some (.slice none 0 0) := (blk_cell BK147.out 6).trans rfl; have hfz79_0 := blk_frozen BK147.out 0; have hfz79_1 := blk_frozen BK147.out 1; have hfz79_2 := blk_frozen BK147.out 2; have hfz79_3 := blk_frozen BK147.out 3; have hfz79_4 := blk_frozen BK147.out 4; have hfz79_5 := blk_frozen BK147.out 5; have hfz79_6 := blk_frozen BK147.out 6; obtain ⟨Ao80, co80, eo80⟩ := Kd.R_slice HO_151003.out; subst eo80; obtain ⟨Ao81, co81, eo81⟩ := Kd.R_slice HO_151004.out; subst eo81; obtain ⟨Ao82, co82, eo82⟩ := Kd.R_slice HO_151005.out; subst eo82; obtain ⟨Ao83, co83, eo83⟩ := Kd.R_slice HO_151006.out; subst eo83))
       refine bodyPost_ret (results_cell_row rfl _ _ gb147 30 #[.int .i64 (wrap64 (1 + t148)), .int .i64 (wrap64 (1 + t149)), .slice Ao77 y151.length co77, .slice Ao80 x151003_1.length co80, .slice Ao81 x151004_1.length co81, .slice Ao82 x151005_1.length co82, .slice Ao83 x151006_1.length co83] (0, 0) _ rfl (by (with_reducible repeat (first | refine blk_drewN ?_ _ | refine blk_drew ?_ | refine blk_alloc ?_ _)); refine blk_put (cs := #[.int .i64 (wrap64 (1 + t148)), .int .i64 (wrap64 (1 + t149)), .slice Ao77 y151.length co77, .slice Ao80 x151003_1.length co80, .slice Ao81 x151004_1.length co81, .slice Ao82 x151005_1.length co82, .slice none 0 0]) ?_ 6 _ rfl; (with_reducible repeat (first | refine blk_drewN ?_ _ | refine blk_drew ?_ | refine blk_alloc ?_ _)); refine blk_put (cs := #[.int .i64 (wrap64 (1 + t148)), .int .i64 (wrap64 (1 + t149)), .slice Ao77 y151.length co77, .slice Ao80 x151003_1.length co80, .slice Ao81 x151004_1.length co81, .slice none 0 0, .slice none 0 0]) ?_ 5 _ rfl; (with_reducible repeat (first | refine blk_drewN ?_ _ | refine blk_drew ?_ | refine blk_alloc ?_ _)); refine blk_put (cs := #[.int .i64 (wrap64 (1 + t148)), .int .i64 (wrap64 (1 + t149)), .slice Ao77 y151.length co77, .slice Ao80 x151003_1.length co80, .slice none 0 0, .slice none 0 0, .slice none 0 0]) ?_ 4 _ rfl; (with_reducible repeat (first | refine blk_drewN ?_ _ | refine blk_drew ?_ | refine blk_alloc ?_ _)); refine blk_put (cs := #[.int .i64 (wrap64 (1 + t148)), .int .i64 (wrap64 (1 + t149)), .slice Ao77 y151.length co77, .slice none 0 0, .slice none 0 0, .slice none 0 0, .slice none 0 0]) ?_ 3 _ rfl; (with_reducible repeat (first | refine blk_drewN ?_ _ | refine blk_drew ?_ | refine blk_alloc ?_ _)); refine blk_put (cs := #[.int .i64 (wrap64 (1 + t148)), .int .i64 (wrap64 (1 + t149)), .slice none 0 0, .slice none 0 0, .slice none 0 0, .slice none 0 0, .slice none 0 0]) ?_ 2 _ rfl; (with_reducible repeat (first | refine blk_drewN ?_ _ | refine blk_drew ?_ | refine blk_alloc ?_ _)); refine blk_put (cs := #[.int .i64 (wrap64 (1 + t148)), .int .i64 0, .slice none 0 0, .slice none 0 0, .slice none 0 0, .slice none 0 0, .slice none 0 0]) ?_ 1 _ rfl; (with_reducible repeat (first | refine blk_drewN ?_ _ | refine blk_drew ?_ | refine blk_alloc ?_ _)); refine blk_put (cs := #[.int .i64 0, .int .i64 0, .slice none 0 0, .slice none 0 0, .slice none 0 0, .slice none 0 0, .slice none 0 0]) ?_ 0 _ rfl; (with_reducible repeat (first | refine blk_drewN ?_ _ | refine blk_drew ?_ | refine blk_alloc ?_ _)); refine blk_far ?_ NB147_150.out _; (with_reducible repeat (first | refine blk_drewN ?_ _ | refine blk_drew ?_ | refine blk_alloc ?_ _)); exact BK147.out) Try.underlying30 rfl (by kernel_rfl)) rfl ?_
       exact ⟨_, _, _, _, _, by first | rfl | (simp [errW_none, errW_some] <;> rfl) | (simp [*, errW_none, errW_some] <;> rfl), by (with_reducible repeat (first | apply Kd.R_alloc | apply Kd.R_drewN | apply Kd.R_drew)); exact Kd.R_mono (Kd.R_far (p := ⟨gb147, 6, none⟩) (Kd.R_far (p := ⟨gb147, 5, none⟩) (Kd.R_far (p := ⟨gb147, 4, none⟩) (Kd.R_far (p := ⟨gb147, 3, none⟩) (Kd.R_far (p := ⟨gb147, 2, none⟩) (Kd.R_far (p := ⟨gb147, 1, none⟩) (Kd.R_far (p := ⟨gb147, 0, none⟩) (Kd.R_far (p := ⟨gb150, 2, none⟩) (Kd.R_types (Kd.R_types HO153.out BK150.out (by decide)) BK147.out (by decide)) (fun _ hk => hk.1.2) (.slice Ao77 y151.length co77)) (fun _ hk => hk.2) (.int .i64 (wrap64 (1 + t148)))) (fun _ hk => hk.2) (.int .i64 (wrap64 (1 + t149)))) (fun _ hk => hk.2) (.slice Ao77 y151.length co77)) (fun _ hk => hk.2) (.slice Ao80 x151003_1.length co80)) (fun _ hk => hk.2) (.slice Ao81 x151004_1.length co81)) (fun _ hk => hk.2) (.slice Ao82 x151005_1.length co82)) (fun _ hk => hk.2) (.slice Ao83 x151006_1.length co83)) (fun _ hk => hk.1.1.2), by (with_reducible repeat (first | apply Kd.R_alloc | apply Kd.R_drewN | apply Kd.R_drew)); exact Kd.R_mono (Kd.R_far (p := ⟨gb147, 6, none⟩) (Kd.R_far (p := ⟨gb147, 5, none⟩) (Kd.R_far (p := ⟨gb147, 4, none⟩) (Kd.R_far (p := ⟨gb147, 3, none⟩) (Kd.R_far (p := ⟨gb147, 2, none⟩) (Kd.R_far (p := ⟨gb147, 1, none⟩) (Kd.R_far (p := ⟨gb147, 0, none⟩) (Kd.R_far (p := ⟨gb150, 2, none⟩) (Kd.R_types (Kd.R_types HO_151003.out BK150.out (by decide)) BK147.out (by decide)) (fun _ hk => hk.1.2) (.slice Ao77 y151.length co77)) (fun _ hk => hk.2) (.int .i64 (wrap64 (1 + t148)))) (fun _ hk => hk.2) (.int .i64 (wrap64 (1 + t149)))) (fun _ hk => hk.2) (.slice Ao77 y151.length co77)) (fun _ hk => hk.2) (.slice Ao80 x151003_1.length co80)) (fun _ hk => hk.2) (.slice Ao81 x151004_1.length co81)) (fun _ hk => hk.2) (.slice Ao82 x151005_1.length co82)) (fun _ hk => hk.2) (.slice Ao83 x151006_1.length co83)) (fun _ hk => hk.1.1.2), by (with_reducible repeat (first | apply Kd.R_alloc | apply Kd.R_drewN | apply Kd.R_drew)); exact Kd.R_mono (Kd.R_far (p := ⟨gb147, 6, none⟩) (Kd.R_far (p := ⟨gb147, 5, none⟩) (Kd.R_far (p := ⟨gb147, 4, none⟩) (Kd.R_far (p := ⟨gb147, 3, none⟩) (Kd.R_far (p := ⟨gb147, 2, none⟩) (Kd.R_far (p := ⟨gb147, 1, none⟩) (Kd.R_far (p := ⟨gb147, 0, none⟩) (Kd.R_far (p := ⟨gb150, 2, none⟩) (Kd.R_types (Kd.R_types HO_151004.out BK150.out (by decide)) BK147.out (by decide)) (fun _ hk => hk.1.2) (.slice Ao77 y151.length co77)) (fun _ hk => hk.2) (.int .i64 (wrap64 (1 + t148)))) (fun _ hk => hk.2) (.int .i64 (wrap64 (1 + t149)))) (fun _ hk => hk.2) (.slice Ao77 y151.length co77)) (fun _ hk => hk.2) (.slice Ao80 x151003_1.length co80)) (fun _ hk => hk.2) (.slice Ao81 x151004_1.length co81)) (fun _ hk => hk.2) (.slice Ao82 x151005_1.length co82)) (fun _ hk => hk.2) (.slice Ao83 x151006_1.length co83)) (fun _ hk => trivial), by (with_reducible repeat (first | apply Kd.R_alloc | apply Kd.R_drewN | apply Kd.R_drew)); exact Kd.R_mono (Kd.R_far (p := ⟨gb147, 6, none⟩) (Kd.R_far (p := ⟨gb147, 5, none⟩) (Kd.R_far (p := ⟨gb147, 4, none⟩) (Kd.R_far (p := ⟨gb147, 3, none⟩) (Kd.R_far (p := ⟨gb147, 2, none⟩) (Kd.R_far (p := ⟨gb147, 1, none⟩) (Kd.R_far (p := ⟨gb147, 0, none⟩) (Kd.R_far (p := ⟨gb150, 2, none⟩) (Kd.R_types (Kd.R_types HO_151005.out BK150.out (by decide)) BK147.out (by decide)) (fun _ hk => hk.1.2) (.slice Ao77 y151.length co77)) (fun _ hk => hk.2) (.int .i64 (wrap64 (1 + t148)))) (fun _ hk => hk.2) (.int .i64 (wrap64 (1 + t149)))) (fun _ hk => hk.2) (.slice Ao77 y151.length co77)) (fun _ hk => hk.2) (.slice Ao80 x151003_1.length co80)) (fun _ hk => hk.2) (.slice Ao81 x151004_1.length co81)) (fun _ hk => hk.2) (.slice Ao82 x151005_1.length co82)) (fun _ hk => hk.2) (.slice Ao83 x151006_1.length co83)) (fun _ hk => trivial), by (with_reducible repeat (first | apply Kd.R_alloc | apply Kd.R_drewN | apply Kd.R_drew)); exact Kd.R_mono (Kd.R_far (p := ⟨gb147, 6, none⟩) (Kd.R_far (p := ⟨gb147, 5, none⟩) (Kd.R_far (p := ⟨gb147, 4, none⟩) (Kd.R_far (p := ⟨gb147, 3, none⟩) (Kd.R_far (p := ⟨gb147, 2, none⟩) (Kd.R_far (p := ⟨gb147, 1, none⟩) (Kd.R_far (p := ⟨gb147, 0, none⟩) (Kd.R_far (p := ⟨gb150, 2, none⟩) (Kd.R_types (Kd.R_types HO_151006.out BK150.out (by decide)) BK147.out (by decide)) (fun _ hk => hk.1.2) (.slice Ao77 y151.length co77)) (fun _ hk => hk.2) (.int .i64 (wrap64 (1 + t148)))) (fun _ hk => hk.2) (.int .i64 (wrap64 (1 + t149)))) (fun _ hk => hk.2) (.slice Ao77 y151.length co77)) (fun _ hk => hk.2) (.slice Ao80 x151003_1.length co80)) (fun _ hk => hk.2) (.slice Ao81 x151004_1.length co81)) (fun _ hk => hk.2) (.slice Ao82 x151005_1.length co82)) (fun _ hk => hk.2) (.slice Ao83 x151006_1.length co83)) (fun _ hk => trivial), by repeat (first | (with_reducible first | exact HB.out | apply below_alloc | apply pw_below_drewN | apply below_drew1 | refine below_set ?_ GE147.out | refine below_set ?_ GE150.out) | exact HB.out)⟩
      ·rw [if_neg c71] at H
       have c71b0 : ((x151002_1.length : Int) == 0) = false := beq_eq_false_iff_ne.mpr c71
       have c71b1 : ((x151002_1.length : Int) != 0) = true := bne_iff_ne.mpr c71
       have c71b2 : ¬ (x151002_1 = []) := fun h_ => c71 (by rw [h_]; rfl)
       simp only [Option.some.injEq, Prod.mk.injEq] at H
       obtain ⟨rfl, rfl, rfl, rfl, rfl, rfl, rfl⟩ := H
       have hnb84 := NB150_147.out
       have hnc84 := NB147_150.out
       have hcz85_0 : wc.cell? ⟨gb150, 0, none⟩ = some (.int .i64 (wrap64 (1 + t148))) := (blk_cell BK150.out 0).trans rfl
       have hcz85_1 : wc.cell? ⟨gb150, 1, none⟩ = some (.int .i64 (wrap64 (1 + t149))) := (blk_cell BK150.out 1).trans rfl
       have hcz85_2 : wc.cell? ⟨gb150, 2, none⟩ = some (u151002) := (blk_cell BK150.out 2).trans rfl
       have hcz85_3 : wc.cell? ⟨gb150, 3, none⟩ = some (u151003) := (blk_cell BK150.out 3).trans rfl
       have hcz85_4 : wc.cell? ⟨gb150, 4, none⟩ = some (u151004) := (blk_cell BK150.out 4).trans rfl
       have hcz85_5 : wc.cell? ⟨gb150, 5, none⟩ = some (u151005) := (blk_cell BK150.out 5).trans rfl
       have hcz85_6 : wc.cell? ⟨gb150, 6, none⟩ = some (u151006) := (blk_cell BK150.out 6).trans rfl
       have hfz85_0 := blk_frozen BK150.out 0
       have hfz85_1 := blk_frozen BK150.out 1
       have hfz85_2 := blk_frozen BK150.out 2
       have hfz85_3 := blk_frozen BK150.out 3
       have hfz85_4 := blk_frozen BK150.out 4
       have hfz85_5 := blk_frozen BK150.out 5
       have hfz85_6 := blk_frozen BK150.out 6
       obtain ⟨Ao86, co86, eo86⟩ := Kd.R_slice HO_151002.out
       subst eo86
       have hcz87_0 : wc.cell? ⟨gb147, 0, none⟩ = some (.int .i64 0) := (blk_cell BK147.out 0).trans rfl
       have hcz87_1 : wc.cell? ⟨gb147, 1, none⟩ = some (.int .i64 0) := (blk_cell BK147.out 1).trans rfl
       have hcz87_2 : wc.cell? ⟨gb147, 2, none⟩ = some (.slice none 0 0) := (blk_cell BK147.out 2).trans rfl
       have hcz87_3 : wc.cell? ⟨gb147, 3, none⟩ = some (.slice none 0 0) := (blk_cell BK147.out 3).trans rfl
       have hcz87_4 : wc.cell? ⟨gb147, 4, none⟩ = some (.slice none 0 0) := (blk_cell BK147.out 4).trans rfl
       have hcz87_5 : wc.cell? ⟨gb147, 5, none⟩ = some (.slice none 0 0) := (blk_cell BK147.out 5).trans rfl
       have hcz87_6 : wc.cell? ⟨gb147, 6, none⟩ = some (.slice none 0 0) := (blk_cell BK147.out 6).trans rfl
       have hfz87_0 := blk_frozen BK147.out 0
       have hfz87_1 := blk_frozen BK147.out 1
       have hfz87_2 := blk_frozen BK147.out 2
       have hfz87_3 := blk_frozen BK147.out 3
       have hfz87_4 := blk_frozen BK147.out 4
       have hfz87_5 := blk_frozen BK147.out 5
       have hfz87_6 := blk_frozen BK147.out 6
       obtain ⟨Ao88, co88, eo88⟩ := Kd.R_slice HO_151003.out
       subst eo88
       obtain ⟨Ao89, co89, eo89⟩ := Kd.R_slice HO_151004.out
       subst eo89
       obtain ⟨Ao90, co90, eo90⟩ := Kd.R_slice HO_151005.out
       subst eo90
       obtain ⟨Ao91, co91, eo91⟩ := Kd.R_slice HO_151006.out
       subst eo91
       go_wp2
       refine bodyPost_ret (results_cell_row rfl _ _ gb147 30 #[.int .i64 (wrap64 (1 + t148)), .int .i64 (wrap64 (1 + t149)), .slice Ao86 x151002_1.length co86, .slice Ao88 x151003_1.length co88, .slice Ao89 x151004_1.length co89, .slice Ao90 x151005_1.length co90, .slice Ao91 x151006_1.length co91] (0, 0) _ rfl (by (with_reducible repeat (first | refine blk_drewN ?_ _ | refine blk_drew ?_ | refine blk_alloc ?_ _)); refine blk_put (cs := #[.int .i64 (wrap64 (1 + t148)), .int .i64 (wrap64 (1 + t149)), .slice Ao86 x151002_1.length co86, .slice Ao88 x151003_1.length co88, .slice Ao89 x151004_1.length co89, .slice Ao90 x151005_1.length co90, .slice none 0 0]) ?_ 6 _ rfl; (with_reducible repeat (first | refine blk_drewN ?_ _ | refine blk_drew ?_ | refine blk_alloc ?_ _)); refine blk_put (cs := #[.int .i64 (wrap64 (1 + t148)), .int .i64 (wrap64 (1 + t149)), .slice Ao86 x151002_1.length co86, .slice Ao88 x151003_1.length co88, .slice Ao89 x151004_1.length co89, .slice none 0 0, .slice none 0 0]) ?_ 5 _ rfl; (with_reducible repeat (first | refine blk_drewN ?_ _ | refine blk_drew ?_ | refine blk_alloc ?_ _)); refine blk_put (cs := #[.int .i64 (wrap64 (1 + t148)), .int .i64 (wrap64 (1 + t149)), .slice Ao86 x151002_1.length co86, .slice Ao88 x151003_1.length co88, .slice none 0 0, .slice none 0 0, .slice none 0 0]) ?_ 4 _ rfl; (with_reducible repeat (first | refine blk_drewN ?_ _ | refine blk_drew ?_ | refine blk_alloc ?_ _)); refine blk_put (cs := #[.int .i64 (wrap64 (1 + t148)), .int .i64 (wrap64 (1 + t149)), .slice Ao86 x151002_1.length co86, .slice none 0 0, .slice none 0 0, .slice none 0 0, .slice none 0 0]) ?_ 3 _ rfl; (with_reducible repeat (first | refine blk_drewN ?_ _ | refine blk_drew ?_ | refine blk_alloc ?_ _)); refine blk_put (cs := #[.int .i64 (wrap64 (1 + t148)), .int .i64 (wrap64 (1 + t149)), .slice none 0 0, .slice none 0 0, .slice none 0 0, .slice none 0 0, .slice none 0 0]) ?_ 2 _ rfl; (with_reducible repeat (first | refine blk_drewN ?_ _ | refine blk_drew ?_ | refine blk_alloc ?_ _)); refine blk_put (cs := #[.int .i64 (wrap64 (1 + t148)), .int .i64 0, .slice none 0 0, .slice none 0 0, .slice none 0 0, .slice none 0 0, .slice none 0 0]) ?_ 1 _ rfl; (with_reducible repeat (first | refine blk_drewN ?_ _ | refine blk_drew ?_ | refine blk_alloc ?_ _)); refine blk_put (cs := #[.int .i64 0, .int .i64 0, .slice none 0 0, .slice none 0 0, .slice none 0 0, .slice none 0 0, .slice none 0 0]) ?_ 0 _ rfl; (with_reducible repeat (first | refine blk_drewN ?_ _ | refine blk_drew ?_ | refine blk_alloc ?_ _)); exact BK147.out) Try.underlying30 rfl (by kernel_rfl)) rfl ?_
       exact ⟨_, _, _, _, _, by first | rfl | (simp [errW_none, errW_some] <;> rfl) | (simp [*, errW_none, errW_some] <;> rfl), by (with_reducible repeat (first | apply Kd.R_alloc | apply Kd.R_drewN | apply Kd.R_drew)); exact Kd.R_mono (Kd.R_far (p := ⟨gb147, 6, none⟩) (Kd.R_far (p := ⟨gb147, 5, none⟩) (Kd.R_far (p := ⟨gb147, 4, none⟩) (Kd.R_far (p := ⟨gb147, 3, none⟩) (Kd.R_far (p := ⟨gb147, 2, none⟩) (Kd.R_far (p := ⟨gb147, 1, none⟩) (Kd.R_far (p := ⟨gb147, 0, none⟩) (Kd.R_types HO_151002.out BK147.out (by decide)) (fun _ hk => hk.2) (.int .i64 (wrap64 (1 + t148)))) (fun _ hk => hk.2) (.int .i64 (wrap64 (1 + t149)))) (fun _ hk => hk.2) (.slice Ao86 x151002_1.length co86)) (fun _ hk => hk.2) (.slice Ao88 x151003_1.length co88)) (fun _ hk => hk.2) (.slice Ao89 x151004_1.length co89)) (fun _ hk => hk.2) (.slice Ao90 x151005_1.length co90)) (fun _ hk => hk.2) (.slice Ao91 x151006_1.length co91)) (fun _ hk => hk.1), by (with_reducible repeat (first | apply Kd.R_alloc | apply Kd.R_drewN | apply Kd.R_drew)); exact Kd.R_mono (Kd.R_far (p := ⟨gb147, 6, none⟩) (Kd.R_far (p := ⟨gb147, 5, none⟩) (Kd.R_far (p := ⟨gb147, 4, none⟩) (Kd.R_far (p := ⟨gb147, 3, none⟩) (Kd.R_far (p := ⟨gb147, 2, none⟩) (Kd.R_far (p := ⟨gb147, 1, none⟩) (Kd.R_far (p := ⟨gb147, 0, none⟩) (Kd.R_types HO_151003.out BK147.out (by decide)) (fun _ hk => hk.2) (.int .i64 (wrap64 (1 + t148)))) (fun _ hk => hk.2) (.int .i64 (wrap64 (1 + t149)))) (fun _ hk => hk.2) (.slice Ao86 x151002_1.length co86)) (fun _ hk => hk.2) (.slice Ao88 x151003_1.length co88)) (fun _ hk => hk.2) (.slice Ao89 x151004_1.length co89)) (fun _ hk => hk.2) (.slice Ao90 x151005_1.length co90)) (fun _ hk => hk.2) (.slice Ao91 x151006_1.length co91)) (fun _ hk => hk.1), by (with_reducible repeat (first | apply Kd.R_alloc | apply Kd.R_drewN | apply Kd.R_drew)); exact Kd.R_mono (Kd.R_far (p := ⟨gb147, 6, none⟩) (Kd.R_far (p := ⟨gb147, 5, none⟩) (Kd.R_far (p := ⟨gb147, 4, none⟩) (Kd.R_far (p := ⟨gb147, 3, none⟩) (Kd.R_far (p := ⟨gb147, 2, none⟩) (Kd.R_far (p := ⟨gb147, 1, none⟩) (Kd.R_far (p := ⟨gb147, 0, none⟩) (Kd.R_types HO_151004.out BK147.out (by decide)) (fun _ hk => hk.2) (.int .i64 (wrap64 (1 + t148)))) (fun _ hk => hk.2) (.int .i64 (wrap64 (1 + t149)))) (fun _ hk => hk.2) (.slice Ao86 x151002_1.length co86)) (fun _ hk => hk.2) (.slice Ao88 x151003_1.length co88)) (fun _ hk => hk.2) (.slice Ao89 x151004_1.length co89)) (fun _ hk => hk.2) (.slice Ao90 x151005_1.length co90)) (fun _ hk => hk.2) (.slice Ao91 x151006_1.length co91)) (fun _ hk => trivial), by (with_reducible repeat (first | apply Kd.R_alloc | apply Kd.R_drewN | apply Kd.R_drew)); exact Kd.R_mono (Kd.R_far (p := ⟨gb147, 6, none⟩) (Kd.R_far (p := ⟨gb147, 5, none⟩) (Kd.R_far (p := ⟨gb147, 4, none⟩) (Kd.R_far (p := ⟨gb147, 3, none⟩) (Kd.R_far (p := ⟨gb147, 2, none⟩) (Kd.R_far (p := ⟨gb147, 1, none⟩) (Kd.R_far (p := ⟨gb147, 0, none⟩) (Kd.R_types HO_151005.out BK147.out (by decide)) (fun _ hk => hk.2) (.int .i64 (wrap64 (1 + t148)))) (fun _ hk => hk.2) (.int .i64 (wrap64 (1 + t149)))) (fun _ hk => hk.2) (.slice Ao86 x151002_1.length co86)) (fun _ hk => hk.2) (.slice Ao88 x151003_1.length co88)) (fun _ hk => hk.2) (.slice Ao89 x151004_1.length co89)) (fun _ hk => hk.2) (.slice Ao90 x151005_1.length co90)) (fun _ hk => hk.2) (.slice Ao91 x151006_1.length co91)) (fun _ hk => trivial), by (with_reducible repeat (first | apply Kd.R_alloc | apply Kd.R_drewN | apply Kd.R_drew)); exact Kd.R_mono (Kd.R_far (p := ⟨gb147, 6, none⟩) (Kd.R_far (p := ⟨gb147, 5, none⟩) (Kd.R_far (p := ⟨gb147, 4, none⟩) (Kd.R_far (p := ⟨gb147, 3, none⟩) (Kd.R_far (p := ⟨gb147, 2, none⟩) (Kd.R_far (p := ⟨gb147, 1, none⟩) (Kd.R_far (p := ⟨gb147, 0, none⟩) (Kd.R_types HO_151006.out BK147.out (by decide)) (fun _ hk => hk.2) (.int .i64 (wrap64 (1 + t148)))) (fun _ hk => hk.2) (.int .i64 (wrap64 (1 + t149)))) (fun _ hk => hk.2) (.slice Ao86 x151002_1.length co86)) (fun _ hk => hk.2) (.slice Ao88 x151003_1.length co88)) (fun _ hk => hk.2) (.slice Ao89 x151004_1.length co89)) (fun _ hk => hk.2) (.slice Ao90 x151005_1.length co90)) (fun _ hk => hk.2) (.slice Ao91 x151006_1.length co91)) (fun _ hk => trivial), by repeat (first | (with_reducible first | exact HB.out | apply below_alloc | apply pw_below_drewN | apply below_drew1 | refine below_set ?_ GE147.out | refine below_set ?_ GE150.out) | exact HB.out)⟩

end Go.Proofs.Ytjkhdldgmkkhjaa.P
