-- Written by wip/tools/prn.py (a program of this claim's author), which runs the kit's printer: not by hand.
import Derived.Test.YtmkpfamngedcmaaP0
import Derived.Test.YtmkpfamngedcmaaPCanopyref2Same
import Derived.Test.YtmkpfamngedcmaaPCanopyref2Pairs
import Derived.Test.YtmkpfamngedcmaaPCanopylaw2Within
import Derived.Test.YtmkpfamngedcmaaPCanopylaw2Pairs
import Derived.Test.YtmkpfamngedcmaaPCanopylaw2Ints
import Derived.Test.YtmkpfamngedcmaaSInts
import Derived.Test.YtmkpfamngedcmaaSKnown2
import Derived.Test.YtmkpfamngedcmaaSPairs
import Derived.Test.YtmkpfamngedcmaaSRefInts
namespace Go.Proofs.Ytmkpfamngedcmaa.P
open Go.RowKit Go.Proofs.YtmkpfamngedcmaaW.PrintWords Go.Proofs.YtmkpfamngedcmaaW.PrintLast Go.Proofs.YtmkpfamngedcmaaW.PrintMore
attribute [local go_sem] max2_int min2_int max_two min_two max_three min_three max_four min_four   -- for this text's walks alone
set_option linter.unusedVariables false
set_option linter.unusedSimpArgs false

/-! ### canopylaw2_SetsRows: function 3 -/
mutual
def canopylaw2_SetsRows.j0 : Nat → List Int → List Int → Int → Bool → Option (Bool)
 | 0, _, _, _, _ => none
 | k + 1, x0, x1, x2, x25 => if x25 = true then (some true) else ((canopylaw2_Pairs.f k x0 30).bind fun t131 => (canopylaw2_SetsRows.l0 k x1 x2 t131 0))
def canopylaw2_SetsRows.j2 : Nat → List Int → Int → List (S27) → Option (Bool)
 | 0, _, _, _ => none
 | k + 1, x1, x2, x7 => (canopylaw2_within.f x2 (wrap64 ((x1.length : Int) + 1))).bind fun t139 => ((canopylaw2_within.f x2 (wrap64 ((x7.length : Int) + 1))).bind fun t140 => ((sets_Ints.f x1).bind fun t141 => ((sets_Pairs.f x7).bind fun t144 => ((some (([] : List Int) : List Int)).bind fun y147 => (if 0 ≤ t139 then (if t139 ≤ (x1.length : Int) then (if y147.length + (x1.drop (t139 : Int).toNat).length < 17592186044416 then ((some (y147 ++ (x1.drop (t139 : Int).toNat) : List Int)).bind fun y151 => (if y151.length + (x1.take (t139 : Int).toNat).length < 17592186044416 then ((sets_Ints.f (y151 ++ (x1.take (t139 : Int).toNat))).bind fun t158 => ((some (([] : List (S27)) : List (S27))).bind fun y161 => (if 0 ≤ t140 then (if t140 ≤ (x7.length : Int) then ((some (x7.drop (t140 : Int).toNat : List (S27))).bind fun y164 => (if y161.length + y164.length < 8796093022208 then ((some (y161 ++ y164 : List (S27))).bind fun y168 => ((some (x7.take (t140 : Int).toNat : List (S27))).bind fun y171 => (if y168.length + y171.length < 8796093022208 then ((sets_Pairs.f (y168 ++ y171)).bind fun t178 => (canopylaw2_SetsRows.l1 k x1 x7 t141 t144 t158 t178 1)) else (none)))) else (none))) else (none)) else (none)))) else (none))) else (none)) else (none)) else (none))))))
def canopylaw2_SetsRows.l1 : Nat → List Int → List (S27) → List Int → List (S27) → List Int → List (S27) → Int → Option (Bool)
 | 0, _, _, _, _, _, _, _ => none
 | k + 1, x1, x7, x11, x12, x13, x14, x15 => if x15 < (x11.length : Int) then (if 0 ≤ (wrap64 (x15 - 1)) then (if (wrap64 (x15 - 1)) < (x11.length : Int) then (if 0 ≤ x15 then (if (rd x11 (wrap64 (x15 - 1))) ≥ (rd x11 x15) then (some false) else (canopylaw2_SetsRows.l1 k x1 x7 x11 x12 x13 x14 (wrap64 (x15 + 1)))) else (none)) else (none)) else (none)) else ((canopyref2_Ints.f x1).bind fun t183 => ((canopylaw2_ints.f k x11 t183).bind fun t186 => (if t186 = true then ((canopylaw2_ints.f k x11 x13).bind fun t187 => (if t187 = true then ((canopyref2_Pairs.f k x7).bind fun t188 => ((canopyref2_Same.f k x12 t188).bind fun t191 => (if t191 = true then ((canopyref2_Same.f k x12 x14).bind fun t192 => (some t192)) else (some false)))) else (some false))) else (some false))))
def canopylaw2_SetsRows.l0 : Nat → List Int → Int → List (S27) → Int → Option (Bool)
 | 0, _, _, _, _ => none
 | k + 1, x1, x2, x7, x8 => if (wrap64 (x8 + 1)) < (x1.length : Int) then (if x8 < 20 then (if 0 ≤ x8 then (if x8 < (x1.length : Int) then (if 0 ≤ (wrap64 (x8 + 1)) then (if x7.length < 8796093022208 then (canopylaw2_SetsRows.l0 k x1 x2 (x7 ++ [(⟨rd x1 x8, rd x1 (wrap64 (x8 + 1))⟩ : S27)]) (wrap64 (x8 + 2))) else (none)) else (none)) else (none)) else (none)) else (canopylaw2_SetsRows.j2 k x1 x2 x7)) else (canopylaw2_SetsRows.j2 k x1 x2 x7)
end
def canopylaw2_SetsRows.f (k : Nat) (l0 : List Int) (l1 : List Int) (a2 : Int) : Option (Bool) := (canopylaw2_known.f).bind fun t130 => (if t130 = true then (if (l0.length : Int) > 60 then (canopylaw2_SetsRows.j0 k l0 l1 a2 true) else (canopylaw2_SetsRows.j0 k l0 l1 a2 (decide ((l1.length : Int) > 60)))) else (some false))
theorem canopylaw2_SetsRows.mono_l : ∀ k, (∀ y0 y1 y2 y3, LeO (canopylaw2_SetsRows.j0 k y0 y1 y2 y3) (canopylaw2_SetsRows.j0 (k + 1) y0 y1 y2 y3)) ∧ (∀ y0 y1 y2, LeO (canopylaw2_SetsRows.j2 k y0 y1 y2) (canopylaw2_SetsRows.j2 (k + 1) y0 y1 y2)) ∧ (∀ y0 y1 y2 y3 y4 y5 y6, LeO (canopylaw2_SetsRows.l1 k y0 y1 y2 y3 y4 y5 y6) (canopylaw2_SetsRows.l1 (k + 1) y0 y1 y2 y3 y4 y5 y6)) ∧ (∀ y0 y1 y2 y3, LeO (canopylaw2_SetsRows.l0 k y0 y1 y2 y3) (canopylaw2_SetsRows.l0 (k + 1) y0 y1 y2 y3))
 | 0 => ⟨fun _ _ _ _ r h => by simp [canopylaw2_SetsRows.j0] at h, fun _ _ _ r h => by simp [canopylaw2_SetsRows.j2] at h, fun _ _ _ _ _ _ _ r h => by simp [canopylaw2_SetsRows.l1] at h, fun _ _ _ _ r h => by simp [canopylaw2_SetsRows.l0] at h⟩
 | k + 1 => by
  obtain ⟨ih0, ih1, ih2, ih3⟩ := canopylaw2_SetsRows.mono_l k
  refine ⟨?_, ?_, ?_, ?_⟩
  ·intro y0 y1 y2 y3
   unfold canopylaw2_SetsRows.j0
   repeat' first
   | (with_reducible exact ih0 _ _ _ _)
   | (with_reducible exact ih1 _ _ _)
   | (with_reducible exact ih2 _ _ _ _ _ _ _)
   | (with_reducible exact ih3 _ _ _ _)
   | (with_reducible exact canopylaw2_Pairs.mono _ _ _)
   | (with_reducible exact canopylaw2_ints.mono _ _ _)
   | (with_reducible exact canopyref2_Pairs.mono _ _)
   | (with_reducible exact canopyref2_Same.mono _ _ _)
   | (with_reducible exact LeO.refl _)
   | (with_reducible exact LeO.none _)
   | (with_reducible refine LeO.ite ?_ ?_)
   | (with_reducible refine LeO.bind ?_ (fun _ => ?_))
   | exact ih0 _ _ _ _
   | exact ih1 _ _ _
   | exact ih2 _ _ _ _ _ _ _
   | exact ih3 _ _ _ _
   | exact canopylaw2_Pairs.mono _ _ _
   | exact canopylaw2_ints.mono _ _ _
   | exact canopyref2_Pairs.mono _ _
   | exact canopyref2_Same.mono _ _ _
   | exact LeO.none _
   | refine LeO.ite ?_ ?_
   | refine LeO.bind ?_ (fun _ => ?_)
  ·intro y0 y1 y2
   unfold canopylaw2_SetsRows.j2
   repeat' first
   | (with_reducible exact ih0 _ _ _ _)
   | (with_reducible exact ih1 _ _ _)
   | (with_reducible exact ih2 _ _ _ _ _ _ _)
   | (with_reducible exact ih3 _ _ _ _)
   | (with_reducible exact canopylaw2_Pairs.mono _ _ _)
   | (with_reducible exact canopylaw2_ints.mono _ _ _)
   | (with_reducible exact canopyref2_Pairs.mono _ _)
   | (with_reducible exact canopyref2_Same.mono _ _ _)
   | (with_reducible exact LeO.refl _)
   | (with_reducible exact LeO.none _)
   | (with_reducible refine LeO.ite ?_ ?_)
   | (with_reducible refine LeO.bind ?_ (fun _ => ?_))
   | exact ih0 _ _ _ _
   | exact ih1 _ _ _
   | exact ih2 _ _ _ _ _ _ _
   | exact ih3 _ _ _ _
   | exact canopylaw2_Pairs.mono _ _ _
   | exact canopylaw2_ints.mono _ _ _
   | exact canopyref2_Pairs.mono _ _
   | exact canopyref2_Same.mono _ _ _
   | exact LeO.none _
   | refine LeO.ite ?_ ?_
   | refine LeO.bind ?_ (fun _ => ?_)
  ·intro y0 y1 y2 y3 y4 y5 y6
   unfold canopylaw2_SetsRows.l1
   repeat' first
   | (with_reducible exact ih0 _ _ _ _)
   | (with_reducible exact ih1 _ _ _)
   | (with_reducible exact ih2 _ _ _ _ _ _ _)
   | (with_reducible exact ih3 _ _ _ _)
   | (with_reducible exact canopylaw2_Pairs.mono _ _ _)
   | (with_reducible exact canopylaw2_ints.mono _ _ _)
   | (with_reducible exact canopyref2_Pairs.mono _ _)
   | (with_reducible exact canopyref2_Same.mono _ _ _)
   | (with_reducible exact LeO.refl _)
   | (with_reducible exact LeO.none _)
   | (with_reducible refine LeO.ite ?_ ?_)
   | (with_reducible refine LeO.bind ?_ (fun _ => ?_))
   | exact ih0 _ _ _ _
   | exact ih1 _ _ _
   | exact ih2 _ _ _ _ _ _ _
   | exact ih3 _ _ _ _
   | exact canopylaw2_Pairs.mono _ _ _
   | exact canopylaw2_ints.mono _ _ _
   | exact canopyref2_Pairs.mono _ _
   | exact canopyref2_Same.mono _ _ _
   | exact LeO.none _
   | refine LeO.ite ?_ ?_
   | refine LeO.bind ?_ (fun _ => ?_)
  ·intro y0 y1 y2 y3
   unfold canopylaw2_SetsRows.l0
   repeat' first
   | (with_reducible exact ih0 _ _ _ _)
   | (with_reducible exact ih1 _ _ _)
   | (with_reducible exact ih2 _ _ _ _ _ _ _)
   | (with_reducible exact ih3 _ _ _ _)
   | (with_reducible exact canopylaw2_Pairs.mono _ _ _)
   | (with_reducible exact canopylaw2_ints.mono _ _ _)
   | (with_reducible exact canopyref2_Pairs.mono _ _)
   | (with_reducible exact canopyref2_Same.mono _ _ _)
   | (with_reducible exact LeO.refl _)
   | (with_reducible exact LeO.none _)
   | (with_reducible refine LeO.ite ?_ ?_)
   | (with_reducible refine LeO.bind ?_ (fun _ => ?_))
   | exact ih0 _ _ _ _
   | exact ih1 _ _ _
   | exact ih2 _ _ _ _ _ _ _
   | exact ih3 _ _ _ _
   | exact canopylaw2_Pairs.mono _ _ _
   | exact canopylaw2_ints.mono _ _ _
   | exact canopyref2_Pairs.mono _ _
   | exact canopyref2_Same.mono _ _ _
   | exact LeO.none _
   | refine LeO.ite ?_ ?_
   | refine LeO.bind ?_ (fun _ => ?_)
theorem canopylaw2_SetsRows.mono : ∀ a0 a1 a2 k, LeO (canopylaw2_SetsRows.f k a0 a1 a2) (canopylaw2_SetsRows.f (k + 1) a0 a1 a2) := by
 intro a0 a1 a2 k
 obtain ⟨ih0, ih1, ih2, ih3⟩ := canopylaw2_SetsRows.mono_l k
 unfold canopylaw2_SetsRows.f
 repeat' first
   | (with_reducible exact ih0 _ _ _ _)
   | (with_reducible exact ih1 _ _ _)
   | (with_reducible exact ih2 _ _ _ _ _ _ _)
   | (with_reducible exact ih3 _ _ _ _)
   | (with_reducible exact canopylaw2_Pairs.mono _ _ _)
   | (with_reducible exact canopylaw2_ints.mono _ _ _)
   | (with_reducible exact canopyref2_Pairs.mono _ _)
   | (with_reducible exact canopyref2_Same.mono _ _ _)
   | (with_reducible exact LeO.refl _)
   | (with_reducible exact LeO.none _)
   | (with_reducible refine LeO.ite ?_ ?_)
   | (with_reducible refine LeO.bind ?_ (fun _ => ?_))
   | exact ih0 _ _ _ _
   | exact ih1 _ _ _
   | exact ih2 _ _ _ _ _ _ _
   | exact ih3 _ _ _ _
   | exact canopylaw2_Pairs.mono _ _ _
   | exact canopylaw2_ints.mono _ _ _
   | exact canopyref2_Pairs.mono _ _
   | exact canopyref2_Same.mono _ _ _
   | exact LeO.none _
   | refine LeO.ite ?_ ?_
   | refine LeO.bind ?_ (fun _ => ?_)
def canopylaw2_SetsRows.T9 : Bool × List (List Nat × List Nat) := (true, [([], []), ([], []), ([], []), ([1, 2], [1, 2]), ([3], [3]), ([], []), ([], []), ([6], [6]), ([5, 7], [5, 7]), ([8], [8]), ([4, 9], [4, 9]), ([10], [10]), ([0, 11], [0, 11]), ([12, 12, 0, 1, 2, 3, 4, 5, 6, 7, 8, 9, 10, 11, 12], [0, 12])])
def canopylaw2_SetsRows.B9 : List Nat := [0, 0, 0, 6, 14, 0, 0, 64, 224, 480, 1022, 2046, 4095, 8191]
theorem canopylaw2_SetsRows.tab9 : rtab .any (opsOf Try.f3 9) = canopylaw2_SetsRows.T9 := by kernel_rfl
theorem canopylaw2_SetsRows.bits9 : waitsOk canopylaw2_SetsRows.T9.2 canopylaw2_SetsRows.B9 = true := by kernel_rfl
def canopylaw2_SetsRows.T12 : Bool × List (List Nat × List Nat) := (true, [([], []), ([], []), ([], []), ([1, 2], [1, 2]), ([0, 3], [0, 3]), ([], []), ([], []), ([5, 6], [5, 6]), ([4, 7, 4], [4, 7]), ([8, 8], [8]), ([9, 9, 0, 1, 2, 3, 4, 5, 6, 7, 8, 9], [9])])
def canopylaw2_SetsRows.B12 : List Nat := [0, 0, 0, 6, 15, 0, 0, 96, 255, 511, 1023]
theorem canopylaw2_SetsRows.tab12 : rtab .any (opsOf Try.f3 12) = canopylaw2_SetsRows.T12 := by kernel_rfl
theorem canopylaw2_SetsRows.bits12 : waitsOk canopylaw2_SetsRows.T12.2 canopylaw2_SetsRows.B12 = true := by kernel_rfl
def canopylaw2_SetsRows.T13 : Bool × List (List Nat × List Nat) := (true, [([], []), ([], []), ([], []), ([1, 2], [1, 2]), ([0, 3], [0, 3]), ([], []), ([], []), ([5, 6], [5, 6]), ([4, 7, 4], [4, 7]), ([8, 8], [8]), ([9, 9, 0, 1, 2, 3, 4, 5, 6, 7, 8, 9], [9])])
def canopylaw2_SetsRows.B13 : List Nat := [0, 0, 0, 6, 15, 0, 0, 96, 255, 511, 1023]
theorem canopylaw2_SetsRows.tab13 : rtab .any (opsOf Try.f3 13) = canopylaw2_SetsRows.T13 := by kernel_rfl
theorem canopylaw2_SetsRows.bits13 : waitsOk canopylaw2_SetsRows.T13.2 canopylaw2_SetsRows.B13 = true := by kernel_rfl
def canopylaw2_SetsRows.T17 : Bool × List (List Nat × List Nat) := (true, [([], []), ([], []), ([1], [1]), ([0, 2], [0, 2]), ([3], [3]), ([], []), ([], []), ([5, 6], [5, 6]), ([7], [7]), ([4, 8], [4, 8])])
def canopylaw2_SetsRows.B17 : List Nat := [0, 0, 2, 7, 15, 0, 0, 96, 224, 511]
theorem canopylaw2_SetsRows.tab17 : rtab .any (opsOf Try.f3 17) = canopylaw2_SetsRows.T17 := by kernel_rfl
theorem canopylaw2_SetsRows.bits17 : waitsOk canopylaw2_SetsRows.T17.2 canopylaw2_SetsRows.B17 = true := by kernel_rfl
set_option maxHeartbeats 8000000 in
set_option maxRecDepth 100000 in
theorem canopylaw2_SetsRows.calls (k : Nat) (A0 : Option Addr) (c0 : Nat) (l0 : List Int) (A1 : Option Addr) (c1 : Nat) (l1 : List Int) (a2 : Int) (r : Bool) (w : World) (hr0 : Kd.C (Kd.int .i64) w A0 l0.length l0) (hc0 : l0.length ≤ c0) (hr1 : Kd.C (Kd.int .i64) w A1 l1.length l1) (hc1 : l1.length ≤ c1) (h : canopylaw2_SetsRows.f k l0 l1 a2 = some r) :
  Calls Try.prog 3 #[.slice A0 l0.length c0, .slice A1 l1.length c1, .int .i64 a2] w fun e w' => e = .returned (.bool r) ∧ Below w.heap.size w w' := by
 have hu27 := Try.underlying27
 have HR0 := Aside0.mk hr0
 have HC0 := Aside0.mk hc0
 clear hr0 hc0
 have HR1 := Aside0.mk hr1
 have HC1 := Aside0.mk hc1
 clear hr1 hc1
 have HB := Aside0.mk (Below.refl w.heap.size w)
 have H : ((canopylaw2_known.f).bind fun t130 => (if t130 = true then (if (l0.length : Int) > 60 then (canopylaw2_SetsRows.j0 k l0 l1 a2 true) else (canopylaw2_SetsRows.j0 k l0 l1 a2 (decide ((l1.length : Int) > 60)))) else (some false))) = some r := h
 clear h
 replace H := Option.bind_eq_some_iff.mp H
 obtain ⟨t130, A40, H⟩ := H
 replace H : (if t130 = true then (if (l0.length : Int) > 60 then (canopylaw2_SetsRows.j0 k l0 l1 a2 true) else (canopylaw2_SetsRows.j0 k l0 l1 a2 (decide ((l1.length : Int) > 60)))) else (some false)) = some r := H
 have A4 := Aside0.mk A40
 clear A40
 by_cases c5 : t130 = true
 ·subst c5
  have H1 : (if (l0.length : Int) > 60 then (canopylaw2_SetsRows.j0 k l0 l1 a2 true) else (canopylaw2_SetsRows.j0 k l0 l1 a2 (decide ((l1.length : Int) > 60)))) = some r := by rw [if_pos rfl] at H; exact H
  clear H
  have H := H1
  clear H1
  have HC6 := Aside0.mk H
  clear H
  go_enter Try.func3, Try.ntmps3
  go_upto_region 3 with (first | ((with_reducible refine gate_callee (f := 12) rfl ?_); refine goesL_ (some 16) rfl rfl Try.func12 (by kernel_rfl) rfl #[] rfl (by (try simp only [List.map_toArray, List.map_cons, List.map_nil]); first | done | rfl | (simp only [List.length_drop, List.length_take]; rfl)) ?_; (with_reducible refine (canopylaw2_known.calls  true _ A4.out).mono ?_); rintro e w7 ⟨rfl, hb⟩; refine ⟨_, rfl, ?_⟩; have n0_ := Aside0.mk (below_step (by repeat (first | (with_reducible first | exact HB.out | apply below_alloc | apply pw_below_drewN | apply below_drew1) | exact HB.out)) hb); clear HB; have HB := n0_; clear n0_; (try clear hb); (try clear hb2); (try clear hk); (try clear hi)))
  (try simp only [Act.put, List.setIfInBounds_toArray, List.set_cons_zero, List.set_cons_succ])
  go_cut [25] (fun v25 wc => ∃ (kq : Nat) (x25_5 : Bool), v25 = .bool x25_5 ∧ Aside0 (canopylaw2_SetsRows.j0 kq l0 l1 a2 x25_5 = some r) ∧ Aside0 (kq ≤ k) ∧ Aside0 (Below w.heap.size w wc))
  case first =>
   have H := HC6.out
   clear HC6
   by_cases c8 : (l0.length : Int) > 60
   ·rw [if_pos c8] at H
    have c8b0 : decide (60 < (l0.length : Int)) = true := decide_eq_true c8
    have c8b1 : decide (60 < l0.length) = true := decide_eq_true (by omega)
    clear c8
    (first | rw [c8b0] | (simp only [i64_w, i32_w]; rw [c8b0]) | skip)
    have H' := Aside0.mk H
    clear H
    go_wp2
    go_meet
    case rel => exact ⟨_, (true), (by first | rfl | (simp; done) | (simp [*]; done)), H', ⟨by first | omega | exact Nat.le_refl _⟩, ⟨by repeat (first | (with_reducible first | exact HB.out | apply below_alloc | apply pw_below_drewN | apply below_drew1) | exact HB.out)⟩⟩
   ·rw [if_neg c8] at H
    have c8b0 : decide (60 < (l0.length : Int)) = false := decide_eq_false c8
    have c8b1 : decide (60 < l0.length) = false := decide_eq_false (by omega)
    clear c8
    (first | rw [c8b0] | (simp only [i64_w, i32_w]; rw [c8b0]) | skip)
    have H' := Aside0.mk H
    clear H
    go_wp2
    go_meet
    case rel => exact ⟨_, (decide ((l1.length : Int) > 60)), (by first | rfl | (simp; done) | (simp [*]; done)), H', ⟨by first | omega | exact Nat.le_refl _⟩, ⟨by repeat (first | (with_reducible first | exact HB.out | apply below_alloc | apply pw_below_drewN | apply below_drew1) | exact HB.out)⟩⟩
  case rest =>
   clear HC6
   try clear c1
   try clear p2
   try clear c3
   try clear c5
   try clear c8
   try clear c8b0
   try clear c8b1
   obtain ⟨kq, x25_5, rfl, HA, HJ5, HB⟩ := hcut
   cases kq with
   | zero => exact absurd HA.out (by simp [canopylaw2_SetsRows.j0])
   | succ kj5 =>
    have H := HA.out
    clear HA
    simp only [canopylaw2_SetsRows.j0] at H
    by_cases c9 : x25_5 = true
    ·subst c9
     have H1 : (some true) = some r := by rw [if_pos rfl] at H; exact H
     clear H
     have H := H1
     clear H1
     obtain rfl := Option.some.inj H
     go_wp2
     go_ret
     exact ⟨by first | rfl | (simp [errW_none, errW_some] <;> rfl) | (simp [*, errW_none, errW_some] <;> rfl), by repeat (first | (with_reducible first | exact HB.out | apply below_alloc | apply pw_below_drewN | apply below_drew1) | exact HB.out)⟩
    ·replace c9 := Bool.eq_false_iff.mpr c9
     subst c9
     have H1 : ((canopylaw2_Pairs.f kj5 l0 30).bind fun t131 => (canopylaw2_SetsRows.l0 kj5 l1 a2 t131 0)) = some r := by rw [if_neg (show ¬ (false = true) by decide)] at H; exact H
     clear H
     have H := H1
     clear H1
     replace H := Option.bind_eq_some_iff.mp H
     obtain ⟨t131, A100, H⟩ := H
     replace H : (canopylaw2_SetsRows.l0 kj5 l1 a2 t131 0) = some r := H
     have A10 := Aside0.mk A100
     clear A100
     have HC11 := Aside0.mk H
     clear H
     go_upto_block 0 with (first | ((with_reducible refine gate_callee (f := 13) rfl ?_); refine goesL_ (some 27) rfl rfl Try.func13 (by kernel_rfl) rfl #[.slice A0 l0.length c0, .int .i64 30] rfl (by (try simp only [List.map_toArray, List.map_cons, List.map_nil]); first | done | rfl | (simp only [List.length_drop, List.length_take]; rfl)) ?_; (with_reducible refine (canopylaw2_Pairs.calls kj5 _ _ l0 30 t131 _ ?side1 ?side2 A10.out).mono ?_); (case side1 => repeat (first | exact (Kd.C_below HR0.out HB.out) | (with_reducible refine Kd.C_alloc ?_ _) | (with_reducible refine Kd.C_drewN ?_ _) | (with_reducible refine Kd.C_drew ?_))); (case side2 => exact HC0.out); rintro e w12 ⟨v132, rfl, ho0, hb⟩; refine ⟨_, rfl, ?_⟩; have n0_ := Aside0.mk (Kd.R_lower ho0 (below_size (by repeat (first | (with_reducible first | exact HB.out | apply below_alloc | apply pw_below_drewN | apply below_drew1) | exact HB.out)))); have n1_ := Aside0.mk (below_step (by repeat (first | (with_reducible first | exact HB.out | apply below_alloc | apply pw_below_drewN | apply below_drew1) | exact HB.out)) hb); clear HB; have HO133 := n0_; have HB := n1_; clear n0_ n1_; (try clear hb); (try clear hb2); (try clear hk); (try clear hi); (try clear ho0)))
     (try simp only [Act.put, List.setIfInBounds_toArray, List.set_cons_zero, List.set_cons_succ])
     go_cut [7] (fun v7 wc => ∃ (kq : Nat) (x7_10 : List (S27)), Aside0 (canopylaw2_SetsRows.j2 kq l1 a2 x7_10 = some r) ∧ Aside0 (kq ≤ kj5) ∧ Aside0 (Kd.R k27 27 wc w.heap.size (fun _ => True) v7 x7_10) ∧ Aside0 (Below w.heap.size w wc))
     case first =>
      have H := HC11.out
      clear HC11
      have H' := Aside0.mk H
      clear H
      go_wp2
      go_loopg [7, 8] kj5 (fun kq v7 v8 w' => ∃ (x7_2 : List (S27)) (x8_2 : Int), v8 = .int .i64 x8_2 ∧ Aside0 (canopylaw2_SetsRows.l0 kq l1 a2 x7_2 x8_2 = some r) ∧ Aside0 (kq ≤ kj5) ∧ Aside0 (Kd.R k27 27 w' w.heap.size (fun _ => True) v7 x7_2) ∧ Aside0 (Below w.heap.size w w'))
      case atStart => exact ⟨(t131), (0), (by first | rfl | (simp; done) | (simp [*]; done)), H', ⟨Nat.le_refl _⟩, ⟨by (with_reducible repeat (first | apply Kd.R_alloc | apply Kd.R_drewN | apply Kd.R_drew)); exact HO133.out⟩, ⟨by repeat (first | (with_reducible first | exact HB.out | apply below_alloc | apply pw_below_drewN | apply below_drew1) | exact HB.out)⟩⟩
      case round =>
       clear H'
       try clear c1
       try clear p2
       try clear c3
       try clear c5
       try clear c8
       try clear c8b0
       try clear c8b1
       try clear c9
       try clear c12
       try clear p2
       obtain ⟨x7_2, x8_2, rfl, HA, HK2, HO_7, HB⟩ := hrel
       cases gk with
       | zero => exact absurd HA.out (by simp [canopylaw2_SetsRows.l0])
       | succ k2 =>
        have H := HA.out
        clear HA
        simp only [canopylaw2_SetsRows.l0] at H
        by_cases c13 : (wrap64 (x8_2 + 1)) < (l1.length : Int)
        ·rw [if_pos c13] at H
         have c13b0 : decide ((wrap64 (x8_2 + 1)) < (l1.length : Int)) = true := decide_eq_true c13
         clear c13
         (first | rw [c13b0] | (simp only [i64_w, i32_w]; rw [c13b0]) | skip)
         by_cases c14 : x8_2 < 20
         ·rw [if_pos c14] at H
          have c14b0 : decide (x8_2 < 20) = true := decide_eq_true c14
          clear c14
          by_cases c15 : 0 ≤ x8_2
          ·rw [if_pos c15] at H
           have c15b0 : decide (0 ≤ x8_2) = true := decide_eq_true c15
           clear c15
           by_cases c16 : x8_2 < (l1.length : Int)
           ·rw [if_pos c16] at H
            have c16b0 : decide (x8_2 < (l1.length : Int)) = true := decide_eq_true c16
            clear c16
            obtain ⟨ji17, hji17⟩ : ∃ j_ : Int, (wrap64 (x8_2 + 1)) = j_ := ⟨_, rfl⟩
            replace H : (if 0 ≤ (ji17) then (if x7_2.length < 8796093022208 then (canopylaw2_SetsRows.l0 k2 l1 a2 (x7_2 ++ [(⟨rd l1 x8_2, rd l1 (ji17)⟩ : S27)]) (wrap64 (x8_2 + 2))) else (none)) else (none)) = some r := by first | (rw [hji17] at H; exact H) | (simp only [hji17] at H ⊢; exact H)
            (try rw [hji17] at c13b0)
            have hji17w : (IntKind.i64.wrap (x8_2 + 1)) = ji17 := (i64_w _).trans hji17
            by_cases c18 : 0 ≤ (ji17)
            ·rw [if_pos c18] at H
             have c18b0 : decide (0 ≤ (ji17)) = true := decide_eq_true c18
             clear c18
             by_cases c19 : x7_2.length < 8796093022208
             ·rw [if_pos c19] at H
              have LMc19 := Aside0.mk c19
              clear c19
              obtain ⟨y136, hy136⟩ : ∃ y_ : List (S27), y_ = (x7_2 ++ [(⟨rd l1 x8_2, rd l1 (ji17)⟩ : S27)]) := ⟨_, rfl⟩
              replace H : (canopylaw2_SetsRows.l0 k2 l1 a2 y136 (wrap64 (x8_2 + 2))) = some r := by first | (rw [hy136]; with_reducible exact H) | (have H2_ := (Option.bind_some _ _).symm.trans H; rw [hy136]; with_reducible exact H2_) | (have H2_ := (Option.bind_some _ _).symm.trans H; with_reducible exact H2_) | with_reducible exact H | (rw [hy136]; exact H) | exact H
              have Ny136 := Aside0.mk hy136
              clear hy136
              have H' := Aside0.mk H
              clear H
              try go_wp2
              have n0_ := Aside0.mk (Kd.R_drew HO_7.out)
              have n1_ := Aside0.mk (below_drew1 HB.out)
              clear HO_7
              clear HB
              have HO_7 := n0_
              have HB := n1_
              clear n0_ n1_
              have p134 : 0 ≤ (x8_2 : Int) := of_decide_eq_true (by first | (with_reducible assumption) | assumption)
              have q134 : x8_2 < (l1.length : Int) := of_decide_eq_true (by first | (with_reducible assumption) | assumption)
              obtain ⟨ad134, e134, hx134_0⟩ := Kd.at_int HR1.out x8_2 p134 q134
              have hw134_0 := hx134_0
              cases e134
              replace hx134_0 := (HB.out.cell (World.block_lt_of_cell? w _ hx134_0)).trans hx134_0
              replace p134 := eq_true p134
              replace q134 := eq_true q134
              have p135 : 0 ≤ ((ji17) : Int) := of_decide_eq_true (by first | (with_reducible assumption) | assumption)
              have q135 : (ji17) < (l1.length : Int) := of_decide_eq_true (by first | (with_reducible assumption) | assumption)
              obtain ⟨ad135, e135, hx135_0⟩ := Kd.at_int HR1.out (ji17) p135 q135
              have hw135_0 := hx135_0
              obtain rfl : ad134 = ad135 := (by injection e135)
              replace hx135_0 := (HB.out.cell (World.block_lt_of_cell? w _ hx135_0)).trans hx135_0
              replace p135 := eq_true p135
              replace q135 := eq_true q135
              refine start_ (n := 14) (S := fun w' => w'.cell? (ad134.add (x8_2).toNat) = some (.int .i64 (rd l1 x8_2)) ∧ w'.cell? (ad134.add ((ji17)).toNat) = some (.int .i64 (rd l1 (ji17)))) (ds := []) #[false, false, false, false, false, false, false, false, false, false, false, false, false, false] (by kernel_rfl) rfl rfl ⟨((HB.out.cell (World.block_lt_of_cell? w _ hw134_0)).trans hw134_0), ((HB.out.cell (World.block_lt_of_cell? w _ hw135_0)).trans hw135_0)⟩ (fun hHeld => ?_); refine with_tabW canopylaw2_SetsRows.tab9 canopylaw2_SetsRows.bits9 (fun HT_ HW_ => ?_)
              generalize wr.drew = w20 at HO_7 HB hx134_0 hx135_0 hHeld ⊢
              refine pure_ (i := 0) (N := some 39) (v := ?_) (a' := ?_) #[true, false, false, false, false, false, false, false, false, false, false, false, false, false] rfl rfl (any_of HT_.out (by kernel_rfl)) (fun _ _ _ h => h) (Or.inl ⟨by rfl, ?_⟩) ?_ ?_
              rotate_left
              ·intro w'
               go_simp
               with_reducible rfl
              rotate_left
              ·simp only [Act.put, List.setIfInBounds_toArray, List.set_cons_zero, List.set_cons_succ, i64_w, i32_w]
               rfl
              refine pure_ (i := 1) (N := some 40) (v := ?_) (a' := ?_) #[true, true, false, false, false, false, false, false, false, false, false, false, false, false] rfl rfl (any_of HT_.out (by kernel_rfl)) (fun _ _ _ h => h) (Or.inl ⟨by rfl, ?_⟩) ?_ ?_
              rotate_left
              ·intro w'
               go_simp
               with_reducible rfl
              rotate_left
              ·simp only [Act.put, List.setIfInBounds_toArray, List.set_cons_zero, List.set_cons_succ, i64_w, i32_w]
               rfl
              refine pure_ (i := 2) (N := some 41) (v := ?_) (a' := ?_) #[true, true, true, false, false, false, false, false, false, false, false, false, false, false] rfl rfl (any_of HT_.out (by kernel_rfl)) (fun _ _ _ h => h) (Or.inl ⟨by rfl, ?_⟩) ?_ ?_
              rotate_left
              ·intro w'
               go_simp
               with_reducible rfl
              rotate_left
              ·simp only [Act.put, List.setIfInBounds_toArray, List.set_cons_zero, List.set_cons_succ, i64_w, i32_w]
               rfl
              refine pure_ (i := 3) (N := some 42) (v := ?_) (a' := ?_) #[true, true, true, true, false, false, false, false, false, false, false, false, false, false] rfl rfl (any_of HT_.out (by kernel_rfl)) (fun _ _ _ h => h) (Or.inl ⟨by rfl, ?_⟩) ?_ ?_
              rotate_left
              ·intro w'
               go_simp
               with_reducible rfl
              rotate_left
              ·simp only [Act.put, List.setIfInBounds_toArray, List.set_cons_zero, List.set_cons_succ, i64_w, i32_w]
               rfl
              refine pure_ (i := 5) (N := some 44) (v := ?_) (a' := ?_) #[true, true, true, true, false, true, false, false, false, false, false, false, false, false] rfl rfl (any_of HT_.out (by kernel_rfl)) (fun _ _ _ h => h) (Or.inl ⟨by rfl, ?_⟩) ?_ ?_
              rotate_left
              ·intro w'
               go_simp
               with_reducible rfl
              rotate_left
              ·simp only [Act.put, List.setIfInBounds_toArray, List.set_cons_zero, List.set_cons_succ, i64_w, i32_w]
               rfl
              refine pure_ (i := 6) (N := some 45) (v := ?_) (a' := ?_) #[true, true, true, true, false, true, true, false, false, false, false, false, false, false] rfl rfl (any_of HT_.out (by kernel_rfl)) (fun _ _ _ h => h) (Or.inl ⟨by rfl, ?_⟩) ?_ ?_
              rotate_left
              ·intro w'
               go_simp
               with_reducible rfl
              rotate_left
              ·simp only [Act.put, List.setIfInBounds_toArray, List.set_cons_zero, List.set_cons_succ, i64_w, i32_w]
               rfl
              refine pure_ (i := 7) (N := some 46) (v := ?_) (a' := ?_) #[true, true, true, true, false, true, true, true, false, false, false, false, false, false] rfl rfl (any_of HT_.out (by kernel_rfl)) (fun _ _ _ h => h) (Or.inl ⟨by rfl, ?_⟩) ?_ ?_
              rotate_left
              ·intro w'
               go_simp
               with_reducible rfl
              rotate_left
              ·simp only [Act.put, List.setIfInBounds_toArray, List.set_cons_zero, List.set_cons_succ, i64_w, i32_w]
               rfl
              refine pure_ (i := 8) (N := some 47) (v := ?_) (a' := ?_) #[true, true, true, true, false, true, true, true, true, false, false, false, false, false] rfl rfl (any_of HT_.out (by kernel_rfl)) (fun _ _ _ h => h) (Or.inl ⟨by rfl, ?_⟩) ?_ ?_
              rotate_left
              ·intro w'
               go_simp
               with_reducible rfl
              rotate_left
              ·simp only [Act.put, List.setIfInBounds_toArray, List.set_cons_zero, List.set_cons_succ, i64_w, i32_w]
               rfl
              refine take_ (i := 4) (N := some 43) (v := ?_) (a' := ?_) #[true, true, true, true, true, true, true, true, true, false, false, false, false, false] rfl rfl (take_ofW HT_.out HW_.out (by kernel_rfl)) (fun _ _ _ h => h) (Or.inl ⟨by rfl, ?_⟩) hHeld ?_ ?_
              rotate_left
              ·rintro w' ⟨s0, s1⟩
               go_simp
               with_reducible rfl
              rotate_left
              ·simp only [Act.put, List.setIfInBounds_toArray, List.set_cons_zero, List.set_cons_succ, i64_w, i32_w]
               rfl
              refine take_ (i := 9) (N := some 48) (v := ?_) (a' := ?_) #[true, true, true, true, true, true, true, true, true, true, false, false, false, false] rfl rfl (take_ofW HT_.out HW_.out (by kernel_rfl)) (fun _ _ _ h => h) (Or.inl ⟨by rfl, ?_⟩) hHeld ?_ ?_
              rotate_left
              ·rintro w' ⟨s0, s1⟩
               go_simp
               with_reducible rfl
              rotate_left
              ·simp only [Act.put, List.setIfInBounds_toArray, List.set_cons_zero, List.set_cons_succ, i64_w, i32_w]
               rfl
              refine pure_ (i := 10) (N := some 49) (v := ?_) (a' := ?_) #[true, true, true, true, true, true, true, true, true, true, true, false, false, false] rfl rfl (any_of HT_.out (by kernel_rfl)) (fun _ _ _ h => h) (Or.inl ⟨by rfl, ?_⟩) ?_ ?_
              rotate_left
              ·intro w'
               go_simp
               with_reducible rfl
              rotate_left
              ·simp only [Act.put, List.setIfInBounds_toArray, List.set_cons_zero, List.set_cons_succ, i64_w, i32_w]
               rfl
              refine one_ (i := 11) (N := some 50) #[true, true, true, true, true, true, true, true, true, true, true, true, false, false] rfl rfl (one_of HT_.out (by kernel_rfl)) (by decide) (fun K hK => ?_)
              refine value_ (w1 := ?_) (v := ?_) (by rfl) rfl ?_ ?_
              rotate_left 2
              ·go_simp
               constructor
               ·rfl
               ·rfl
              refine hK.out _ _ ⟨(World.cell?_alloc_lt _ _ _ (World.block_lt_of_cell? _ _ (((HB.out.cell (World.block_lt_of_cell? w _ hw134_0)).trans hw134_0)))).trans (((HB.out.cell (World.block_lt_of_cell? w _ hw134_0)).trans hw134_0)), (World.cell?_alloc_lt _ _ _ (World.block_lt_of_cell? _ _ (((HB.out.cell (World.block_lt_of_cell? w _ hw135_0)).trans hw135_0)))).trans (((HB.out.cell (World.block_lt_of_cell? w _ hw135_0)).trans hw135_0))⟩ (fun hHeld => ?_)
              clear hK K
              refine norm_ (a' := ?_) ?_ ?_
              rotate_left
              ·show Act.put _ (some 50) _ = _
               simp only [Act.put, List.setIfInBounds_toArray, List.set_cons_zero, List.set_cons_succ, i64_w, i32_w]
               rfl
              refine one_ (i := 12) (N := some 51) #[true, true, true, true, true, true, true, true, true, true, true, true, true, false] rfl rfl (one_of HT_.out (by kernel_rfl)) (by decide) (fun K hK => ?_)
              refine Kd.R_append_step k27 (w0 := w) w.heap.size (by rfl) (.tmp 39) (.tmp 50) 24 27 (.agg #[(.int .i64 0), (.int .i64 0)]) 16 rfl Try.underlying24 info27 rfl (by decide) (by omega) u7 x7_2 (⟨rd l1 x8_2, rd l1 (ji17)⟩ : S27) [.int .i64 (rd l1 x8_2), .int .i64 (rd l1 (ji17))] (fun _ => True) (fun _ => False) rfl rfl ?aP (fun _ hk => hk.elim) ?aF ?aO ?aB ?aS ?aL ?_
              (case aP => exact k27_mkM _ _ _ (⟨rd l1 x8_2, rd l1 (ji17)⟩ : S27))
              (case aB => exact (by repeat (first | (with_reducible first | exact HB.out | apply below_alloc | apply pw_below_drewN | apply below_drew1) | exact HB.out)))
              (case aF => exact (fun _ _ => trivial))
              (case aO => exact (by (with_reducible repeat (first | apply Kd.R_alloc | apply Kd.R_drewN | apply Kd.R_drew)); exact HO_7.out))
              (case aS => exact (below_size (by repeat (first | (with_reducible first | exact HB.out | apply below_alloc | apply pw_below_drewN | apply below_drew1) | exact HB.out))))
              (case aL => have := LMc19.out; omega)
              intro v137 w21 ho hb hg hat
              rw [← Ny136.out] at ho
              have n0_ := Aside0.mk (hb)
              have n1_ := Aside0.mk (ho)
              clear HB
              clear HO_7
              have HB := n0_
              have HO138 := n1_
              clear n0_ n1_
              clear ho hb hg hat
              refine hK.out _ _ ⟨((HB.out.cell (World.block_lt_of_cell? w _ hw134_0)).trans hw134_0), ((HB.out.cell (World.block_lt_of_cell? w _ hw135_0)).trans hw135_0)⟩ (fun hHeld => ?_)
              clear hK K
              refine norm_ (a' := ?_) ?_ ?_
              rotate_left
              ·show Act.put _ (some 51) _ = _
               simp only [Act.put, List.setIfInBounds_toArray, List.set_cons_zero, List.set_cons_succ, i64_w, i32_w]
               rfl
              refine pure_ (i := 13) (N := some 7) (v := ?_) (a' := ?_) #[true, true, true, true, true, true, true, true, true, true, true, true, true, true] rfl rfl (any_of HT_.out (by kernel_rfl)) (fun _ _ _ h => h) (Or.inl ⟨by rfl, ?_⟩) ?_ ?_
              rotate_left
              ·intro w'
               go_simp
               with_reducible rfl
              rotate_left
              ·simp only [Act.put, List.setIfInBounds_toArray, List.set_cons_zero, List.set_cons_succ, i64_w, i32_w]
               rfl
              refine done_ (done_of HT_.out (by kernel_rfl)) ?_
              try go_wp2
              go_roundg k2
              case measure => have := HJ5.out; have := HK2.out; omega
              case rel => exact ⟨(y136), (wrap64 (x8_2 + 2)), (by first | rfl | (simp; done) | (simp [*]; done)), H', ⟨by have := HJ5.out; have := HK2.out; omega⟩, ⟨by (with_reducible repeat (first | apply Kd.R_alloc | apply Kd.R_drewN | apply Kd.R_drew)); exact HO138.out⟩, ⟨by repeat (first | (with_reducible first | exact HB.out | apply below_alloc | apply pw_below_drewN | apply below_drew1) | exact HB.out)⟩⟩
             ·rw [if_neg c19] at H
              exact absurd H (by simp)
            ·rw [if_neg c18] at H
             exact absurd H (by simp)
           ·rw [if_neg c16] at H
            exact absurd H (by simp)
          ·rw [if_neg c15] at H
           exact absurd H (by simp)
         ·rw [if_neg c14] at H
          have c14b0 : decide (x8_2 < 20) = false := decide_eq_false c14
          clear c14
          have H' := Aside0.mk H
          clear H
          go_wp2
          go_meet
          case rel => exact ⟨_, (x7_2), H', ⟨by have := HJ5.out; have := HK2.out; first | omega | exact Nat.le_refl _⟩, ⟨by (with_reducible repeat (first | apply Kd.R_alloc | apply Kd.R_drewN | apply Kd.R_drew)); exact HO_7.out⟩, ⟨by repeat (first | (with_reducible first | exact HB.out | apply below_alloc | apply pw_below_drewN | apply below_drew1) | exact HB.out)⟩⟩
        ·rw [if_neg c13] at H
         have c13b0 : decide ((wrap64 (x8_2 + 1)) < (l1.length : Int)) = false := decide_eq_false c13
         clear c13
         (first | rw [c13b0] | (simp only [i64_w, i32_w]; rw [c13b0]) | skip)
         have H' := Aside0.mk H
         clear H
         go_wp2
         go_meet
         case rel => exact ⟨_, (x7_2), H', ⟨by have := HJ5.out; have := HK2.out; first | omega | exact Nat.le_refl _⟩, ⟨by (with_reducible repeat (first | apply Kd.R_alloc | apply Kd.R_drewN | apply Kd.R_drew)); exact HO_7.out⟩, ⟨by repeat (first | (with_reducible first | exact HB.out | apply below_alloc | apply pw_below_drewN | apply below_drew1) | exact HB.out)⟩⟩
     case rest =>
      clear HC11
      try clear c1
      try clear p1
      try clear q1
      try clear hx1
      try clear p2
      try clear c3
      try clear c5
      try clear p6
      try clear c8
      try clear c8b0
      try clear c8b1
      try clear c9
      try clear c12
      try clear c13
      try clear c13b0
      try clear p13
      try clear q13
      try clear hx13
      try clear c14
      try clear c14b0
      try clear c15
      try clear c15b0
      try clear c16
      try clear c16b0
      try clear c18
      try clear c18b0
      try clear c19
      try clear hx134_0
      try clear hx135_0
      try clear p134
      try clear p135
      try clear p2
      try clear q134
      try clear q135
      obtain ⟨kq, x7_10, HA, HJ10, HO_7, HB⟩ := hcut
      cases kq with
      | zero => exact absurd HA.out (by simp [canopylaw2_SetsRows.j2])
      | succ kj10 =>
       have H := HA.out
       clear HA
       simp only [canopylaw2_SetsRows.j2] at H
       replace H := Option.bind_eq_some_iff.mp H
       obtain ⟨t139, A220, H⟩ := H
       replace H : ((canopylaw2_within.f a2 (wrap64 ((x7_10.length : Int) + 1))).bind fun t140 => ((sets_Ints.f l1).bind fun t141 => ((sets_Pairs.f x7_10).bind fun t144 => ((some (([] : List Int) : List Int)).bind fun y147 => (if 0 ≤ t139 then (if t139 ≤ (l1.length : Int) then (if y147.length + (l1.drop (t139 : Int).toNat).length < 17592186044416 then ((some (y147 ++ (l1.drop (t139 : Int).toNat) : List Int)).bind fun y151 => (if y151.length + (l1.take (t139 : Int).toNat).length < 17592186044416 then ((sets_Ints.f (y151 ++ (l1.take (t139 : Int).toNat))).bind fun t158 => ((some (([] : List (S27)) : List (S27))).bind fun y161 => (if 0 ≤ t140 then (if t140 ≤ (x7_10.length : Int) then ((some (x7_10.drop (t140 : Int).toNat : List (S27))).bind fun y164 => (if y161.length + y164.length < 8796093022208 then ((some (y161 ++ y164 : List (S27))).bind fun y168 => ((some (x7_10.take (t140 : Int).toNat : List (S27))).bind fun y171 => (if y168.length + y171.length < 8796093022208 then ((sets_Pairs.f (y168 ++ y171)).bind fun t178 => (canopylaw2_SetsRows.l1 kj10 l1 x7_10 t141 t144 t158 t178 1)) else (none)))) else (none))) else (none)) else (none)))) else (none))) else (none)) else (none)) else (none)))))) = some r := H
       have A22 := Aside0.mk A220
       clear A220
       replace H := Option.bind_eq_some_iff.mp H
       obtain ⟨t140, A230, H⟩ := H
       replace H : ((sets_Ints.f l1).bind fun t141 => ((sets_Pairs.f x7_10).bind fun t144 => ((some (([] : List Int) : List Int)).bind fun y147 => (if 0 ≤ t139 then (if t139 ≤ (l1.length : Int) then (if y147.length + (l1.drop (t139 : Int).toNat).length < 17592186044416 then ((some (y147 ++ (l1.drop (t139 : Int).toNat) : List Int)).bind fun y151 => (if y151.length + (l1.take (t139 : Int).toNat).length < 17592186044416 then ((sets_Ints.f (y151 ++ (l1.take (t139 : Int).toNat))).bind fun t158 => ((some (([] : List (S27)) : List (S27))).bind fun y161 => (if 0 ≤ t140 then (if t140 ≤ (x7_10.length : Int) then ((some (x7_10.drop (t140 : Int).toNat : List (S27))).bind fun y164 => (if y161.length + y164.length < 8796093022208 then ((some (y161 ++ y164 : List (S27))).bind fun y168 => ((some (x7_10.take (t140 : Int).toNat : List (S27))).bind fun y171 => (if y168.length + y171.length < 8796093022208 then ((sets_Pairs.f (y168 ++ y171)).bind fun t178 => (canopylaw2_SetsRows.l1 kj10 l1 x7_10 t141 t144 t158 t178 1)) else (none)))) else (none))) else (none)) else (none)))) else (none))) else (none)) else (none)) else (none))))) = some r := H
       have A23 := Aside0.mk A230
       clear A230
       replace H := Option.bind_eq_some_iff.mp H
       obtain ⟨t141, A240, H⟩ := H
       replace H : ((sets_Pairs.f x7_10).bind fun t144 => ((some (([] : List Int) : List Int)).bind fun y147 => (if 0 ≤ t139 then (if t139 ≤ (l1.length : Int) then (if y147.length + (l1.drop (t139 : Int).toNat).length < 17592186044416 then ((some (y147 ++ (l1.drop (t139 : Int).toNat) : List Int)).bind fun y151 => (if y151.length + (l1.take (t139 : Int).toNat).length < 17592186044416 then ((sets_Ints.f (y151 ++ (l1.take (t139 : Int).toNat))).bind fun t158 => ((some (([] : List (S27)) : List (S27))).bind fun y161 => (if 0 ≤ t140 then (if t140 ≤ (x7_10.length : Int) then ((some (x7_10.drop (t140 : Int).toNat : List (S27))).bind fun y164 => (if y161.length + y164.length < 8796093022208 then ((some (y161 ++ y164 : List (S27))).bind fun y168 => ((some (x7_10.take (t140 : Int).toNat : List (S27))).bind fun y171 => (if y168.length + y171.length < 8796093022208 then ((sets_Pairs.f (y168 ++ y171)).bind fun t178 => (canopylaw2_SetsRows.l1 kj10 l1 x7_10 t141 t144 t158 t178 1)) else (none)))) else (none))) else (none)) else (none)))) else (none))) else (none)) else (none)) else (none)))) = some r := H
       have A24 := Aside0.mk A240
       clear A240
       replace H := Option.bind_eq_some_iff.mp H
       obtain ⟨t144, A250, H⟩ := H
       replace H : ((some (([] : List Int) : List Int)).bind fun y147 => (if 0 ≤ t139 then (if t139 ≤ (l1.length : Int) then (if y147.length + (l1.drop (t139 : Int).toNat).length < 17592186044416 then ((some (y147 ++ (l1.drop (t139 : Int).toNat) : List Int)).bind fun y151 => (if y151.length + (l1.take (t139 : Int).toNat).length < 17592186044416 then ((sets_Ints.f (y151 ++ (l1.take (t139 : Int).toNat))).bind fun t158 => ((some (([] : List (S27)) : List (S27))).bind fun y161 => (if 0 ≤ t140 then (if t140 ≤ (x7_10.length : Int) then ((some (x7_10.drop (t140 : Int).toNat : List (S27))).bind fun y164 => (if y161.length + y164.length < 8796093022208 then ((some (y161 ++ y164 : List (S27))).bind fun y168 => ((some (x7_10.take (t140 : Int).toNat : List (S27))).bind fun y171 => (if y168.length + y171.length < 8796093022208 then ((sets_Pairs.f (y168 ++ y171)).bind fun t178 => (canopylaw2_SetsRows.l1 kj10 l1 x7_10 t141 t144 t158 t178 1)) else (none)))) else (none))) else (none)) else (none)))) else (none))) else (none)) else (none)) else (none))) = some r := H
       have A25 := Aside0.mk A250
       clear A250
       obtain ⟨y147, hy147⟩ : ∃ y_ : List Int, y_ = (([] : List Int)) := ⟨_, rfl⟩
       replace H : (if 0 ≤ t139 then (if t139 ≤ (l1.length : Int) then (if y147.length + (l1.drop (t139 : Int).toNat).length < 17592186044416 then ((some (y147 ++ (l1.drop (t139 : Int).toNat) : List Int)).bind fun y151 => (if y151.length + (l1.take (t139 : Int).toNat).length < 17592186044416 then ((sets_Ints.f (y151 ++ (l1.take (t139 : Int).toNat))).bind fun t158 => ((some (([] : List (S27)) : List (S27))).bind fun y161 => (if 0 ≤ t140 then (if t140 ≤ (x7_10.length : Int) then ((some (x7_10.drop (t140 : Int).toNat : List (S27))).bind fun y164 => (if y161.length + y164.length < 8796093022208 then ((some (y161 ++ y164 : List (S27))).bind fun y168 => ((some (x7_10.take (t140 : Int).toNat : List (S27))).bind fun y171 => (if y168.length + y171.length < 8796093022208 then ((sets_Pairs.f (y168 ++ y171)).bind fun t178 => (canopylaw2_SetsRows.l1 kj10 l1 x7_10 t141 t144 t158 t178 1)) else (none)))) else (none))) else (none)) else (none)))) else (none))) else (none)) else (none)) else (none)) = some r := by first | (rw [hy147]; with_reducible exact H) | (have H2_ := (Option.bind_some _ _).symm.trans H; rw [hy147]; with_reducible exact H2_) | (have H2_ := (Option.bind_some _ _).symm.trans H; with_reducible exact H2_) | with_reducible exact H | (rw [hy147]; exact H) | exact H
       have Ny147 := Aside0.mk hy147
       clear hy147
       by_cases c26 : 0 ≤ t139
       ·rw [if_pos c26] at H
        have c26b0 := eq_true c26
        have c26b1 : decide (0 ≤ t139) = true := decide_eq_true c26
        clear c26
        by_cases c27 : t139 ≤ (l1.length : Int)
        ·rw [if_pos c27] at H
         have c27b0 := eq_true c27
         have c27b1 : decide (t139 ≤ (l1.length : Int)) = true := decide_eq_true c27
         clear c27
         by_cases c28 : y147.length + (l1.drop (t139 : Int).toNat).length < 17592186044416
         ·rw [if_pos c28] at H
          have LMc28 := Aside0.mk c28
          clear c28
          obtain ⟨y151, hy151⟩ : ∃ y_ : List Int, y_ = (y147 ++ (l1.drop (t139 : Int).toNat)) := ⟨_, rfl⟩
          replace H : (if y151.length + (l1.take (t139 : Int).toNat).length < 17592186044416 then ((sets_Ints.f (y151 ++ (l1.take (t139 : Int).toNat))).bind fun t158 => ((some (([] : List (S27)) : List (S27))).bind fun y161 => (if 0 ≤ t140 then (if t140 ≤ (x7_10.length : Int) then ((some (x7_10.drop (t140 : Int).toNat : List (S27))).bind fun y164 => (if y161.length + y164.length < 8796093022208 then ((some (y161 ++ y164 : List (S27))).bind fun y168 => ((some (x7_10.take (t140 : Int).toNat : List (S27))).bind fun y171 => (if y168.length + y171.length < 8796093022208 then ((sets_Pairs.f (y168 ++ y171)).bind fun t178 => (canopylaw2_SetsRows.l1 kj10 l1 x7_10 t141 t144 t158 t178 1)) else (none)))) else (none))) else (none)) else (none)))) else (none)) = some r := by first | (rw [hy151]; with_reducible exact H) | (have H2_ := (Option.bind_some _ _).symm.trans H; rw [hy151]; with_reducible exact H2_) | (have H2_ := (Option.bind_some _ _).symm.trans H; with_reducible exact H2_) | with_reducible exact H | (rw [hy151]; exact H) | exact H
          have Ny151 := Aside0.mk hy151
          clear hy151
          have c29b0 := eq_true (of_decide_eq_true (by first | (with_reducible assumption) | assumption) : 0 ≤ t139)
          have c30b0 := eq_true (of_decide_eq_true (by first | (with_reducible assumption) | assumption) : t139 ≤ (l1.length : Int))
          by_cases c31 : y151.length + (l1.take (t139 : Int).toNat).length < 17592186044416
          ·rw [if_pos c31] at H
           have LMc31 := Aside0.mk c31
           clear c31
           obtain ⟨y155, hy155⟩ : ∃ y_ : List Int, y_ = (y151 ++ (l1.take (t139 : Int).toNat)) := ⟨_, rfl⟩
           replace H : ((sets_Ints.f y155).bind fun t158 => ((some (([] : List (S27)) : List (S27))).bind fun y161 => (if 0 ≤ t140 then (if t140 ≤ (x7_10.length : Int) then ((some (x7_10.drop (t140 : Int).toNat : List (S27))).bind fun y164 => (if y161.length + y164.length < 8796093022208 then ((some (y161 ++ y164 : List (S27))).bind fun y168 => ((some (x7_10.take (t140 : Int).toNat : List (S27))).bind fun y171 => (if y168.length + y171.length < 8796093022208 then ((sets_Pairs.f (y168 ++ y171)).bind fun t178 => (canopylaw2_SetsRows.l1 kj10 l1 x7_10 t141 t144 t158 t178 1)) else (none)))) else (none))) else (none)) else (none)))) = some r := by first | (rw [hy155]; with_reducible exact H) | (have H2_ := (Option.bind_some _ _).symm.trans H; rw [hy155]; with_reducible exact H2_) | (have H2_ := (Option.bind_some _ _).symm.trans H; with_reducible exact H2_) | with_reducible exact H | (rw [hy155]; exact H) | exact H
           have Ny155 := Aside0.mk hy155
           clear hy155
           replace H := Option.bind_eq_some_iff.mp H
           obtain ⟨t158, A320, H⟩ := H
           replace H : ((some (([] : List (S27)) : List (S27))).bind fun y161 => (if 0 ≤ t140 then (if t140 ≤ (x7_10.length : Int) then ((some (x7_10.drop (t140 : Int).toNat : List (S27))).bind fun y164 => (if y161.length + y164.length < 8796093022208 then ((some (y161 ++ y164 : List (S27))).bind fun y168 => ((some (x7_10.take (t140 : Int).toNat : List (S27))).bind fun y171 => (if y168.length + y171.length < 8796093022208 then ((sets_Pairs.f (y168 ++ y171)).bind fun t178 => (canopylaw2_SetsRows.l1 kj10 l1 x7_10 t141 t144 t158 t178 1)) else (none)))) else (none))) else (none)) else (none))) = some r := H
           have A32 := Aside0.mk A320
           clear A320
           obtain ⟨y161, hy161⟩ : ∃ y_ : List (S27), y_ = (([] : List (S27))) := ⟨_, rfl⟩
           replace H : (if 0 ≤ t140 then (if t140 ≤ (x7_10.length : Int) then ((some (x7_10.drop (t140 : Int).toNat : List (S27))).bind fun y164 => (if y161.length + y164.length < 8796093022208 then ((some (y161 ++ y164 : List (S27))).bind fun y168 => ((some (x7_10.take (t140 : Int).toNat : List (S27))).bind fun y171 => (if y168.length + y171.length < 8796093022208 then ((sets_Pairs.f (y168 ++ y171)).bind fun t178 => (canopylaw2_SetsRows.l1 kj10 l1 x7_10 t141 t144 t158 t178 1)) else (none)))) else (none))) else (none)) else (none)) = some r := by first | (rw [hy161]; with_reducible exact H) | (have H2_ := (Option.bind_some _ _).symm.trans H; rw [hy161]; with_reducible exact H2_) | (have H2_ := (Option.bind_some _ _).symm.trans H; with_reducible exact H2_) | with_reducible exact H | (rw [hy161]; exact H) | exact H
           have Ny161 := Aside0.mk hy161
           clear hy161
           by_cases c33 : 0 ≤ t140
           ·rw [if_pos c33] at H
            have c33b0 := eq_true c33
            have c33b1 : decide (0 ≤ t140) = true := decide_eq_true c33
            clear c33
            by_cases c34 : t140 ≤ (x7_10.length : Int)
            ·rw [if_pos c34] at H
             have c34b0 := eq_true c34
             have c34b1 : decide (t140 ≤ (x7_10.length : Int)) = true := decide_eq_true c34
             clear c34
             obtain ⟨y164, hy164⟩ : ∃ y_ : List (S27), y_ = (x7_10.drop (t140 : Int).toNat) := ⟨_, rfl⟩
             replace H : (if y161.length + y164.length < 8796093022208 then ((some (y161 ++ y164 : List (S27))).bind fun y168 => ((some (x7_10.take (t140 : Int).toNat : List (S27))).bind fun y171 => (if y168.length + y171.length < 8796093022208 then ((sets_Pairs.f (y168 ++ y171)).bind fun t178 => (canopylaw2_SetsRows.l1 kj10 l1 x7_10 t141 t144 t158 t178 1)) else (none)))) else (none)) = some r := by first | (rw [hy164]; with_reducible exact H) | (have H2_ := (Option.bind_some _ _).symm.trans H; rw [hy164]; with_reducible exact H2_) | (have H2_ := (Option.bind_some _ _).symm.trans H; with_reducible exact H2_) | with_reducible exact H | (rw [hy164]; exact H) | exact H
             have Ny164 := Aside0.mk hy164
             clear hy164
             by_cases c35 : y161.length + y164.length < 8796093022208
             ·rw [if_pos c35] at H
              have LMc35 := Aside0.mk c35
              clear c35
              obtain ⟨y168, hy168⟩ : ∃ y_ : List (S27), y_ = (y161 ++ y164) := ⟨_, rfl⟩
              replace H : ((some (x7_10.take (t140 : Int).toNat : List (S27))).bind fun y171 => (if y168.length + y171.length < 8796093022208 then ((sets_Pairs.f (y168 ++ y171)).bind fun t178 => (canopylaw2_SetsRows.l1 kj10 l1 x7_10 t141 t144 t158 t178 1)) else (none))) = some r := by first | (rw [hy168]; with_reducible exact H) | (have H2_ := (Option.bind_some _ _).symm.trans H; rw [hy168]; with_reducible exact H2_) | (have H2_ := (Option.bind_some _ _).symm.trans H; with_reducible exact H2_) | with_reducible exact H | (rw [hy168]; exact H) | exact H
              have Ny168 := Aside0.mk hy168
              clear hy168
              have c36b0 := eq_true (of_decide_eq_true (by first | (with_reducible assumption) | assumption) : 0 ≤ t140)
              have c37b0 := eq_true (of_decide_eq_true (by first | (with_reducible assumption) | assumption) : t140 ≤ (x7_10.length : Int))
              obtain ⟨y171, hy171⟩ : ∃ y_ : List (S27), y_ = (x7_10.take (t140 : Int).toNat) := ⟨_, rfl⟩
              replace H : (if y168.length + y171.length < 8796093022208 then ((sets_Pairs.f (y168 ++ y171)).bind fun t178 => (canopylaw2_SetsRows.l1 kj10 l1 x7_10 t141 t144 t158 t178 1)) else (none)) = some r := by first | (rw [hy171]; with_reducible exact H) | (have H2_ := (Option.bind_some _ _).symm.trans H; rw [hy171]; with_reducible exact H2_) | (have H2_ := (Option.bind_some _ _).symm.trans H; with_reducible exact H2_) | with_reducible exact H | (rw [hy171]; exact H) | exact H
              have Ny171 := Aside0.mk hy171
              clear hy171
              by_cases c38 : y168.length + y171.length < 8796093022208
              ·rw [if_pos c38] at H
               have LMc38 := Aside0.mk c38
               clear c38
               obtain ⟨y175, hy175⟩ : ∃ y_ : List (S27), y_ = (y168 ++ y171) := ⟨_, rfl⟩
               replace H : ((sets_Pairs.f y175).bind fun t178 => (canopylaw2_SetsRows.l1 kj10 l1 x7_10 t141 t144 t158 t178 1)) = some r := by first | (rw [hy175]; with_reducible exact H) | (have H2_ := (Option.bind_some _ _).symm.trans H; rw [hy175]; with_reducible exact H2_) | (have H2_ := (Option.bind_some _ _).symm.trans H; with_reducible exact H2_) | with_reducible exact H | (rw [hy175]; exact H) | exact H
               have Ny175 := Aside0.mk hy175
               clear hy175
               replace H := Option.bind_eq_some_iff.mp H
               obtain ⟨t178, A390, H⟩ := H
               replace H : (canopylaw2_SetsRows.l1 kj10 l1 x7_10 t141 t144 t158 t178 1) = some r := H
               have A39 := Aside0.mk A390
               clear A390
               have H' := Aside0.mk H
               clear H
               try go_wp2_with (first | ((with_reducible refine gate_callee (f := 14) rfl ?_); refine goesL_ (some 56) rfl rfl Try.func14 (by kernel_rfl) rfl #[.int .i64 a2, .int .i64 (wrap64 ((l1.length : Int) + 1))] rfl (by (try simp only [List.map_toArray, List.map_cons, List.map_nil]); first | done | rfl | (simp only [List.length_drop, List.length_take]; rfl)) ?_; (with_reducible refine (canopylaw2_within.calls a2 (wrap64 ((l1.length : Int) + 1)) t139 _ A22.out).mono ?_); rintro e w' ⟨rfl, ⟨nd, rfl⟩⟩; refine ⟨_, rfl, ?_⟩; obtain ⟨Ao40, co40, eo40⟩ := Kd.R_slice HO_7.out; subst eo40) | ((with_reducible refine gate_callee (f := 14) rfl ?_); refine goesL_ (some 61) rfl rfl Try.func14 (by kernel_rfl) rfl #[.int .i64 a2, .int .i64 (wrap64 ((x7_10.length : Int) + 1))] rfl (by (try simp only [List.map_toArray, List.map_cons, List.map_nil]); first | done | rfl | (simp only [List.length_drop, List.length_take]; rfl)) ?_; (with_reducible refine (canopylaw2_within.calls a2 (wrap64 ((x7_10.length : Int) + 1)) t140 _ A23.out).mono ?_); rintro e w' ⟨rfl, ⟨nd, rfl⟩⟩; refine ⟨_, rfl, ?_⟩) | ((with_reducible refine gate_callee (f := 15) rfl ?_); refine goesL_ (some 63) rfl rfl Try.func15 (by kernel_rfl) rfl #[.slice A1 l1.length c1] rfl (by (try simp only [List.map_toArray, List.map_cons, List.map_nil]); first | done | rfl | (simp only [List.length_drop, List.length_take]; rfl)) ?_; (with_reducible refine (sets_Ints.calls _ _ l1 t141 _ ?side1 ?side2 A24.out).mono ?_); (case side1 => repeat (first | exact (Kd.C_below HR1.out (by repeat (first | (with_reducible first | exact HB.out | apply below_alloc | apply pw_below_drewN | apply below_drew1) | exact HB.out))) | (with_reducible refine Kd.C_alloc ?_ _) | (with_reducible refine Kd.C_drewN ?_ _) | (with_reducible refine Kd.C_drew ?_))); (case side2 => exact HC1.out); rintro e w41 ⟨v142, rfl, ho0, hb⟩; refine ⟨_, rfl, ?_⟩; have n0_ := Aside0.mk (Kd.R_below (by (with_reducible repeat (first | apply Kd.R_alloc | apply Kd.R_drewN | apply Kd.R_drew)); exact HO_7.out) hb); have n1_ := Aside0.mk (Kd.V_lower (Kd.V_mono (ok' := fun k_ => some k_ ≠ (.slice Ao40 x7_10.length co40 : Value).ownBlock) ho0 (fun k_ hk_ => (Kd.fresh' (Kd.R_lt (by (with_reducible repeat (first | apply Kd.R_alloc | apply Kd.R_drewN | apply Kd.R_drew)); exact HO_7.out)) k_ hk_))) (below_size (by repeat (first | (with_reducible first | exact HB.out | apply below_alloc | apply pw_below_drewN | apply below_drew1) | exact HB.out)))); have n2_ := Aside0.mk (below_step (by repeat (first | (with_reducible first | exact HB.out | apply below_alloc | apply pw_below_drewN | apply below_drew1) | exact HB.out)) hb); clear HO_7; clear HB; have HO_7 := n0_; have HO143 := n1_; have HB := n2_; clear n0_ n1_ n2_; (try clear hb); (try clear hb2); (try clear hk); (try clear hi); (try clear ho0)) | ((with_reducible refine gate_callee (f := 16) rfl ?_); refine goesL_ (some 65) rfl rfl Try.func16 (by kernel_rfl) rfl #[.slice Ao40 x7_10.length co40] rfl (by (try simp only [List.map_toArray, List.map_cons, List.map_nil]); first | done | rfl | (simp only [List.length_drop, List.length_take]; rfl)) ?_; (with_reducible refine (sets_Pairs.calls _ _ x7_10 t144 _ ?side1 ?side2 A25.out).mono ?_); (case side1 => repeat (first | exact (Kd.R_reads' HO_7.out).2.2 | (with_reducible refine Kd.C_alloc ?_ _) | (with_reducible refine Kd.C_drewN ?_ _) | (with_reducible refine Kd.C_drew ?_))); (case side2 => exact (Kd.R_reads' HO_7.out).2.1); rintro e w42 ⟨v145, rfl, ho0, hb⟩; refine ⟨_, rfl, ?_⟩; have n0_ := Aside0.mk (Kd.R_below (by (with_reducible repeat (first | apply Kd.R_alloc | apply Kd.R_drewN | apply Kd.R_drew)); exact HO_7.out) hb); have n1_ := Aside0.mk (Kd.V_below (by (with_reducible repeat (first | apply Kd.V_alloc | apply Kd.V_drewN | apply Kd.V_drew)); exact HO143.out) hb); have n2_ := Aside0.mk (Kd.V_lower (Kd.V_mono (ok' := fun k_ => some k_ ≠ (.slice Ao40 x7_10.length co40 : Value).ownBlock) ho0 (fun k_ hk_ => (Kd.fresh' (Kd.R_lt (by (with_reducible repeat (first | apply Kd.R_alloc | apply Kd.R_drewN | apply Kd.R_drew)); exact HO_7.out)) k_ hk_))) (below_size (by repeat (first | (with_reducible first | exact HB.out | apply below_alloc | apply pw_below_drewN | apply below_drew1) | exact HB.out)))); have n3_ := Aside0.mk (below_step (by repeat (first | (with_reducible first | exact HB.out | apply below_alloc | apply pw_below_drewN | apply below_drew1) | exact HB.out)) hb); clear HO_7; clear HO143; clear HB; have HO_7 := n0_; have HO143 := n1_; have HO146 := n2_; have HB := n3_; clear n0_ n1_ n2_ n3_; (try clear hb); (try clear hb2); (try clear hk); (try clear hi); (try clear ho0)))
               have n0_ := Aside0.mk (Kd.R_drew HO_7.out)
               have n1_ := Aside0.mk (Kd.V_drew HO143.out)
               have n2_ := Aside0.mk (Kd.V_drew HO146.out)
               have n3_ := Aside0.mk (below_drew1 HB.out)
               clear HO_7
               clear HO143
               clear HO146
               clear HB
               have HO_7 := n0_
               have HO143 := n1_
               have HO146 := n2_
               have HB := n3_
               clear n0_ n1_ n2_ n3_
               obtain ⟨i044, hi044, _, hsz44, _⟩ := info_parts info3
               obtain ⟨A44, hcut44, hA44, hC44⟩ := print_drop_of (P := Try.prog) (Value.int .i64) 0 22 3 .i64 Try.underlying22 hi044 hsz44 A1 c1 l1 t139 (of_decide_eq_true (by first | (with_reducible assumption) | assumption)) (of_decide_eq_true (by first | (with_reducible assumption) | assumption)) HC1.out
               have HR150 := Aside0.mk (Kd.C_of_reads (h1 := fun _ => rfl) (hA44 _ (Kd.reads_of_C HR1.out)))
               have HC150 := Aside0.mk hC44
               clear hA44 hC44 hi044 hsz44
               obtain ⟨i045, hi045, _, hsz45, _⟩ := info_parts info3
               obtain ⟨hcut45, hA45, hC45⟩ := print_take_of (P := Try.prog) (Value.int .i64) 0 22 3 .i64 Try.underlying22 hi045 hsz45 A1 c1 l1 t139 (of_decide_eq_true (by first | (with_reducible assumption) | assumption)) (of_decide_eq_true (by first | (with_reducible assumption) | assumption)) HC1.out
               have HR154 := Aside0.mk (Kd.C_of_reads (h1 := fun _ => rfl) (hA45 _ (Kd.reads_of_C HR1.out)))
               have HC154 := Aside0.mk hC45
               clear hA45 hC45 hi045 hsz45
               refine start_ (n := 11) (S := fun w' => True) (ds := []) #[false, false, false, false, false, false, false, false, false, false, false] (by kernel_rfl) rfl rfl trivial (fun hHeld => ?_); refine with_tabW canopylaw2_SetsRows.tab12 canopylaw2_SetsRows.bits12 (fun HT_ HW_ => ?_)
               generalize w42.drew = w43 at HO_7 HO143 HO146 HB HR150 HR154 hHeld ⊢
               refine pure_ (i := 1) (N := some 67) (v := ?_) (a' := ?_) #[false, true, false, false, false, false, false, false, false, false, false] rfl rfl (any_of HT_.out (by kernel_rfl)) (fun _ _ _ h => h) (Or.inl ⟨by rfl, ?_⟩) ?_ ?_
               rotate_left
               ·intro w'
                go_simp
                with_reducible rfl
               rotate_left
               ·simp only [Act.put, List.setIfInBounds_toArray, List.set_cons_zero, List.set_cons_succ, i64_w, i32_w]
                rfl
               refine pure_ (i := 2) (N := some 68) (v := ?_) (a' := ?_) #[false, true, true, false, false, false, false, false, false, false, false] rfl rfl (any_of HT_.out (by kernel_rfl)) (fun _ _ _ h => h) (Or.inl ⟨by rfl, ?_⟩) ?_ ?_
               rotate_left
               ·intro w'
                go_simp
                with_reducible rfl
               rotate_left
               ·simp only [Act.put, List.setIfInBounds_toArray, List.set_cons_zero, List.set_cons_succ, i64_w, i32_w]
                rfl
               refine pure_ (i := 3) (N := some 69) (v := ?_) (a' := ?_) #[false, true, true, true, false, false, false, false, false, false, false] rfl rfl (any_of HT_.out (by kernel_rfl)) (fun _ _ _ h => h) (Or.inl ⟨by rfl, ?_⟩) ?_ ?_
               rotate_left
               ·intro w'
                go_simp
                with_reducible rfl
               rotate_left
               ·simp only [Act.put, List.setIfInBounds_toArray, List.set_cons_zero, List.set_cons_succ, i64_w, i32_w]
                rfl
               refine pure_ (i := 5) (N := some 71) (v := ?_) (a' := ?_) #[false, true, true, true, false, true, false, false, false, false, false] rfl rfl (any_of HT_.out (by kernel_rfl)) (fun _ _ _ h => h) (Or.inl ⟨by rfl, ?_⟩) ?_ ?_
               rotate_left
               ·intro w'
                go_simp
                with_reducible rfl
               rotate_left
               ·simp only [Act.put, List.setIfInBounds_toArray, List.set_cons_zero, List.set_cons_succ, i64_w, i32_w]
                rfl
               refine pure_ (i := 6) (N := some 72) (v := ?_) (a' := ?_) #[false, true, true, true, false, true, true, false, false, false, false] rfl rfl (any_of HT_.out (by kernel_rfl)) (fun _ _ _ h => h) (Or.inl ⟨by rfl, ?_⟩) ?_ ?_
               rotate_left
               ·intro w'
                go_simp
                with_reducible rfl
               rotate_left
               ·simp only [Act.put, List.setIfInBounds_toArray, List.set_cons_zero, List.set_cons_succ, i64_w, i32_w]
                rfl
               refine pure_ (i := 7) (N := some 73) (v := ?_) (a' := ?_) #[false, true, true, true, false, true, true, true, false, false, false] rfl rfl (any_of HT_.out (by kernel_rfl)) (fun _ _ _ h => h) (Or.inl ⟨by rfl, ?_⟩) ?_ ?_
               rotate_left
               ·intro w'
                go_simp
                with_reducible rfl
               rotate_left
               ·simp only [Act.put, List.setIfInBounds_toArray, List.set_cons_zero, List.set_cons_succ, i64_w, i32_w]
                rfl
               refine one_ (i := 0) (N := some 66) #[true, true, true, true, false, true, true, true, false, false, false] rfl rfl (one_of HT_.out (by kernel_rfl)) (by decide) (fun K hK => ?_)
               refine Kd.R_lit_step (Kd.int .i64) _ 3 ?hg (N := 66) ?hd (xs := ([] : List Int)) (inner := []) (ok := fun _ => True) (okp := fun _ => True) ?hr ?hp (fun _ hk => hk) trivial (Below.refl _ _) (Nat.le_refl _) (by simp) ?_; (case hd => rfl); (case hg => rfl); (case hr => first | (go_simp; done) | (go_simp; rfl)); (case hp => exact (Reps.none _ _))
               intro v148 w46 ho47 hb hg_ hnew_
               clear hg_ hnew_
               (first | rw [← Ny147.out] at ho47 | (simp only [Int.reduceToNat] at ho47; rw [← Ny147.out] at ho47))
               have n0_ := Aside0.mk (Kd.R_below (by (with_reducible repeat (first | apply Kd.R_alloc | apply Kd.R_drewN | apply Kd.R_drew)); exact HO_7.out) hb)
               have n1_ := Aside0.mk (Kd.V_elder' (by (with_reducible repeat (first | apply Kd.V_alloc | apply Kd.V_drewN | apply Kd.V_drew)); exact HO143.out) (Kd.R_base ho47) hb)
               have n2_ := Aside0.mk (Kd.V_elder' (by (with_reducible repeat (first | apply Kd.V_alloc | apply Kd.V_drewN | apply Kd.V_drew)); exact HO146.out) (Kd.R_base ho47) hb)
               have n3_ := Aside0.mk (Kd.R_lower ho47 (below_size (by repeat (first | (with_reducible first | exact HB.out | apply below_alloc | apply pw_below_drewN | apply below_drew1) | exact HB.out))))
               have n4_ := Aside0.mk (below_step (by repeat (first | (with_reducible first | exact HB.out | apply below_alloc | apply pw_below_drewN | apply below_drew1) | exact HB.out)) hb)
               clear HO_7
               clear HO143
               clear HO146
               clear HB
               have HO_7 := n0_
               have HO143 := n1_
               have HO146 := n2_
               have HO149 := n3_
               have HB := n4_
               clear n0_ n1_ n2_ n3_ n4_
               clear hb ho47
               refine hK.out _ _ trivial (fun hHeld => ?_)
               clear hK K
               refine norm_ (a' := ?_) ?_ ?_
               rotate_left
               ·show Act.put _ (some 66) _ = _
                simp only [Act.put, List.setIfInBounds_toArray, List.set_cons_zero, List.set_cons_succ, i64_w, i32_w]
                rfl
               refine one_ (i := 4) (N := some 70) #[true, true, true, true, true, true, true, true, false, false, false] rfl rfl (one_of HT_.out (by kernel_rfl)) (by decide) (fun K hK => ?_)
               refine Kd.R_append_rows_step (Kd.int .i64) (w0 := w) w.heap.size (by rfl) (.tmp 66) (.tmp 69) 22 3 (.int .i64 0) 8 rfl Try.underlying22 info3 rfl (by decide) (by omega) v148 y147 (l1.drop (t139 : Int).toNat) _ _ _ (fun _ => True) (fun _ => False) rfl rfl ?aO ?aR (fun _ _ h => h) (fun _ h => h.elim) ?aF ?aB ?aS ?aL ?_
               (case aR => first | (repeat (first | exact (by have h2_ := (Kd.C_below HR150.out HB.out); rw [show (l1.drop (t139 : Int).toNat).length = (l1.length - t139.toNat) from List.length_drop] at h2_; exact h2_) | (with_reducible refine Kd.C_alloc ?_ _) | (with_reducible refine Kd.C_drewN ?_ _) | (with_reducible refine Kd.C_drew ?_))) | (repeat (first | exact (Kd.C_below HR150.out HB.out) | (with_reducible refine Kd.C_alloc ?_ _) | (with_reducible refine Kd.C_drewN ?_ _) | (with_reducible refine Kd.C_drew ?_))))
               (case aB => exact (by repeat (first | (with_reducible first | exact HB.out | apply below_alloc | apply pw_below_drewN | apply below_drew1) | exact HB.out)))
               (case aF => exact (fun _ _ => trivial))
               (case aO => exact (by (with_reducible repeat (first | apply Kd.R_alloc | apply Kd.R_drewN | apply Kd.R_drew)); exact HO149.out))
               (case aS => exact (below_size (by repeat (first | (with_reducible first | exact HB.out | apply below_alloc | apply pw_below_drewN | apply below_drew1) | exact HB.out))))
               (case aL => have := LMc28.out; have hlx_ := (show (l1.drop (t139 : Int).toNat).length = (l1.length - t139.toNat) from List.length_drop); omega)
               intro v152 w48 ho hb hg hat
               rw [← Ny151.out] at ho
               have n0_ := Aside0.mk (Kd.R_over' (by (with_reducible repeat (first | apply Kd.R_alloc | apply Kd.R_drewN | apply Kd.R_drew)); exact HO_7.out) (Kd.R_typed (by (with_reducible repeat (first | apply Kd.R_alloc | apply Kd.R_drewN | apply Kd.R_drew)); exact HO149.out)) (by decide) hg)
               have n1_ := Aside0.mk (Kd.V_afterv (ok := (fun k_ => some k_ ≠ (.slice Ao40 x7_10.length co40 : Value).ownBlock)) (by (with_reducible repeat (first | apply Kd.V_alloc | apply Kd.V_drewN | apply Kd.V_drew)); exact HO143.out) hg hat)
               have n2_ := Aside0.mk (Kd.V_afterv (ok := (fun k_ => some k_ ≠ (.slice Ao40 x7_10.length co40 : Value).ownBlock)) (by (with_reducible repeat (first | apply Kd.V_alloc | apply Kd.V_drewN | apply Kd.V_drew)); exact HO146.out) hg hat)
               have n3_ := Aside0.mk (hb)
               have n4_ := Aside0.mk (ho)
               clear HO_7
               clear HO143
               clear HO146
               clear HB
               clear HO149
               have HO_7 := n0_
               have HO143 := n1_
               have HO146 := n2_
               have HB := n3_
               have HO153 := n4_
               clear n0_ n1_ n2_ n3_ n4_
               clear ho hb hg hat
               refine hK.out _ _ trivial (fun hHeld => ?_)
               clear hK K
               refine norm_ (a' := ?_) ?_ ?_
               rotate_left
               ·show Act.put _ (some 70) _ = _
                simp only [Act.put, List.setIfInBounds_toArray, List.set_cons_zero, List.set_cons_succ, i64_w, i32_w]
                rfl
               refine one_ (i := 8) (N := some 74) #[true, true, true, true, true, true, true, true, true, false, false] rfl rfl (one_of HT_.out (by kernel_rfl)) (by decide) (fun K hK => ?_)
               refine Kd.R_append_rows_step (Kd.int .i64) (w0 := w) w.heap.size (by rfl) (.tmp 70) (.tmp 73) 22 3 (.int .i64 0) 8 rfl Try.underlying22 info3 rfl (by decide) (by omega) v152 y151 (l1.take (t139 : Int).toNat) _ _ _ (fun _ => True) (fun _ => False) rfl rfl ?aO ?aR (fun _ _ h => h) (fun _ h => h.elim) ?aF ?aB ?aS ?aL ?_
               (case aR => first | (repeat (first | exact (by have h2_ := (Kd.C_below HR154.out HB.out); rw [show (l1.take (t139 : Int).toNat).length = t139.toNat from (by rw [List.length_take]; have h_ : (t139 : Int) ≤ (l1.length : Int) := of_decide_eq_true (by first | (with_reducible assumption) | assumption); omega)] at h2_; exact h2_) | (with_reducible refine Kd.C_alloc ?_ _) | (with_reducible refine Kd.C_drewN ?_ _) | (with_reducible refine Kd.C_drew ?_))) | (repeat (first | exact (Kd.C_below HR154.out HB.out) | (with_reducible refine Kd.C_alloc ?_ _) | (with_reducible refine Kd.C_drewN ?_ _) | (with_reducible refine Kd.C_drew ?_))))
               (case aB => exact (by repeat (first | (with_reducible first | exact HB.out | apply below_alloc | apply pw_below_drewN | apply below_drew1) | exact HB.out)))
               (case aF => exact (fun _ _ => trivial))
               (case aO => exact (by (with_reducible repeat (first | apply Kd.R_alloc | apply Kd.R_drewN | apply Kd.R_drew)); exact HO153.out))
               (case aS => exact (below_size (by repeat (first | (with_reducible first | exact HB.out | apply below_alloc | apply pw_below_drewN | apply below_drew1) | exact HB.out))))
               (case aL => have := LMc31.out; have hlx_ := (show (l1.take (t139 : Int).toNat).length = t139.toNat from (by rw [List.length_take]; have h_ : (t139 : Int) ≤ (l1.length : Int) := of_decide_eq_true (by first | (with_reducible assumption) | assumption); omega)); omega)
               intro v156 w49 ho hb hg hat
               rw [← Ny155.out] at ho
               have n0_ := Aside0.mk (Kd.R_over' (by (with_reducible repeat (first | apply Kd.R_alloc | apply Kd.R_drewN | apply Kd.R_drew)); exact HO_7.out) (Kd.R_typed (by (with_reducible repeat (first | apply Kd.R_alloc | apply Kd.R_drewN | apply Kd.R_drew)); exact HO153.out)) (by decide) hg)
               have n1_ := Aside0.mk (Kd.V_afterv (ok := (fun k_ => some k_ ≠ (.slice Ao40 x7_10.length co40 : Value).ownBlock)) (by (with_reducible repeat (first | apply Kd.V_alloc | apply Kd.V_drewN | apply Kd.V_drew)); exact HO143.out) hg hat)
               have n2_ := Aside0.mk (Kd.V_afterv (ok := (fun k_ => some k_ ≠ (.slice Ao40 x7_10.length co40 : Value).ownBlock)) (by (with_reducible repeat (first | apply Kd.V_alloc | apply Kd.V_drewN | apply Kd.V_drew)); exact HO146.out) hg hat)
               have n3_ := Aside0.mk (hb)
               have n4_ := Aside0.mk (ho)
               clear HO_7
               clear HO143
               clear HO146
               clear HB
               clear HO153
               have HO_7 := n0_
               have HO143 := n1_
               have HO146 := n2_
               have HB := n3_
               have HO157 := n4_
               clear n0_ n1_ n2_ n3_ n4_
               clear ho hb hg hat
               obtain ⟨Ao50, co50, eo50⟩ := Kd.R_slice HO157.out
               (first | subst eo50 | (injection eo50 with f1_ f2_ f3_; have f4_ := f1_.symm; have f5_ := f3_.symm; clear f1_ f2_ f3_; subst f4_; subst f5_))
               refine hK.out _ _ trivial (fun hHeld => ?_)
               clear hK K
               refine norm_ (a' := ?_) ?_ ?_
               rotate_left
               ·show Act.put _ (some 74) _ = _
                simp only [Act.put, List.setIfInBounds_toArray, List.set_cons_zero, List.set_cons_succ, i64_w, i32_w]
                rfl
               refine one_ (i := 9) (N := some 75) #[true, true, true, true, true, true, true, true, true, true, false] rfl rfl (one_of HT_.out (by kernel_rfl)) (by decide) (fun K hK => ?_)
               refine goes_ Try.func15 (by kernel_rfl) rfl #[.slice Ao50 y155.length co50] (by rfl) rfl rfl (by (try simp only [List.map_toArray, List.map_cons, List.map_nil]); first | done | rfl | (simp only [List.length_drop, List.length_take]; rfl)) ?_
               with_reducible refine (sets_Ints.calls _ _ y155 t158 _ ?side1 ?side2 A32.out).mono ?_
               (case side1 => repeat (first | exact (Kd.R_reads' HO157.out).2.2 | (with_reducible refine Kd.C_alloc ?_ _) | (with_reducible refine Kd.C_drewN ?_ _) | (with_reducible refine Kd.C_drew ?_)))
               (case side2 => exact (Kd.R_reads' HO157.out).2.1)
               rintro e w51 ⟨v159, rfl, ho0, hb⟩
               refine ⟨_, rfl, ?_⟩
               have n0_ := Aside0.mk (Kd.R_below (by (with_reducible repeat (first | apply Kd.R_alloc | apply Kd.R_drewN | apply Kd.R_drew)); exact HO_7.out) hb)
               have n1_ := Aside0.mk (Kd.V_below (by (with_reducible repeat (first | apply Kd.V_alloc | apply Kd.V_drewN | apply Kd.V_drew)); exact HO143.out) hb)
               have n2_ := Aside0.mk (Kd.V_below (by (with_reducible repeat (first | apply Kd.V_alloc | apply Kd.V_drewN | apply Kd.V_drew)); exact HO146.out) hb)
               have n3_ := Aside0.mk (Kd.R_below (by (with_reducible repeat (first | apply Kd.R_alloc | apply Kd.R_drewN | apply Kd.R_drew)); exact HO157.out) hb)
               have n4_ := Aside0.mk (Kd.V_lower (Kd.V_mono (ok' := fun k_ => some k_ ≠ (.slice Ao40 x7_10.length co40 : Value).ownBlock ∧ some k_ ≠ (.slice Ao50 y155.length co50 : Value).ownBlock) ho0 (fun k_ hk_ => ⟨(Kd.fresh' (Kd.R_lt (by (with_reducible repeat (first | apply Kd.R_alloc | apply Kd.R_drewN | apply Kd.R_drew)); exact HO_7.out)) k_ hk_), (Kd.fresh' (Kd.R_lt (by (with_reducible repeat (first | apply Kd.R_alloc | apply Kd.R_drewN | apply Kd.R_drew)); exact HO157.out)) k_ hk_)⟩)) (below_size (by repeat (first | (with_reducible first | exact HB.out | apply below_alloc | apply pw_below_drewN | apply below_drew1) | exact HB.out))))
               have n5_ := Aside0.mk (below_step (by repeat (first | (with_reducible first | exact HB.out | apply below_alloc | apply pw_below_drewN | apply below_drew1) | exact HB.out)) hb)
               clear HO_7
               clear HO143
               clear HO146
               clear HO157
               clear HB
               have HO_7 := n0_
               have HO143 := n1_
               have HO146 := n2_
               have HO157 := n3_
               have HO160 := n4_
               have HB := n5_
               clear n0_ n1_ n2_ n3_ n4_ n5_
               (try clear hb)
               (try clear hb2)
               (try clear hk)
               (try clear hi)
               (try clear ho0)
               refine hK.out _ _ trivial (fun hHeld => ?_)
               clear hK K
               refine norm_ (a' := ?_) ?_ ?_
               rotate_left
               ·show Act.put _ (some 75) _ = _
                simp only [Act.put, List.setIfInBounds_toArray, List.set_cons_zero, List.set_cons_succ, i64_w, i32_w]
                rfl
               refine pure_ (i := 10) (N := some 13) (v := ?_) (a' := ?_) #[true, true, true, true, true, true, true, true, true, true, true] rfl rfl (any_of HT_.out (by kernel_rfl)) (fun _ _ _ h => h) (Or.inl ⟨by rfl, ?_⟩) ?_ ?_
               rotate_left
               ·intro w'
                go_simp
                with_reducible rfl
               rotate_left
               ·simp only [Act.put, List.setIfInBounds_toArray, List.set_cons_zero, List.set_cons_succ, i64_w, i32_w]
                rfl
               refine done_ (done_of HT_.out (by kernel_rfl)) ?_
               try go_wp2
               have n0_ := Aside0.mk (Kd.R_drew HO_7.out)
               have n1_ := Aside0.mk (Kd.V_drew HO143.out)
               have n2_ := Aside0.mk (Kd.V_drew HO146.out)
               have n3_ := Aside0.mk (Kd.R_drew HO157.out)
               have n4_ := Aside0.mk (Kd.V_drew HO160.out)
               have n5_ := Aside0.mk (below_drew1 HB.out)
               clear HO_7
               clear HO143
               clear HO146
               clear HO157
               clear HO160
               clear HB
               have HO_7 := n0_
               have HO143 := n1_
               have HO146 := n2_
               have HO157 := n3_
               have HO160 := n4_
               have HB := n5_
               clear n0_ n1_ n2_ n3_ n4_ n5_
               have q53 : (t140 : Int) ≤ ((x7_10.length : Int) : Int) := of_decide_eq_true (by first | (with_reducible assumption) | assumption)
               obtain ⟨i053, hi053, _, hsz53, _⟩ := info_parts info27
               have hroom53 : x7_10.length ≤ co40 := (Kd.R_reads' HO_7.out).2.1
               have hC53 : Kd.C k27 _ Ao40 x7_10.length x7_10 := (Kd.R_reads' HO_7.out).2.2
               have q053 : (0 : Int) ≤ (t140 : Int) := of_decide_eq_true (by first | (with_reducible assumption) | assumption)
               have hcut53 := cut_from (P := Try.prog) 24 27 .i64 Try.underlying24 hi053 2 hsz53 Ao40 x7_10.length co40 t140 q053 q53
               have hr53 := Kd.C_drop (m := (t140 : Int).toNat) (c := co40) hC53 (by omega) hroom53
               obtain ⟨A53, hA53⟩ : ∃ A1, A1 = (if co40 = (t140 : Int).toNat then Ao40 else (Ao40 : Option Addr).map (·.add ((t140 : Int).toNat * 2))) := ⟨_, rfl⟩
               obtain ⟨c53, hc53⟩ : ∃ c1, c1 = co40 - (t140 : Int).toNat := ⟨_, rfl⟩
               have hy53 : y164.length = x7_10.length - (t140 : Int).toNat := (by rw [Ny164.out, List.length_drop] <;> omega)
               rw [show (x7_10).drop (t140 : Int).toNat = y164 from Ny164.out.symm] at hr53
               replace hr53 : Kd.C k27 _ A53 y164.length y164 := (by rw [hA53]; exact hr53)
               rw [← hy53, ← hA53, ← hc53] at hcut53
               have HR167 := Aside0.mk hr53
               have HC167 := Aside0.mk (show y164.length ≤ c53 from by rw [hy53, hc53]; exact Nat.sub_le_sub_right hroom53 _)
               clear hr53 hC53 hroom53 hi053 hsz53 hc53
               have KY53 := Aside0.mk hy53
               have KA53 := Aside0.mk hA53
               clear hy53 hA53
               have KL53 := Aside0.mk (show (t140 : Int).toNat ≤ x7_10.length from by omega)
               replace q53 := eq_true q53
               have q54 : (t140 : Int) ≤ ((x7_10.length : Int) : Int) := of_decide_eq_true (by first | (with_reducible assumption) | assumption)
               obtain ⟨i054, hi054, _, hsz54, _⟩ := info_parts info27
               have hroom54 : x7_10.length ≤ co40 := (Kd.R_reads' HO_7.out).2.1
               have hC54 : Kd.C k27 _ Ao40 x7_10.length x7_10 := (Kd.R_reads' HO_7.out).2.2
               have hcut54 := cut_to (P := Try.prog) 24 27 .i64 Try.underlying24 hi054 Ao40 x7_10.length co40 t140 (of_decide_eq_true (by first | (with_reducible assumption) | assumption)) q54 hroom54
               have hr54 := Kd.C_take (m := (t140 : Int).toNat) hC54 (by omega)
               have hy54 : y171.length = (t140 : Int).toNat := (by rw [Ny171.out, List.length_take]; omega)
               rw [← Ny171.out] at hr54
               rw [← hy54] at hcut54
               have HR174 := Aside0.mk hr54
               have HC174 := Aside0.mk (show y171.length ≤ co40 from by omega)
               clear hr54 hC54 hroom54 hi054 hsz54
               have KY54 := Aside0.mk hy54
               clear hy54
               have KL54 := Aside0.mk (show (t140 : Int).toNat ≤ x7_10.length from by omega)
               replace q54 := eq_true q54
               refine start_ (n := 11) (S := fun w' => True) (ds := []) #[false, false, false, false, false, false, false, false, false, false, false] (by kernel_rfl) rfl rfl trivial (fun hHeld => ?_); refine with_tabW canopylaw2_SetsRows.tab13 canopylaw2_SetsRows.bits13 (fun HT_ HW_ => ?_)
               generalize w51.drew = w52 at HO_7 HO143 HO146 HO157 HO160 HB HR167 HR174 hHeld ⊢
               refine pure_ (i := 1) (N := some 77) (v := ?_) (a' := ?_) #[false, true, false, false, false, false, false, false, false, false, false] rfl rfl (any_of HT_.out (by kernel_rfl)) (fun _ _ _ h => h) (Or.inl ⟨by rfl, ?_⟩) ?_ ?_
               rotate_left
               ·intro w'
                go_simp
                with_reducible rfl
               rotate_left
               ·simp only [Act.put, List.setIfInBounds_toArray, List.set_cons_zero, List.set_cons_succ, i64_w, i32_w]
                rfl
               refine pure_ (i := 2) (N := some 78) (v := ?_) (a' := ?_) #[false, true, true, false, false, false, false, false, false, false, false] rfl rfl (any_of HT_.out (by kernel_rfl)) (fun _ _ _ h => h) (Or.inl ⟨by rfl, ?_⟩) ?_ ?_
               rotate_left
               ·intro w'
                go_simp
                with_reducible rfl
               rotate_left
               ·simp only [Act.put, List.setIfInBounds_toArray, List.set_cons_zero, List.set_cons_succ, i64_w, i32_w]
                rfl
               refine pure_ (i := 3) (N := some 79) (v := ?_) (a' := ?_) #[false, true, true, true, false, false, false, false, false, false, false] rfl rfl (any_of HT_.out (by kernel_rfl)) (fun _ _ _ h => h) (Or.inl ⟨by rfl, ?_⟩) ?_ ?_
               rotate_left
               ·intro w'
                go_simp
                with_reducible rfl
               rotate_left
               ·simp only [Act.put, List.setIfInBounds_toArray, List.set_cons_zero, List.set_cons_succ, i64_w, i32_w]
                rfl
               refine pure_ (i := 5) (N := some 81) (v := ?_) (a' := ?_) #[false, true, true, true, false, true, false, false, false, false, false] rfl rfl (any_of HT_.out (by kernel_rfl)) (fun _ _ _ h => h) (Or.inl ⟨by rfl, ?_⟩) ?_ ?_
               rotate_left
               ·intro w'
                go_simp
                with_reducible rfl
               rotate_left
               ·simp only [Act.put, List.setIfInBounds_toArray, List.set_cons_zero, List.set_cons_succ, i64_w, i32_w]
                rfl
               refine pure_ (i := 6) (N := some 82) (v := ?_) (a' := ?_) #[false, true, true, true, false, true, true, false, false, false, false] rfl rfl (any_of HT_.out (by kernel_rfl)) (fun _ _ _ h => h) (Or.inl ⟨by rfl, ?_⟩) ?_ ?_
               rotate_left
               ·intro w'
                go_simp
                with_reducible rfl
               rotate_left
               ·simp only [Act.put, List.setIfInBounds_toArray, List.set_cons_zero, List.set_cons_succ, i64_w, i32_w]
                rfl
               refine pure_ (i := 7) (N := some 83) (v := ?_) (a' := ?_) #[false, true, true, true, false, true, true, true, false, false, false] rfl rfl (any_of HT_.out (by kernel_rfl)) (fun _ _ _ h => h) (Or.inl ⟨by rfl, ?_⟩) ?_ ?_
               rotate_left
               ·intro w'
                go_simp
                with_reducible rfl
               rotate_left
               ·simp only [Act.put, List.setIfInBounds_toArray, List.set_cons_zero, List.set_cons_succ, i64_w, i32_w]
                rfl
               refine one_ (i := 0) (N := some 76) #[true, true, true, true, false, true, true, true, false, false, false] rfl rfl (one_of HT_.out (by kernel_rfl)) (by decide) (fun K hK => ?_)
               refine Kd.R_lit_step k27 _ 27 ?hg (N := 76) ?hd (xs := ([] : List (S27))) (inner := []) (ok := fun _ => True) (okp := fun _ => True) ?hr ?hp (fun _ hk => hk) trivial (Below.refl _ _) (Nat.le_refl _) (by simp) ?_; (case hd => rfl); (case hg => rfl); (case hr => first | (go_simp; done) | (go_simp; rfl)); (case hp => exact (Reps.none _ _))
               intro v162 w55 ho56 hb hg_ hnew_
               clear hg_ hnew_
               (first | rw [← Ny161.out] at ho56 | (simp only [Int.reduceToNat] at ho56; rw [← Ny161.out] at ho56))
               have n0_ := Aside0.mk (Kd.R_elder' (by (with_reducible repeat (first | apply Kd.R_alloc | apply Kd.R_drewN | apply Kd.R_drew)); exact HO_7.out) (Kd.R_base ho56) hb)
               have n1_ := Aside0.mk (Kd.V_elder' (by (with_reducible repeat (first | apply Kd.V_alloc | apply Kd.V_drewN | apply Kd.V_drew)); exact HO143.out) (Kd.R_base ho56) hb)
               have n2_ := Aside0.mk (Kd.V_elder' (by (with_reducible repeat (first | apply Kd.V_alloc | apply Kd.V_drewN | apply Kd.V_drew)); exact HO146.out) (Kd.R_base ho56) hb)
               have n3_ := Aside0.mk (Kd.R_below (by (with_reducible repeat (first | apply Kd.R_alloc | apply Kd.R_drewN | apply Kd.R_drew)); exact HO157.out) hb)
               have n4_ := Aside0.mk (Kd.V_elder' (by (with_reducible repeat (first | apply Kd.V_alloc | apply Kd.V_drewN | apply Kd.V_drew)); exact HO160.out) (Kd.R_base ho56) hb)
               have n5_ := Aside0.mk (Kd.R_lower (Kd.R_new' ho56 (Kd.R_lt (by (with_reducible repeat (first | apply Kd.R_alloc | apply Kd.R_drewN | apply Kd.R_drew)); exact HO_7.out))) (below_size (by repeat (first | (with_reducible first | exact HB.out | apply below_alloc | apply pw_below_drewN | apply below_drew1) | exact HB.out))))
               have n6_ := Aside0.mk (Kd.C_below (by repeat (first | (with_reducible exact HR167.out) | (with_reducible refine Kd.C_alloc ?_ _) | (with_reducible refine Kd.C_drewN ?_ _) | (with_reducible refine Kd.C_drew ?_) | exact HR167.out)) hb)
               have n7_ := Aside0.mk (Kd.C_below (by repeat (first | (with_reducible exact HR174.out) | (with_reducible refine Kd.C_alloc ?_ _) | (with_reducible refine Kd.C_drewN ?_ _) | (with_reducible refine Kd.C_drew ?_) | exact HR174.out)) hb)
               have n8_ := Aside0.mk (below_step (by repeat (first | (with_reducible first | exact HB.out | apply below_alloc | apply pw_below_drewN | apply below_drew1) | exact HB.out)) hb)
               clear HO_7
               clear HO143
               clear HO146
               clear HO157
               clear HO160
               clear HR167
               clear HR174
               clear HB
               have HO_7 := n0_
               have HO143 := n1_
               have HO146 := n2_
               have HO157 := n3_
               have HO160 := n4_
               have HO163 := n5_
               have HR167 := n6_
               have HR174 := n7_
               have HB := n8_
               clear n0_ n1_ n2_ n3_ n4_ n5_ n6_ n7_ n8_
               clear hb ho56
               refine hK.out _ _ trivial (fun hHeld => ?_)
               clear hK K
               refine norm_ (a' := ?_) ?_ ?_
               rotate_left
               ·show Act.put _ (some 76) _ = _
                simp only [Act.put, List.setIfInBounds_toArray, List.set_cons_zero, List.set_cons_succ, i64_w, i32_w]
                rfl
               refine one_ (i := 4) (N := some 80) #[true, true, true, true, true, true, true, true, false, false, false] rfl rfl (one_of HT_.out (by kernel_rfl)) (by decide) (fun K hK => ?_)
               refine Kd.R_append_rows_step k27 (w0 := w) w.heap.size (by rfl) (.tmp 76) (.tmp 79) 24 27 (.agg #[(.int .i64 0), (.int .i64 0)]) 16 rfl Try.underlying24 info27 rfl (by decide) (by omega) v162 y161 y164 _ _ _ (fun k_ => some k_ ≠ (.slice Ao40 x7_10.length co40 : Value).ownBlock) (fun _ => False) rfl rfl ?aO ?aR (fun _ _ h => h) (fun _ h => h.elim) ?aF ?aB ?aS ?aL ?_
               (case aR => repeat (first | exact (by repeat (first | (with_reducible exact HR167.out) | (with_reducible refine Kd.C_alloc ?_ _) | (with_reducible refine Kd.C_drewN ?_ _) | (with_reducible refine Kd.C_drew ?_) | exact HR167.out)) | (with_reducible refine Kd.C_alloc ?_ _) | (with_reducible refine Kd.C_drewN ?_ _) | (with_reducible refine Kd.C_drew ?_)))
               (case aB => exact (by repeat (first | (with_reducible first | exact HB.out | apply below_alloc | apply pw_below_drewN | apply below_drew1) | exact HB.out)))
               (case aF => exact (fun k_ hk => Kd.fresh' (Kd.R_lt (by (with_reducible repeat (first | apply Kd.R_alloc | apply Kd.R_drewN | apply Kd.R_drew)); exact HO_7.out)) k_ hk))
               (case aO => exact (by (with_reducible repeat (first | apply Kd.R_alloc | apply Kd.R_drewN | apply Kd.R_drew)); exact Kd.R_mono HO163.out (fun _ hk => hk.2)))
               (case aS => exact (below_size (by repeat (first | (with_reducible first | exact HB.out | apply below_alloc | apply pw_below_drewN | apply below_drew1) | exact HB.out))))
               (case aL => have := LMc35.out; omega)
               intro v169 w57 ho hb hg hat
               rw [← Ny168.out] at ho
               have n0_ := Aside0.mk (Kd.R_after (ok := (fun _ => True)) (by (with_reducible repeat (first | apply Kd.R_alloc | apply Kd.R_drewN | apply Kd.R_drew)); exact HO_7.out) hg hat)
               have n1_ := Aside0.mk (Kd.V_afterv (ok := (fun k_ => some k_ ≠ (.slice Ao40 x7_10.length co40 : Value).ownBlock ∧ some k_ ≠ (.slice Ao50 y155.length co50 : Value).ownBlock)) (by (with_reducible repeat (first | apply Kd.V_alloc | apply Kd.V_drewN | apply Kd.V_drew)); exact HO143.out) hg hat)
               have n2_ := Aside0.mk (Kd.V_afterv (ok := (fun k_ => some k_ ≠ (.slice Ao40 x7_10.length co40 : Value).ownBlock ∧ some k_ ≠ (.slice Ao50 y155.length co50 : Value).ownBlock)) (by (with_reducible repeat (first | apply Kd.V_alloc | apply Kd.V_drewN | apply Kd.V_drew)); exact HO146.out) hg hat)
               have n3_ := Aside0.mk (Kd.R_over' (by (with_reducible repeat (first | apply Kd.R_alloc | apply Kd.R_drewN | apply Kd.R_drew)); exact HO157.out) (Kd.R_typed (by (with_reducible repeat (first | apply Kd.R_alloc | apply Kd.R_drewN | apply Kd.R_drew)); exact HO163.out)) (by decide) hg)
               have n4_ := Aside0.mk (Kd.V_afterv (ok := (fun k_ => some k_ ≠ (.slice Ao40 x7_10.length co40 : Value).ownBlock ∧ some k_ ≠ (.slice Ao50 y155.length co50 : Value).ownBlock)) (by (with_reducible repeat (first | apply Kd.V_alloc | apply Kd.V_drewN | apply Kd.V_drew)); exact HO160.out) hg hat)
               have n5_ := Aside0.mk (hb)
               have n6_ := Aside0.mk ((show Kd.C k27 w57 A53 y164.length y164 from by rw [Ny164.out, KA53.out]; exact Kd.C_drop (m := (t140 : Int).toNat) (c := co40) ((Kd.R_reads' (Kd.R_after (ok := (fun _ => True)) (by (with_reducible repeat (first | apply Kd.R_alloc | apply Kd.R_drewN | apply Kd.R_drew)); exact HO_7.out) hg hat)).2.2) KL53.out ((Kd.R_reads' (Kd.R_after (ok := (fun _ => True)) (by (with_reducible repeat (first | apply Kd.R_alloc | apply Kd.R_drewN | apply Kd.R_drew)); exact HO_7.out) hg hat)).2.1)))
               have n7_ := Aside0.mk ((show Kd.C k27 w57 Ao40 y171.length y171 from by rw [Ny171.out]; exact Kd.C_take (m := (t140 : Int).toNat) ((Kd.R_reads' (Kd.R_after (ok := (fun _ => True)) (by (with_reducible repeat (first | apply Kd.R_alloc | apply Kd.R_drewN | apply Kd.R_drew)); exact HO_7.out) hg hat)).2.2) KL54.out))
               have n8_ := Aside0.mk (ho)
               clear HO_7
               clear HO143
               clear HO146
               clear HO157
               clear HO160
               clear HB
               clear HR167
               clear HR174
               clear HO163
               have HO_7 := n0_
               have HO143 := n1_
               have HO146 := n2_
               have HO157 := n3_
               have HO160 := n4_
               have HB := n5_
               have HR167 := n6_
               have HR174 := n7_
               have HO170 := n8_
               clear n0_ n1_ n2_ n3_ n4_ n5_ n6_ n7_ n8_
               clear ho hb hg hat
               refine hK.out _ _ trivial (fun hHeld => ?_)
               clear hK K
               refine norm_ (a' := ?_) ?_ ?_
               rotate_left
               ·show Act.put _ (some 80) _ = _
                simp only [Act.put, List.setIfInBounds_toArray, List.set_cons_zero, List.set_cons_succ, i64_w, i32_w]
                rfl
               refine one_ (i := 8) (N := some 84) #[true, true, true, true, true, true, true, true, true, false, false] rfl rfl (one_of HT_.out (by kernel_rfl)) (by decide) (fun K hK => ?_)
               refine Kd.R_append_rows_step k27 (w0 := w) w.heap.size (by rfl) (.tmp 80) (.tmp 83) 24 27 (.agg #[(.int .i64 0), (.int .i64 0)]) 16 rfl Try.underlying24 info27 rfl (by decide) (by omega) v169 y168 y171 _ _ _ (fun k_ => some k_ ≠ (.slice Ao40 x7_10.length co40 : Value).ownBlock) (fun _ => False) rfl rfl ?aO ?aR (fun _ _ h => h) (fun _ h => h.elim) ?aF ?aB ?aS ?aL ?_
               (case aR => repeat (first | exact (by repeat (first | (with_reducible exact HR174.out) | (with_reducible refine Kd.C_alloc ?_ _) | (with_reducible refine Kd.C_drewN ?_ _) | (with_reducible refine Kd.C_drew ?_) | exact HR174.out)) | (with_reducible refine Kd.C_alloc ?_ _) | (with_reducible refine Kd.C_drewN ?_ _) | (with_reducible refine Kd.C_drew ?_)))
               (case aB => exact (by repeat (first | (with_reducible first | exact HB.out | apply below_alloc | apply pw_below_drewN | apply below_drew1) | exact HB.out)))
               (case aF => exact (fun k_ hk => Kd.fresh' (Kd.R_lt (by (with_reducible repeat (first | apply Kd.R_alloc | apply Kd.R_drewN | apply Kd.R_drew)); exact HO_7.out)) k_ hk))
               (case aO => exact (by (with_reducible repeat (first | apply Kd.R_alloc | apply Kd.R_drewN | apply Kd.R_drew)); exact HO170.out))
               (case aS => exact (below_size (by repeat (first | (with_reducible first | exact HB.out | apply below_alloc | apply pw_below_drewN | apply below_drew1) | exact HB.out))))
               (case aL => have := LMc38.out; omega)
               intro v176 w58 ho hb hg hat
               rw [← Ny175.out] at ho
               have n0_ := Aside0.mk (Kd.R_after (ok := (fun _ => True)) (by (with_reducible repeat (first | apply Kd.R_alloc | apply Kd.R_drewN | apply Kd.R_drew)); exact HO_7.out) hg hat)
               have n1_ := Aside0.mk (Kd.V_afterv (ok := (fun k_ => some k_ ≠ (.slice Ao40 x7_10.length co40 : Value).ownBlock ∧ some k_ ≠ (.slice Ao50 y155.length co50 : Value).ownBlock)) (by (with_reducible repeat (first | apply Kd.V_alloc | apply Kd.V_drewN | apply Kd.V_drew)); exact HO143.out) hg hat)
               have n2_ := Aside0.mk (Kd.V_afterv (ok := (fun k_ => some k_ ≠ (.slice Ao40 x7_10.length co40 : Value).ownBlock ∧ some k_ ≠ (.slice Ao50 y155.length co50 : Value).ownBlock)) (by (with_reducible repeat (first | apply Kd.V_alloc | apply Kd.V_drewN | apply Kd.V_drew)); exact HO146.out) hg hat)
               have n3_ := Aside0.mk (Kd.R_over' (by (with_reducible repeat (first | apply Kd.R_alloc | apply Kd.R_drewN | apply Kd.R_drew)); exact HO157.out) (Kd.R_typed (by (with_reducible repeat (first | apply Kd.R_alloc | apply Kd.R_drewN | apply Kd.R_drew)); exact HO170.out)) (by decide) hg)
               have n4_ := Aside0.mk (Kd.V_afterv (ok := (fun k_ => some k_ ≠ (.slice Ao40 x7_10.length co40 : Value).ownBlock ∧ some k_ ≠ (.slice Ao50 y155.length co50 : Value).ownBlock)) (by (with_reducible repeat (first | apply Kd.V_alloc | apply Kd.V_drewN | apply Kd.V_drew)); exact HO160.out) hg hat)
               have n5_ := Aside0.mk (hb)
               have n6_ := Aside0.mk ((show Kd.C k27 w58 A53 y164.length y164 from by rw [Ny164.out, KA53.out]; exact Kd.C_drop (m := (t140 : Int).toNat) (c := co40) ((Kd.R_reads' (Kd.R_after (ok := (fun _ => True)) (by (with_reducible repeat (first | apply Kd.R_alloc | apply Kd.R_drewN | apply Kd.R_drew)); exact HO_7.out) hg hat)).2.2) KL53.out ((Kd.R_reads' (Kd.R_after (ok := (fun _ => True)) (by (with_reducible repeat (first | apply Kd.R_alloc | apply Kd.R_drewN | apply Kd.R_drew)); exact HO_7.out) hg hat)).2.1)))
               have n7_ := Aside0.mk ((show Kd.C k27 w58 Ao40 y171.length y171 from by rw [Ny171.out]; exact Kd.C_take (m := (t140 : Int).toNat) ((Kd.R_reads' (Kd.R_after (ok := (fun _ => True)) (by (with_reducible repeat (first | apply Kd.R_alloc | apply Kd.R_drewN | apply Kd.R_drew)); exact HO_7.out) hg hat)).2.2) KL54.out))
               have n8_ := Aside0.mk (ho)
               clear HO_7
               clear HO143
               clear HO146
               clear HO157
               clear HO160
               clear HB
               clear HR167
               clear HR174
               clear HO170
               have HO_7 := n0_
               have HO143 := n1_
               have HO146 := n2_
               have HO157 := n3_
               have HO160 := n4_
               have HB := n5_
               have HR167 := n6_
               have HR174 := n7_
               have HO177 := n8_
               clear n0_ n1_ n2_ n3_ n4_ n5_ n6_ n7_ n8_
               clear ho hb hg hat
               obtain ⟨Ao59, co59, eo59⟩ := Kd.R_slice HO177.out
               (first | subst eo59 | (injection eo59 with f1_ f2_ f3_; have f4_ := f1_.symm; have f5_ := f3_.symm; clear f1_ f2_ f3_; subst f4_; subst f5_))
               refine hK.out _ _ trivial (fun hHeld => ?_)
               clear hK K
               refine norm_ (a' := ?_) ?_ ?_
               rotate_left
               ·show Act.put _ (some 84) _ = _
                simp only [Act.put, List.setIfInBounds_toArray, List.set_cons_zero, List.set_cons_succ, i64_w, i32_w]
                rfl
               refine one_ (i := 9) (N := some 85) #[true, true, true, true, true, true, true, true, true, true, false] rfl rfl (one_of HT_.out (by kernel_rfl)) (by decide) (fun K hK => ?_)
               refine goes_ Try.func16 (by kernel_rfl) rfl #[.slice Ao59 y175.length co59] (by rfl) rfl rfl (by (try simp only [List.map_toArray, List.map_cons, List.map_nil]); first | done | rfl | (simp only [List.length_drop, List.length_take]; rfl)) ?_
               with_reducible refine (sets_Pairs.calls _ _ y175 t178 _ ?side1 ?side2 A39.out).mono ?_
               (case side1 => repeat (first | exact (Kd.R_reads' HO177.out).2.2 | (with_reducible refine Kd.C_alloc ?_ _) | (with_reducible refine Kd.C_drewN ?_ _) | (with_reducible refine Kd.C_drew ?_)))
               (case side2 => exact (Kd.R_reads' HO177.out).2.1)
               rintro e w60 ⟨v179, rfl, ho0, hb⟩
               refine ⟨_, rfl, ?_⟩
               have n0_ := Aside0.mk (Kd.R_below (by (with_reducible repeat (first | apply Kd.R_alloc | apply Kd.R_drewN | apply Kd.R_drew)); exact HO_7.out) hb)
               have n1_ := Aside0.mk (Kd.V_below (by (with_reducible repeat (first | apply Kd.V_alloc | apply Kd.V_drewN | apply Kd.V_drew)); exact HO143.out) hb)
               have n2_ := Aside0.mk (Kd.V_below (by (with_reducible repeat (first | apply Kd.V_alloc | apply Kd.V_drewN | apply Kd.V_drew)); exact HO146.out) hb)
               have n3_ := Aside0.mk (Kd.R_below (by (with_reducible repeat (first | apply Kd.R_alloc | apply Kd.R_drewN | apply Kd.R_drew)); exact HO157.out) hb)
               have n4_ := Aside0.mk (Kd.V_below (by (with_reducible repeat (first | apply Kd.V_alloc | apply Kd.V_drewN | apply Kd.V_drew)); exact HO160.out) hb)
               have n5_ := Aside0.mk (Kd.R_below (by (with_reducible repeat (first | apply Kd.R_alloc | apply Kd.R_drewN | apply Kd.R_drew)); exact HO177.out) hb)
               have n6_ := Aside0.mk (Kd.V_lower (Kd.V_mono (ok' := fun k_ => some k_ ≠ (.slice Ao40 x7_10.length co40 : Value).ownBlock ∧ some k_ ≠ (.slice Ao50 y155.length co50 : Value).ownBlock ∧ some k_ ≠ (.slice Ao59 y175.length co59 : Value).ownBlock) ho0 (fun k_ hk_ => ⟨(Kd.fresh' (Kd.R_lt (by (with_reducible repeat (first | apply Kd.R_alloc | apply Kd.R_drewN | apply Kd.R_drew)); exact HO_7.out)) k_ hk_), (Kd.fresh' (Kd.R_lt (by (with_reducible repeat (first | apply Kd.R_alloc | apply Kd.R_drewN | apply Kd.R_drew)); exact HO157.out)) k_ hk_), (Kd.fresh' (Kd.R_lt (by (with_reducible repeat (first | apply Kd.R_alloc | apply Kd.R_drewN | apply Kd.R_drew)); exact HO177.out)) k_ hk_)⟩)) (below_size (by repeat (first | (with_reducible first | exact HB.out | apply below_alloc | apply pw_below_drewN | apply below_drew1) | exact HB.out))))
               have n7_ := Aside0.mk (Kd.C_below (by repeat (first | (with_reducible exact HR167.out) | (with_reducible refine Kd.C_alloc ?_ _) | (with_reducible refine Kd.C_drewN ?_ _) | (with_reducible refine Kd.C_drew ?_) | exact HR167.out)) hb)
               have n8_ := Aside0.mk (Kd.C_below (by repeat (first | (with_reducible exact HR174.out) | (with_reducible refine Kd.C_alloc ?_ _) | (with_reducible refine Kd.C_drewN ?_ _) | (with_reducible refine Kd.C_drew ?_) | exact HR174.out)) hb)
               have n9_ := Aside0.mk (below_step (by repeat (first | (with_reducible first | exact HB.out | apply below_alloc | apply pw_below_drewN | apply below_drew1) | exact HB.out)) hb)
               clear HO_7
               clear HO143
               clear HO146
               clear HO157
               clear HO160
               clear HO177
               clear HR167
               clear HR174
               clear HB
               have HO_7 := n0_
               have HO143 := n1_
               have HO146 := n2_
               have HO157 := n3_
               have HO160 := n4_
               have HO177 := n5_
               have HO180 := n6_
               have HR167 := n7_
               have HR174 := n8_
               have HB := n9_
               clear n0_ n1_ n2_ n3_ n4_ n5_ n6_ n7_ n8_ n9_
               (try clear hb)
               (try clear hb2)
               (try clear hk)
               (try clear hi)
               (try clear ho0)
               refine hK.out _ _ trivial (fun hHeld => ?_)
               clear hK K
               refine norm_ (a' := ?_) ?_ ?_
               rotate_left
               ·show Act.put _ (some 85) _ = _
                simp only [Act.put, List.setIfInBounds_toArray, List.set_cons_zero, List.set_cons_succ, i64_w, i32_w]
                rfl
               refine pure_ (i := 10) (N := some 14) (v := ?_) (a' := ?_) #[true, true, true, true, true, true, true, true, true, true, true] rfl rfl (any_of HT_.out (by kernel_rfl)) (fun _ _ _ h => h) (Or.inl ⟨by rfl, ?_⟩) ?_ ?_
               rotate_left
               ·intro w'
                go_simp
                with_reducible rfl
               rotate_left
               ·simp only [Act.put, List.setIfInBounds_toArray, List.set_cons_zero, List.set_cons_succ, i64_w, i32_w]
                rfl
               refine done_ (done_of HT_.out (by kernel_rfl)) ?_
               try go_wp2
               go_loopg [15] kj10 (fun kq v15 w' => ∃ (x15_3 : Int), v15 = .int .i64 x15_3 ∧ Aside0 (canopylaw2_SetsRows.l1 kq l1 x7_10 t141 t144 t158 t178 x15_3 = some r) ∧ Aside0 (kq ≤ kj10) ∧ Aside0 (Kd.R k27 27 w' w.heap.size (fun _ => True) (.slice Ao40 x7_10.length co40) x7_10) ∧ Aside0 (Kd.V (Kd.int .i64) 3 w' w.heap.size (fun k_ => some k_ ≠ ((.slice Ao40 x7_10.length co40) : Value).ownBlock) v142 t141) ∧ Aside0 (Kd.V k27 27 w' w.heap.size (fun k_ => some k_ ≠ ((.slice Ao40 x7_10.length co40) : Value).ownBlock) v145 t144) ∧ Aside0 (Kd.V (Kd.int .i64) 3 w' w.heap.size (fun k_ => some k_ ≠ ((.slice Ao40 x7_10.length co40) : Value).ownBlock) v159 t158) ∧ Aside0 (Kd.V k27 27 w' w.heap.size (fun k_ => some k_ ≠ ((.slice Ao40 x7_10.length co40) : Value).ownBlock) v179 t178) ∧ Aside0 (Kd.C k27 w' A53 y164.length y164) ∧ Aside0 (Kd.C k27 w' Ao40 y171.length y171) ∧ Aside0 (Below w.heap.size w w'))
               case atStart => exact ⟨(1), (by first | rfl | (simp; done) | (simp [*]; done)), H', ⟨Nat.le_refl _⟩, ⟨by (with_reducible repeat (first | apply Kd.R_alloc | apply Kd.R_drewN | apply Kd.R_drew)); exact Kd.R_mono HO_7.out (fun _ hk => trivial)⟩, ⟨by (with_reducible repeat (first | apply Kd.V_alloc | apply Kd.V_drewN | apply Kd.V_drew)); exact Kd.V_mono HO143.out (fun _ hk => hk.1.1)⟩, ⟨by (with_reducible repeat (first | apply Kd.V_alloc | apply Kd.V_drewN | apply Kd.V_drew)); exact Kd.V_mono HO146.out (fun _ hk => hk.1.1)⟩, ⟨by (with_reducible repeat (first | apply Kd.V_alloc | apply Kd.V_drewN | apply Kd.V_drew)); exact Kd.V_mono HO160.out (fun _ hk => hk.1.1)⟩, ⟨by (with_reducible repeat (first | apply Kd.V_alloc | apply Kd.V_drewN | apply Kd.V_drew)); exact Kd.V_mono HO180.out (fun _ hk => hk.1)⟩, ⟨by repeat (first | (with_reducible exact HR167.out) | (with_reducible refine Kd.C_alloc ?_ _) | (with_reducible refine Kd.C_drewN ?_ _) | (with_reducible refine Kd.C_drew ?_) | exact HR167.out)⟩, ⟨by repeat (first | (with_reducible exact HR174.out) | (with_reducible refine Kd.C_alloc ?_ _) | (with_reducible refine Kd.C_drewN ?_ _) | (with_reducible refine Kd.C_drew ?_) | exact HR174.out)⟩, ⟨by repeat (first | (with_reducible first | exact HB.out | apply below_alloc | apply pw_below_drewN | apply below_drew1) | exact HB.out)⟩⟩
               case round =>
                clear H'
                try clear c1
                try clear c2
                try clear p2
                try clear c3
                try clear c5
                try clear q5
                try clear p6
                try clear c14
                try clear c15
                try clear c16
                try clear c26
                try clear c26b0
                try clear c26b1
                try clear c27
                try clear c27b0
                try clear c27b1
                try clear c28
                try clear c29
                try clear c29b0
                try clear c30
                try clear c30b0
                try clear c31
                try clear c33
                try clear c33b0
                try clear c33b1
                try clear c34
                try clear c34b0
                try clear c34b1
                try clear c35
                try clear c36
                try clear c36b0
                try clear c37
                try clear c37b0
                try clear c38
                try clear c53
                try clear q53
                try clear q54
                try clear q053
                try clear q53
                try clear q54
                obtain ⟨x15_3, rfl, HA, HK3, HO_7, HO_11, HO_12, HO_13, HO_14, HR167, HR174, HB⟩ := hrel
                cases gk with
                | zero => exact absurd HA.out (by simp [canopylaw2_SetsRows.l1])
                | succ k3 =>
                 have H := HA.out
                 clear HA
                 simp only [canopylaw2_SetsRows.l1] at H
                 by_cases c61 : x15_3 < (t141.length : Int)
                 ·rw [if_pos c61] at H
                  have c61b0 : decide (x15_3 < (t141.length : Int)) = true := decide_eq_true c61
                  clear c61
                  obtain ⟨ji62, hji62⟩ : ∃ j_ : Int, (wrap64 (x15_3 - 1)) = j_ := ⟨_, rfl⟩
                  replace H : (if 0 ≤ (ji62) then (if (ji62) < (t141.length : Int) then (if 0 ≤ x15_3 then (if (rd t141 (ji62)) ≥ (rd t141 x15_3) then (some false) else (canopylaw2_SetsRows.l1 k3 l1 x7_10 t141 t144 t158 t178 (wrap64 (x15_3 + 1)))) else (none)) else (none)) else (none)) = some r := by first | (rw [hji62] at H; exact H) | (simp only [hji62] at H ⊢; exact H)
                  have hji62w : (IntKind.i64.wrap (x15_3 - 1)) = ji62 := (i64_w _).trans hji62
                  by_cases c63 : 0 ≤ (ji62)
                  ·rw [if_pos c63] at H
                   have c63b0 : decide (0 ≤ (ji62)) = true := decide_eq_true c63
                   clear c63
                   by_cases c64 : (ji62) < (t141.length : Int)
                   ·rw [if_pos c64] at H
                    have c64b0 : decide ((ji62) < (t141.length : Int)) = true := decide_eq_true c64
                    clear c64
                    by_cases c65 : 0 ≤ x15_3
                    ·rw [if_pos c65] at H
                     have c65b0 : decide (0 ≤ x15_3) = true := decide_eq_true c65
                     clear c65
                     by_cases c66 : (rd t141 (ji62)) ≥ (rd t141 x15_3)
                     ·rw [if_pos c66] at H
                      have c66b0 : decide ((rd t141 x15_3) ≤ (rd t141 (ji62))) = true := decide_eq_true c66
                      clear c66
                      obtain rfl := Option.some.inj H
                      obtain ⟨Ao67, co67, eo67⟩ := Kd.V_slice HO_11.out
                      subst eo67
                      try go_wp2
                      have n0_ := Aside0.mk (Kd.R_drew HO_7.out)
                      have n1_ := Aside0.mk (Kd.V_drew HO_11.out)
                      have n2_ := Aside0.mk (Kd.V_drew HO_12.out)
                      have n3_ := Aside0.mk (Kd.V_drew HO_13.out)
                      have n4_ := Aside0.mk (Kd.V_drew HO_14.out)
                      have n5_ := Aside0.mk (Kd.C_drew HR167.out)
                      have n6_ := Aside0.mk (Kd.C_drew HR174.out)
                      have n7_ := Aside0.mk (below_drew1 HB.out)
                      clear HO_7
                      clear HO_11
                      clear HO_12
                      clear HO_13
                      clear HO_14
                      clear HR167
                      clear HR174
                      clear HB
                      have HO_7 := n0_
                      have HO_11 := n1_
                      have HO_12 := n2_
                      have HO_13 := n3_
                      have HO_14 := n4_
                      have HR167 := n5_
                      have HR174 := n6_
                      have HB := n7_
                      clear n0_ n1_ n2_ n3_ n4_ n5_ n6_ n7_
                      have p181 : 0 ≤ ((ji62) : Int) := of_decide_eq_true (by first | (with_reducible assumption) | assumption)
                      have q181 : (ji62) < (t141.length : Int) := of_decide_eq_true (by first | (with_reducible assumption) | assumption)
                      obtain ⟨ad181, e181, hx181_0⟩ := Kd.at_int (Kd.V_reads' HO_11.out).2.2 (ji62) p181 q181
                      cases e181
                      replace p181 := eq_true p181
                      replace q181 := eq_true q181
                      have p182 : 0 ≤ (x15_3 : Int) := of_decide_eq_true (by first | (with_reducible assumption) | assumption)
                      have q182 : x15_3 < (t141.length : Int) := of_decide_eq_true (by first | (with_reducible assumption) | assumption)
                      obtain ⟨ad182, e182, hx182_0⟩ := Kd.at_int (Kd.V_reads' HO_11.out).2.2 x15_3 p182 q182
                      obtain rfl : ad181 = ad182 := (by injection e182)
                      replace p182 := eq_true p182
                      replace q182 := eq_true q182
                      refine start_ (n := 10) (S := fun w' => w'.cell? (ad181.add ((ji62)).toNat) = some (.int .i64 (rd t141 (ji62))) ∧ w'.cell? (ad181.add (x15_3).toNat) = some (.int .i64 (rd t141 x15_3))) (ds := []) #[false, false, false, false, false, false, false, false, false, false] (by kernel_rfl) rfl rfl ⟨hx181_0, hx182_0⟩ (fun hHeld => ?_); refine with_tabW canopylaw2_SetsRows.tab17 canopylaw2_SetsRows.bits17 (fun HT_ HW_ => ?_)
                      generalize wr.drew = w68 at HO_7 HO_11 HO_12 HO_13 HO_14 HR167 HR174 HB hx181_0 hx182_0 hHeld ⊢
                      refine pure_ (i := 0) (N := some 92) (v := ?_) (a' := ?_) #[true, false, false, false, false, false, false, false, false, false] rfl rfl (any_of HT_.out (by kernel_rfl)) (fun _ _ _ h => h) (Or.inl ⟨by rfl, ?_⟩) ?_ ?_
                      rotate_left
                      ·intro w'
                       go_simp
                       with_reducible rfl
                      rotate_left
                      ·simp only [Act.put, List.setIfInBounds_toArray, List.set_cons_zero, List.set_cons_succ, i64_w, i32_w]
                       rfl
                      refine pure_ (i := 1) (N := some 93) (v := ?_) (a' := ?_) #[true, true, false, false, false, false, false, false, false, false] rfl rfl (any_of HT_.out (by kernel_rfl)) (fun _ _ _ h => h) (Or.inl ⟨by rfl, ?_⟩) ?_ ?_
                      rotate_left
                      ·intro w'
                       go_simp
                       with_reducible rfl
                      rotate_left
                      ·simp only [Act.put, List.setIfInBounds_toArray, List.set_cons_zero, List.set_cons_succ, i64_w, i32_w]
                       rfl
                      refine pure_ (i := 2) (N := some 94) (v := ?_) (a' := ?_) #[true, true, true, false, false, false, false, false, false, false] rfl rfl (any_of HT_.out (by kernel_rfl)) (fun _ _ _ h => h) (Or.inl ⟨by rfl, ?_⟩) ?_ ?_
                      rotate_left
                      ·intro w'
                       go_simp
                       with_reducible rfl
                      rotate_left
                      ·simp only [Act.put, List.setIfInBounds_toArray, List.set_cons_zero, List.set_cons_succ, i64_w, i32_w]
                       rfl
                      refine pure_ (i := 3) (N := some 95) (v := ?_) (a' := ?_) #[true, true, true, true, false, false, false, false, false, false] rfl rfl (any_of HT_.out (by kernel_rfl)) (fun _ _ _ h => h) (Or.inl ⟨by rfl, ?_⟩) ?_ ?_
                      rotate_left
                      ·intro w'
                       go_simp
                       with_reducible rfl
                      rotate_left
                      ·simp only [Act.put, List.setIfInBounds_toArray, List.set_cons_zero, List.set_cons_succ, i64_w, i32_w]
                       rfl
                      refine pure_ (i := 5) (N := some 97) (v := ?_) (a' := ?_) #[true, true, true, true, false, true, false, false, false, false] rfl rfl (any_of HT_.out (by kernel_rfl)) (fun _ _ _ h => h) (Or.inl ⟨by rfl, ?_⟩) ?_ ?_
                      rotate_left
                      ·intro w'
                       go_simp
                       with_reducible rfl
                      rotate_left
                      ·simp only [Act.put, List.setIfInBounds_toArray, List.set_cons_zero, List.set_cons_succ, i64_w, i32_w]
                       rfl
                      refine pure_ (i := 6) (N := some 98) (v := ?_) (a' := ?_) #[true, true, true, true, false, true, true, false, false, false] rfl rfl (any_of HT_.out (by kernel_rfl)) (fun _ _ _ h => h) (Or.inl ⟨by rfl, ?_⟩) ?_ ?_
                      rotate_left
                      ·intro w'
                       go_simp
                       with_reducible rfl
                      rotate_left
                      ·simp only [Act.put, List.setIfInBounds_toArray, List.set_cons_zero, List.set_cons_succ, i64_w, i32_w]
                       rfl
                      refine pure_ (i := 7) (N := some 99) (v := ?_) (a' := ?_) #[true, true, true, true, false, true, true, true, false, false] rfl rfl (any_of HT_.out (by kernel_rfl)) (fun _ _ _ h => h) (Or.inl ⟨by rfl, ?_⟩) ?_ ?_
                      rotate_left
                      ·intro w'
                       go_simp
                       with_reducible rfl
                      rotate_left
                      ·simp only [Act.put, List.setIfInBounds_toArray, List.set_cons_zero, List.set_cons_succ, i64_w, i32_w]
                       rfl
                      refine take_ (i := 4) (N := some 96) (v := ?_) (a' := ?_) #[true, true, true, true, true, true, true, true, false, false] rfl rfl (take_ofW HT_.out HW_.out (by kernel_rfl)) (fun _ _ _ h => h) (Or.inl ⟨by rfl, ?_⟩) hHeld ?_ ?_
                      rotate_left
                      ·rintro w' ⟨s0, s1⟩
                       go_simp
                       with_reducible rfl
                      rotate_left
                      ·simp only [Act.put, List.setIfInBounds_toArray, List.set_cons_zero, List.set_cons_succ, i64_w, i32_w]
                       rfl
                      refine take_ (i := 8) (N := some 100) (v := ?_) (a' := ?_) #[true, true, true, true, true, true, true, true, true, false] rfl rfl (take_ofW HT_.out HW_.out (by kernel_rfl)) (fun _ _ _ h => h) (Or.inl ⟨by rfl, ?_⟩) hHeld ?_ ?_
                      rotate_left
                      ·rintro w' ⟨s0, s1⟩
                       go_simp
                       with_reducible rfl
                      rotate_left
                      ·simp only [Act.put, List.setIfInBounds_toArray, List.set_cons_zero, List.set_cons_succ, i64_w, i32_w]
                       rfl
                      refine pure_ (i := 9) (N := some 101) (v := ?_) (a' := ?_) #[true, true, true, true, true, true, true, true, true, true] rfl rfl (any_of HT_.out (by kernel_rfl)) (fun _ _ _ h => h) (Or.inl ⟨by rfl, ?_⟩) ?_ ?_
                      rotate_left
                      ·intro w'
                       go_simp
                       with_reducible rfl
                      rotate_left
                      ·simp only [Act.put, List.setIfInBounds_toArray, List.set_cons_zero, List.set_cons_succ, i64_w, i32_w]
                       rfl
                      refine done_ (done_of HT_.out (by kernel_rfl)) ?_
                      try go_wp2
                      go_ret
                      exact ⟨by first | rfl | (simp [errW_none, errW_some] <;> rfl) | (simp only [← hji62]; first | rfl | (simp [errW_none, errW_some] <;> rfl)) | (simp [*, errW_none, errW_some] <;> rfl), by repeat (first | (with_reducible first | exact HB.out | apply below_alloc | apply pw_below_drewN | apply below_drew1) | exact HB.out)⟩
                     ·rw [if_neg c66] at H
                      have c66b0 : decide ((rd t141 x15_3) ≤ (rd t141 (ji62))) = false := decide_eq_false c66
                      clear c66
                      have H' := Aside0.mk H
                      clear H
                      obtain ⟨Ao69, co69, eo69⟩ := Kd.V_slice HO_11.out
                      subst eo69
                      try go_wp2
                      have n0_ := Aside0.mk (Kd.R_drew HO_7.out)
                      have n1_ := Aside0.mk (Kd.V_drew HO_11.out)
                      have n2_ := Aside0.mk (Kd.V_drew HO_12.out)
                      have n3_ := Aside0.mk (Kd.V_drew HO_13.out)
                      have n4_ := Aside0.mk (Kd.V_drew HO_14.out)
                      have n5_ := Aside0.mk (Kd.C_drew HR167.out)
                      have n6_ := Aside0.mk (Kd.C_drew HR174.out)
                      have n7_ := Aside0.mk (below_drew1 HB.out)
                      clear HO_7
                      clear HO_11
                      clear HO_12
                      clear HO_13
                      clear HO_14
                      clear HR167
                      clear HR174
                      clear HB
                      have HO_7 := n0_
                      have HO_11 := n1_
                      have HO_12 := n2_
                      have HO_13 := n3_
                      have HO_14 := n4_
                      have HR167 := n5_
                      have HR174 := n6_
                      have HB := n7_
                      clear n0_ n1_ n2_ n3_ n4_ n5_ n6_ n7_
                      have p181 : 0 ≤ ((ji62) : Int) := of_decide_eq_true (by first | (with_reducible assumption) | assumption)
                      have q181 : (ji62) < (t141.length : Int) := of_decide_eq_true (by first | (with_reducible assumption) | assumption)
                      obtain ⟨ad181, e181, hx181_0⟩ := Kd.at_int (Kd.V_reads' HO_11.out).2.2 (ji62) p181 q181
                      cases e181
                      replace p181 := eq_true p181
                      replace q181 := eq_true q181
                      have p182 : 0 ≤ (x15_3 : Int) := of_decide_eq_true (by first | (with_reducible assumption) | assumption)
                      have q182 : x15_3 < (t141.length : Int) := of_decide_eq_true (by first | (with_reducible assumption) | assumption)
                      obtain ⟨ad182, e182, hx182_0⟩ := Kd.at_int (Kd.V_reads' HO_11.out).2.2 x15_3 p182 q182
                      obtain rfl : ad181 = ad182 := (by injection e182)
                      replace p182 := eq_true p182
                      replace q182 := eq_true q182
                      refine start_ (n := 10) (S := fun w' => w'.cell? (ad181.add ((ji62)).toNat) = some (.int .i64 (rd t141 (ji62))) ∧ w'.cell? (ad181.add (x15_3).toNat) = some (.int .i64 (rd t141 x15_3))) (ds := []) #[false, false, false, false, false, false, false, false, false, false] (by kernel_rfl) rfl rfl ⟨hx181_0, hx182_0⟩ (fun hHeld => ?_); refine with_tabW canopylaw2_SetsRows.tab17 canopylaw2_SetsRows.bits17 (fun HT_ HW_ => ?_)
                      generalize wr.drew = w70 at HO_7 HO_11 HO_12 HO_13 HO_14 HR167 HR174 HB hx181_0 hx182_0 hHeld ⊢
                      refine pure_ (i := 0) (N := some 92) (v := ?_) (a' := ?_) #[true, false, false, false, false, false, false, false, false, false] rfl rfl (any_of HT_.out (by kernel_rfl)) (fun _ _ _ h => h) (Or.inl ⟨by rfl, ?_⟩) ?_ ?_
                      rotate_left
                      ·intro w'
                       go_simp
                       with_reducible rfl
                      rotate_left
                      ·simp only [Act.put, List.setIfInBounds_toArray, List.set_cons_zero, List.set_cons_succ, i64_w, i32_w]
                       rfl
                      refine pure_ (i := 1) (N := some 93) (v := ?_) (a' := ?_) #[true, true, false, false, false, false, false, false, false, false] rfl rfl (any_of HT_.out (by kernel_rfl)) (fun _ _ _ h => h) (Or.inl ⟨by rfl, ?_⟩) ?_ ?_
                      rotate_left
                      ·intro w'
                       go_simp
                       with_reducible rfl
                      rotate_left
                      ·simp only [Act.put, List.setIfInBounds_toArray, List.set_cons_zero, List.set_cons_succ, i64_w, i32_w]
                       rfl
                      refine pure_ (i := 2) (N := some 94) (v := ?_) (a' := ?_) #[true, true, true, false, false, false, false, false, false, false] rfl rfl (any_of HT_.out (by kernel_rfl)) (fun _ _ _ h => h) (Or.inl ⟨by rfl, ?_⟩) ?_ ?_
                      rotate_left
                      ·intro w'
                       go_simp
                       with_reducible rfl
                      rotate_left
                      ·simp only [Act.put, List.setIfInBounds_toArray, List.set_cons_zero, List.set_cons_succ, i64_w, i32_w]
                       rfl
                      refine pure_ (i := 3) (N := some 95) (v := ?_) (a' := ?_) #[true, true, true, true, false, false, false, false, false, false] rfl rfl (any_of HT_.out (by kernel_rfl)) (fun _ _ _ h => h) (Or.inl ⟨by rfl, ?_⟩) ?_ ?_
                      rotate_left
                      ·intro w'
                       go_simp
                       with_reducible rfl
                      rotate_left
                      ·simp only [Act.put, List.setIfInBounds_toArray, List.set_cons_zero, List.set_cons_succ, i64_w, i32_w]
                       rfl
                      refine pure_ (i := 5) (N := some 97) (v := ?_) (a' := ?_) #[true, true, true, true, false, true, false, false, false, false] rfl rfl (any_of HT_.out (by kernel_rfl)) (fun _ _ _ h => h) (Or.inl ⟨by rfl, ?_⟩) ?_ ?_
                      rotate_left
                      ·intro w'
                       go_simp
                       with_reducible rfl
                      rotate_left
                      ·simp only [Act.put, List.setIfInBounds_toArray, List.set_cons_zero, List.set_cons_succ, i64_w, i32_w]
                       rfl
                      refine pure_ (i := 6) (N := some 98) (v := ?_) (a' := ?_) #[true, true, true, true, false, true, true, false, false, false] rfl rfl (any_of HT_.out (by kernel_rfl)) (fun _ _ _ h => h) (Or.inl ⟨by rfl, ?_⟩) ?_ ?_
                      rotate_left
                      ·intro w'
                       go_simp
                       with_reducible rfl
                      rotate_left
                      ·simp only [Act.put, List.setIfInBounds_toArray, List.set_cons_zero, List.set_cons_succ, i64_w, i32_w]
                       rfl
                      refine pure_ (i := 7) (N := some 99) (v := ?_) (a' := ?_) #[true, true, true, true, false, true, true, true, false, false] rfl rfl (any_of HT_.out (by kernel_rfl)) (fun _ _ _ h => h) (Or.inl ⟨by rfl, ?_⟩) ?_ ?_
                      rotate_left
                      ·intro w'
                       go_simp
                       with_reducible rfl
                      rotate_left
                      ·simp only [Act.put, List.setIfInBounds_toArray, List.set_cons_zero, List.set_cons_succ, i64_w, i32_w]
                       rfl
                      refine take_ (i := 4) (N := some 96) (v := ?_) (a' := ?_) #[true, true, true, true, true, true, true, true, false, false] rfl rfl (take_ofW HT_.out HW_.out (by kernel_rfl)) (fun _ _ _ h => h) (Or.inl ⟨by rfl, ?_⟩) hHeld ?_ ?_
                      rotate_left
                      ·rintro w' ⟨s0, s1⟩
                       go_simp
                       with_reducible rfl
                      rotate_left
                      ·simp only [Act.put, List.setIfInBounds_toArray, List.set_cons_zero, List.set_cons_succ, i64_w, i32_w]
                       rfl
                      refine take_ (i := 8) (N := some 100) (v := ?_) (a' := ?_) #[true, true, true, true, true, true, true, true, true, false] rfl rfl (take_ofW HT_.out HW_.out (by kernel_rfl)) (fun _ _ _ h => h) (Or.inl ⟨by rfl, ?_⟩) hHeld ?_ ?_
                      rotate_left
                      ·rintro w' ⟨s0, s1⟩
                       go_simp
                       with_reducible rfl
                      rotate_left
                      ·simp only [Act.put, List.setIfInBounds_toArray, List.set_cons_zero, List.set_cons_succ, i64_w, i32_w]
                       rfl
                      refine pure_ (i := 9) (N := some 101) (v := ?_) (a' := ?_) #[true, true, true, true, true, true, true, true, true, true] rfl rfl (any_of HT_.out (by kernel_rfl)) (fun _ _ _ h => h) (Or.inl ⟨by rfl, ?_⟩) ?_ ?_
                      rotate_left
                      ·intro w'
                       go_simp
                       with_reducible rfl
                      rotate_left
                      ·simp only [Act.put, List.setIfInBounds_toArray, List.set_cons_zero, List.set_cons_succ, i64_w, i32_w]
                       rfl
                      refine done_ (done_of HT_.out (by kernel_rfl)) ?_
                      try go_wp2
                      go_roundg k3
                      case measure => have := HJ5.out; have := HJ10.out; have := HK3.out; omega
                      case rel => exact ⟨(wrap64 (x15_3 + 1)), (by first | rfl | (simp; done) | (simp [*]; done)), H', ⟨by have := HJ5.out; have := HJ10.out; have := HK3.out; omega⟩, ⟨by (with_reducible repeat (first | apply Kd.R_alloc | apply Kd.R_drewN | apply Kd.R_drew)); exact HO_7.out⟩, ⟨by (with_reducible repeat (first | apply Kd.V_alloc | apply Kd.V_drewN | apply Kd.V_drew)); exact HO_11.out⟩, ⟨by (with_reducible repeat (first | apply Kd.V_alloc | apply Kd.V_drewN | apply Kd.V_drew)); exact HO_12.out⟩, ⟨by (with_reducible repeat (first | apply Kd.V_alloc | apply Kd.V_drewN | apply Kd.V_drew)); exact HO_13.out⟩, ⟨by (with_reducible repeat (first | apply Kd.V_alloc | apply Kd.V_drewN | apply Kd.V_drew)); exact HO_14.out⟩, ⟨by repeat (first | (with_reducible exact HR167.out) | (with_reducible refine Kd.C_alloc ?_ _) | (with_reducible refine Kd.C_drewN ?_ _) | (with_reducible refine Kd.C_drew ?_) | exact HR167.out)⟩, ⟨by repeat (first | (with_reducible exact HR174.out) | (with_reducible refine Kd.C_alloc ?_ _) | (with_reducible refine Kd.C_drewN ?_ _) | (with_reducible refine Kd.C_drew ?_) | exact HR174.out)⟩, ⟨by repeat (first | (with_reducible first | exact HB.out | apply below_alloc | apply pw_below_drewN | apply below_drew1) | exact HB.out)⟩⟩
                    ·rw [if_neg c65] at H
                     exact absurd H (by simp)
                   ·rw [if_neg c64] at H
                    exact absurd H (by simp)
                  ·rw [if_neg c63] at H
                   exact absurd H (by simp)
                 ·rw [if_neg c61] at H
                  have c61b0 : decide (x15_3 < (t141.length : Int)) = false := decide_eq_false c61
                  clear c61
                  replace H := Option.bind_eq_some_iff.mp H
                  obtain ⟨t183, A710, H⟩ := H
                  replace H : ((canopylaw2_ints.f k3 t141 t183).bind fun t186 => (if t186 = true then ((canopylaw2_ints.f k3 t141 t158).bind fun t187 => (if t187 = true then ((canopyref2_Pairs.f k3 x7_10).bind fun t188 => ((canopyref2_Same.f k3 t144 t188).bind fun t191 => (if t191 = true then ((canopyref2_Same.f k3 t144 t178).bind fun t192 => (some t192)) else (some false)))) else (some false))) else (some false))) = some r := H
                  have A71 := Aside0.mk A710
                  clear A710
                  replace H := Option.bind_eq_some_iff.mp H
                  obtain ⟨t186, A720, H⟩ := H
                  replace H : (if t186 = true then ((canopylaw2_ints.f k3 t141 t158).bind fun t187 => (if t187 = true then ((canopyref2_Pairs.f k3 x7_10).bind fun t188 => ((canopyref2_Same.f k3 t144 t188).bind fun t191 => (if t191 = true then ((canopyref2_Same.f k3 t144 t178).bind fun t192 => (some t192)) else (some false)))) else (some false))) else (some false)) = some r := H
                  have A72 := Aside0.mk A720
                  clear A720
                  by_cases c73 : t186 = true
                  ·subst c73
                   have H1 : ((canopylaw2_ints.f k3 t141 t158).bind fun t187 => (if t187 = true then ((canopyref2_Pairs.f k3 x7_10).bind fun t188 => ((canopyref2_Same.f k3 t144 t188).bind fun t191 => (if t191 = true then ((canopyref2_Same.f k3 t144 t178).bind fun t192 => (some t192)) else (some false)))) else (some false))) = some r := by rw [if_pos rfl] at H; exact H
                   clear H
                   have H := H1
                   clear H1
                   replace H := Option.bind_eq_some_iff.mp H
                   obtain ⟨t187, A740, H⟩ := H
                   replace H : (if t187 = true then ((canopyref2_Pairs.f k3 x7_10).bind fun t188 => ((canopyref2_Same.f k3 t144 t188).bind fun t191 => (if t191 = true then ((canopyref2_Same.f k3 t144 t178).bind fun t192 => (some t192)) else (some false)))) else (some false)) = some r := H
                   have A74 := Aside0.mk A740
                   clear A740
                   by_cases c75 : t187 = true
                   ·subst c75
                    have H1 : ((canopyref2_Pairs.f k3 x7_10).bind fun t188 => ((canopyref2_Same.f k3 t144 t188).bind fun t191 => (if t191 = true then ((canopyref2_Same.f k3 t144 t178).bind fun t192 => (some t192)) else (some false)))) = some r := by rw [if_pos rfl] at H; exact H
                    clear H
                    have H := H1
                    clear H1
                    replace H := Option.bind_eq_some_iff.mp H
                    obtain ⟨t188, A760, H⟩ := H
                    replace H : ((canopyref2_Same.f k3 t144 t188).bind fun t191 => (if t191 = true then ((canopyref2_Same.f k3 t144 t178).bind fun t192 => (some t192)) else (some false))) = some r := H
                    have A76 := Aside0.mk A760
                    clear A760
                    replace H := Option.bind_eq_some_iff.mp H
                    obtain ⟨t191, A770, H⟩ := H
                    replace H : (if t191 = true then ((canopyref2_Same.f k3 t144 t178).bind fun t192 => (some t192)) else (some false)) = some r := H
                    have A77 := Aside0.mk A770
                    clear A770
                    by_cases c78 : t191 = true
                    ·subst c78
                     have H1 : ((canopyref2_Same.f k3 t144 t178).bind fun t192 => (some t192)) = some r := by rw [if_pos rfl] at H; exact H
                     clear H
                     have H := H1
                     clear H1
                     replace H := Option.bind_eq_some_iff.mp H
                     obtain ⟨t192, A790, H⟩ := H
                     replace H : (some t192) = some r := H
                     have A79 := Aside0.mk A790
                     clear A790
                     obtain rfl := Option.some.inj H
                     obtain ⟨Ao80, co80, eo80⟩ := Kd.V_slice HO_11.out
                     subst eo80
                     go_wp2_with (first | ((with_reducible refine gate_callee (f := 18) rfl ?_); refine goesL_ (some 104) rfl rfl Try.func18 (by kernel_rfl) rfl #[.slice A1 l1.length c1] rfl (by (try simp only [List.map_toArray, List.map_cons, List.map_nil]); first | done | rfl | (simp only [List.length_drop, List.length_take]; rfl)) ?_; (with_reducible refine (canopyref2_Ints.calls _ _ l1 t183 _ ?side1 ?side2 A71.out).mono ?_); (case side1 => repeat (first | exact (Kd.C_below HR1.out HB.out) | (with_reducible refine Kd.C_alloc ?_ _) | (with_reducible refine Kd.C_drewN ?_ _) | (with_reducible refine Kd.C_drew ?_))); (case side2 => exact HC1.out); rintro e w81 ⟨v184, rfl, ho0, hb⟩; refine ⟨_, rfl, ?_⟩; have n0_ := Aside0.mk (Kd.R_below (by (with_reducible repeat (first | apply Kd.R_alloc | apply Kd.R_drewN | apply Kd.R_drew)); exact HO_7.out) hb); have n1_ := Aside0.mk (Kd.V_elder' (by (with_reducible repeat (first | apply Kd.V_alloc | apply Kd.V_drewN | apply Kd.V_drew)); exact HO_11.out) (Kd.R_base ho0) hb); have n2_ := Aside0.mk (Kd.V_elder' (by (with_reducible repeat (first | apply Kd.V_alloc | apply Kd.V_drewN | apply Kd.V_drew)); exact HO_12.out) (Kd.R_base ho0) hb); have n3_ := Aside0.mk (Kd.V_elder' (by (with_reducible repeat (first | apply Kd.V_alloc | apply Kd.V_drewN | apply Kd.V_drew)); exact HO_13.out) (Kd.R_base ho0) hb); have n4_ := Aside0.mk (Kd.V_elder' (by (with_reducible repeat (first | apply Kd.V_alloc | apply Kd.V_drewN | apply Kd.V_drew)); exact HO_14.out) (Kd.R_base ho0) hb); have n5_ := Aside0.mk (Kd.R_lower ho0 (below_size (by repeat (first | (with_reducible first | exact HB.out | apply below_alloc | apply pw_below_drewN | apply below_drew1) | exact HB.out)))); have n6_ := Aside0.mk (Kd.C_below (by repeat (first | (with_reducible exact HR167.out) | (with_reducible refine Kd.C_alloc ?_ _) | (with_reducible refine Kd.C_drewN ?_ _) | (with_reducible refine Kd.C_drew ?_) | exact HR167.out)) hb); have n7_ := Aside0.mk (Kd.C_below (by repeat (first | (with_reducible exact HR174.out) | (with_reducible refine Kd.C_alloc ?_ _) | (with_reducible refine Kd.C_drewN ?_ _) | (with_reducible refine Kd.C_drew ?_) | exact HR174.out)) hb); have n8_ := Aside0.mk (below_step (by repeat (first | (with_reducible first | exact HB.out | apply below_alloc | apply pw_below_drewN | apply below_drew1) | exact HB.out)) hb); clear HO_7; clear HO_11; clear HO_12; clear HO_13; clear HO_14; clear HR167; clear HR174; clear HB; have HO_7 := n0_; have HO_11 := n1_; have HO_12 := n2_; have HO_13 := n3_; have HO_14 := n4_; have HO185 := n5_; have HR167 := n6_; have HR174 := n7_; have HB := n8_; clear n0_ n1_ n2_ n3_ n4_ n5_ n6_ n7_ n8_; (try clear hb); (try clear hb2); (try clear hk); (try clear hi); (try clear ho0); obtain ⟨Ao82, co82, eo82⟩ := Kd.R_slice HO185.out; subst eo82) | ((with_reducible refine gate_callee (f := 17) rfl ?_); refine goesL_ (some 105) rfl rfl Try.func17 (by kernel_rfl) rfl #[.slice Ao80 t141.length co80, .slice Ao82 t183.length co82] rfl (by (try simp only [List.map_toArray, List.map_cons, List.map_nil]); first | done | rfl | (simp only [List.length_drop, List.length_take]; rfl)) ?_; (with_reducible refine (canopylaw2_ints.calls k3 _ _ t141 _ _ t183 true _ ?side1 ?side2 ?side3 ?side4 A72.out).mono ?_); (case side1 => repeat (first | exact (Kd.V_reads' HO_11.out).2.2 | (with_reducible refine Kd.C_alloc ?_ _) | (with_reducible refine Kd.C_drewN ?_ _) | (with_reducible refine Kd.C_drew ?_))); (case side2 => exact (Kd.V_reads' HO_11.out).2.1); (case side3 => repeat (first | exact (Kd.R_reads' HO185.out).2.2 | (with_reducible refine Kd.C_alloc ?_ _) | (with_reducible refine Kd.C_drewN ?_ _) | (with_reducible refine Kd.C_drew ?_))); (case side4 => exact (Kd.R_reads' HO185.out).2.1); rintro e w' ⟨rfl, ⟨nd, rfl⟩⟩; refine ⟨_, rfl, ?_⟩; obtain ⟨Ao83, co83, eo83⟩ := Kd.V_slice HO_13.out; subst eo83) | (go_at_call 17; (with_reducible refine (canopylaw2_ints.calls k3 _ _ t141 _ _ t158 true _ ?side1 ?side2 ?side3 ?side4 A74.out).mono ?_); (case side1 => repeat (first | exact (Kd.V_reads' HO_11.out).2.2 | (with_reducible refine Kd.C_alloc ?_ _) | (with_reducible refine Kd.C_drewN ?_ _) | (with_reducible refine Kd.C_drew ?_))); (case side2 => exact (Kd.V_reads' HO_11.out).2.1); (case side3 => repeat (first | exact (Kd.V_reads' HO_13.out).2.2 | (with_reducible refine Kd.C_alloc ?_ _) | (with_reducible refine Kd.C_drewN ?_ _) | (with_reducible refine Kd.C_drew ?_))); (case side4 => exact (Kd.V_reads' HO_13.out).2.1); rintro e w' ⟨rfl, ⟨nd, rfl⟩⟩) | (go_at_call 20; (with_reducible refine (canopyref2_Pairs.calls k3 _ _ x7_10 t188 _ ?side1 ?side2 A76.out).mono ?_); (case side1 => repeat (first | exact (Kd.R_reads' HO_7.out).2.2 | (with_reducible refine Kd.C_alloc ?_ _) | (with_reducible refine Kd.C_drewN ?_ _) | (with_reducible refine Kd.C_drew ?_))); (case side2 => exact (Kd.R_reads' HO_7.out).2.1); rintro e w84 ⟨v189, rfl, ho0, hb⟩; have n0_ := Aside0.mk (Kd.R_elder' (by (with_reducible repeat (first | apply Kd.R_alloc | apply Kd.R_drewN | apply Kd.R_drew)); exact HO_7.out) (Kd.R_base ho0) hb); have n1_ := Aside0.mk (Kd.V_elder' (by (with_reducible repeat (first | apply Kd.V_alloc | apply Kd.V_drewN | apply Kd.V_drew)); exact HO_11.out) (Kd.R_base ho0) hb); have n2_ := Aside0.mk (Kd.V_elder' (by (with_reducible repeat (first | apply Kd.V_alloc | apply Kd.V_drewN | apply Kd.V_drew)); exact HO_12.out) (Kd.R_base ho0) hb); have n3_ := Aside0.mk (Kd.V_elder' (by (with_reducible repeat (first | apply Kd.V_alloc | apply Kd.V_drewN | apply Kd.V_drew)); exact HO_13.out) (Kd.R_base ho0) hb); have n4_ := Aside0.mk (Kd.V_elder' (by (with_reducible repeat (first | apply Kd.V_alloc | apply Kd.V_drewN | apply Kd.V_drew)); exact HO_14.out) (Kd.R_base ho0) hb); have n5_ := Aside0.mk (Kd.R_below (by (with_reducible repeat (first | apply Kd.R_alloc | apply Kd.R_drewN | apply Kd.R_drew)); exact HO185.out) hb); have n6_ := Aside0.mk (Kd.R_lower (Kd.R_new' ho0 (Kd.R_lt (by (with_reducible repeat (first | apply Kd.R_alloc | apply Kd.R_drewN | apply Kd.R_drew)); exact HO_7.out))) (below_size (by repeat (first | (with_reducible first | exact HB.out | apply below_alloc | apply pw_below_drewN | apply below_drew1) | exact HB.out)))); have n7_ := Aside0.mk (Kd.C_below (by repeat (first | (with_reducible exact HR167.out) | (with_reducible refine Kd.C_alloc ?_ _) | (with_reducible refine Kd.C_drewN ?_ _) | (with_reducible refine Kd.C_drew ?_) | exact HR167.out)) hb); have n8_ := Aside0.mk (Kd.C_below (by repeat (first | (with_reducible exact HR174.out) | (with_reducible refine Kd.C_alloc ?_ _) | (with_reducible refine Kd.C_drewN ?_ _) | (with_reducible refine Kd.C_drew ?_) | exact HR174.out)) hb); have n9_ := Aside0.mk (below_step (by repeat (first | (with_reducible first | exact HB.out | apply below_alloc | apply pw_below_drewN | apply below_drew1) | exact HB.out)) hb); clear HO_7; clear HO_11; clear HO_12; clear HO_13; clear HO_14; clear HO185; clear HR167; clear HR174; clear HB; have HO_7 := n0_; have HO_11 := n1_; have HO_12 := n2_; have HO_13 := n3_; have HO_14 := n4_; have HO185 := n5_; have HO190 := n6_; have HR167 := n7_; have HR174 := n8_; have HB := n9_; clear n0_ n1_ n2_ n3_ n4_ n5_ n6_ n7_ n8_ n9_; (try clear hb); (try clear hb2); (try clear hk); (try clear hi); (try clear ho0); obtain ⟨Ao85, co85, eo85⟩ := Kd.V_slice HO_12.out; subst eo85; obtain ⟨Ao86, co86, eo86⟩ := Kd.R_slice HO190.out; subst eo86) | (go_at_call 19; (with_reducible refine (canopyref2_Same.calls k3 _ _ t144 _ _ t188 true _ ?side1 ?side2 ?side3 ?side4 A77.out).mono ?_); (case side1 => repeat (first | exact (Kd.V_reads' HO_12.out).2.2 | (with_reducible refine Kd.C_alloc ?_ _) | (with_reducible refine Kd.C_drewN ?_ _) | (with_reducible refine Kd.C_drew ?_))); (case side2 => exact (Kd.V_reads' HO_12.out).2.1); (case side3 => repeat (first | exact (Kd.R_reads' HO190.out).2.2 | (with_reducible refine Kd.C_alloc ?_ _) | (with_reducible refine Kd.C_drewN ?_ _) | (with_reducible refine Kd.C_drew ?_))); (case side4 => exact (Kd.R_reads' HO190.out).2.1); rintro e w' ⟨rfl, ⟨nd, rfl⟩⟩; obtain ⟨Ao87, co87, eo87⟩ := Kd.V_slice HO_14.out; subst eo87) | (go_at_call 19; (with_reducible refine (canopyref2_Same.calls k3 _ _ t144 _ _ t178 t192 _ ?side1 ?side2 ?side3 ?side4 A79.out).mono ?_); (case side1 => repeat (first | exact (Kd.V_reads' HO_12.out).2.2 | (with_reducible refine Kd.C_alloc ?_ _) | (with_reducible refine Kd.C_drewN ?_ _) | (with_reducible refine Kd.C_drew ?_))); (case side2 => exact (Kd.V_reads' HO_12.out).2.1); (case side3 => repeat (first | exact (Kd.V_reads' HO_14.out).2.2 | (with_reducible refine Kd.C_alloc ?_ _) | (with_reducible refine Kd.C_drewN ?_ _) | (with_reducible refine Kd.C_drew ?_))); (case side4 => exact (Kd.V_reads' HO_14.out).2.1); rintro e w' ⟨rfl, ⟨nd, rfl⟩⟩))
                     go_ret
                     exact ⟨by first | rfl | (simp [errW_none, errW_some] <;> rfl) | (simp [*, errW_none, errW_some] <;> rfl), by repeat (first | (with_reducible first | exact HB.out | apply below_alloc | apply pw_below_drewN | apply below_drew1) | exact HB.out)⟩
                    ·replace c78 := Bool.eq_false_iff.mpr c78
                     subst c78
                     have H1 : (some false) = some r := by rw [if_neg (show ¬ (false = true) by decide)] at H; exact H
                     clear H
                     have H := H1
                     clear H1
                     obtain rfl := Option.some.inj H
                     obtain ⟨Ao88, co88, eo88⟩ := Kd.V_slice HO_11.out
                     subst eo88
                     go_wp2_with (first | ((with_reducible refine gate_callee (f := 18) rfl ?_); refine goesL_ (some 104) rfl rfl Try.func18 (by kernel_rfl) rfl #[.slice A1 l1.length c1] rfl (by (try simp only [List.map_toArray, List.map_cons, List.map_nil]); first | done | rfl | (simp only [List.length_drop, List.length_take]; rfl)) ?_; (with_reducible refine (canopyref2_Ints.calls _ _ l1 t183 _ ?side1 ?side2 A71.out).mono ?_); (case side1 => repeat (first | exact (Kd.C_below HR1.out HB.out) | (with_reducible refine Kd.C_alloc ?_ _) | (with_reducible refine Kd.C_drewN ?_ _) | (with_reducible refine Kd.C_drew ?_))); (case side2 => exact HC1.out); rintro e w89 ⟨v184, rfl, ho0, hb⟩; refine ⟨_, rfl, ?_⟩; have n0_ := Aside0.mk (Kd.R_below (by (with_reducible repeat (first | apply Kd.R_alloc | apply Kd.R_drewN | apply Kd.R_drew)); exact HO_7.out) hb); have n1_ := Aside0.mk (Kd.V_elder' (by (with_reducible repeat (first | apply Kd.V_alloc | apply Kd.V_drewN | apply Kd.V_drew)); exact HO_11.out) (Kd.R_base ho0) hb); have n2_ := Aside0.mk (Kd.V_elder' (by (with_reducible repeat (first | apply Kd.V_alloc | apply Kd.V_drewN | apply Kd.V_drew)); exact HO_12.out) (Kd.R_base ho0) hb); have n3_ := Aside0.mk (Kd.V_elder' (by (with_reducible repeat (first | apply Kd.V_alloc | apply Kd.V_drewN | apply Kd.V_drew)); exact HO_13.out) (Kd.R_base ho0) hb); have n4_ := Aside0.mk (Kd.V_elder' (by (with_reducible repeat (first | apply Kd.V_alloc | apply Kd.V_drewN | apply Kd.V_drew)); exact HO_14.out) (Kd.R_base ho0) hb); have n5_ := Aside0.mk (Kd.R_lower ho0 (below_size (by repeat (first | (with_reducible first | exact HB.out | apply below_alloc | apply pw_below_drewN | apply below_drew1) | exact HB.out)))); have n6_ := Aside0.mk (Kd.C_below (by repeat (first | (with_reducible exact HR167.out) | (with_reducible refine Kd.C_alloc ?_ _) | (with_reducible refine Kd.C_drewN ?_ _) | (with_reducible refine Kd.C_drew ?_) | exact HR167.out)) hb); have n7_ := Aside0.mk (Kd.C_below (by repeat (first | (with_reducible exact HR174.out) | (with_reducible refine Kd.C_alloc ?_ _) | (with_reducible refine Kd.C_drewN ?_ _) | (with_reducible refine Kd.C_drew ?_) | exact HR174.out)) hb); have n8_ := Aside0.mk (below_step (by repeat (first | (with_reducible first | exact HB.out | apply below_alloc | apply pw_below_drewN | apply below_drew1) | exact HB.out)) hb); clear HO_7; clear HO_11; clear HO_12; clear HO_13; clear HO_14; clear HR167; clear HR174; clear HB; have HO_7 := n0_; have HO_11 := n1_; have HO_12 := n2_; have HO_13 := n3_; have HO_14 := n4_; have HO185 := n5_; have HR167 := n6_; have HR174 := n7_; have HB := n8_; clear n0_ n1_ n2_ n3_ n4_ n5_ n6_ n7_ n8_; (try clear hb); (try clear hb2); (try clear hk); (try clear hi); (try clear ho0); obtain ⟨Ao90, co90, eo90⟩ := Kd.R_slice HO185.out; subst eo90) | ((with_reducible refine gate_callee (f := 17) rfl ?_); refine goesL_ (some 105) rfl rfl Try.func17 (by kernel_rfl) rfl #[.slice Ao88 t141.length co88, .slice Ao90 t183.length co90] rfl (by (try simp only [List.map_toArray, List.map_cons, List.map_nil]); first | done | rfl | (simp only [List.length_drop, List.length_take]; rfl)) ?_; (with_reducible refine (canopylaw2_ints.calls k3 _ _ t141 _ _ t183 true _ ?side1 ?side2 ?side3 ?side4 A72.out).mono ?_); (case side1 => repeat (first | exact (Kd.V_reads' HO_11.out).2.2 | (with_reducible refine Kd.C_alloc ?_ _) | (with_reducible refine Kd.C_drewN ?_ _) | (with_reducible refine Kd.C_drew ?_))); (case side2 => exact (Kd.V_reads' HO_11.out).2.1); (case side3 => repeat (first | exact (Kd.R_reads' HO185.out).2.2 | (with_reducible refine Kd.C_alloc ?_ _) | (with_reducible refine Kd.C_drewN ?_ _) | (with_reducible refine Kd.C_drew ?_))); (case side4 => exact (Kd.R_reads' HO185.out).2.1); rintro e w' ⟨rfl, ⟨nd, rfl⟩⟩; refine ⟨_, rfl, ?_⟩; obtain ⟨Ao91, co91, eo91⟩ := Kd.V_slice HO_13.out; subst eo91) | (go_at_call 17; (with_reducible refine (canopylaw2_ints.calls k3 _ _ t141 _ _ t158 true _ ?side1 ?side2 ?side3 ?side4 A74.out).mono ?_); (case side1 => repeat (first | exact (Kd.V_reads' HO_11.out).2.2 | (with_reducible refine Kd.C_alloc ?_ _) | (with_reducible refine Kd.C_drewN ?_ _) | (with_reducible refine Kd.C_drew ?_))); (case side2 => exact (Kd.V_reads' HO_11.out).2.1); (case side3 => repeat (first | exact (Kd.V_reads' HO_13.out).2.2 | (with_reducible refine Kd.C_alloc ?_ _) | (with_reducible refine Kd.C_drewN ?_ _) | (with_reducible refine Kd.C_drew ?_))); (case side4 => exact (Kd.V_reads' HO_13.out).2.1); rintro e w' ⟨rfl, ⟨nd, rfl⟩⟩) | (go_at_call 20; (with_reducible refine (canopyref2_Pairs.calls k3 _ _ x7_10 t188 _ ?side1 ?side2 A76.out).mono ?_); (case side1 => repeat (first | exact (Kd.R_reads' HO_7.out).2.2 | (with_reducible refine Kd.C_alloc ?_ _) | (with_reducible refine Kd.C_drewN ?_ _) | (with_reducible refine Kd.C_drew ?_))); (case side2 => exact (Kd.R_reads' HO_7.out).2.1); rintro e w92 ⟨v189, rfl, ho0, hb⟩; have n0_ := Aside0.mk (Kd.R_elder' (by (with_reducible repeat (first | apply Kd.R_alloc | apply Kd.R_drewN | apply Kd.R_drew)); exact HO_7.out) (Kd.R_base ho0) hb); have n1_ := Aside0.mk (Kd.V_elder' (by (with_reducible repeat (first | apply Kd.V_alloc | apply Kd.V_drewN | apply Kd.V_drew)); exact HO_11.out) (Kd.R_base ho0) hb); have n2_ := Aside0.mk (Kd.V_elder' (by (with_reducible repeat (first | apply Kd.V_alloc | apply Kd.V_drewN | apply Kd.V_drew)); exact HO_12.out) (Kd.R_base ho0) hb); have n3_ := Aside0.mk (Kd.V_elder' (by (with_reducible repeat (first | apply Kd.V_alloc | apply Kd.V_drewN | apply Kd.V_drew)); exact HO_13.out) (Kd.R_base ho0) hb); have n4_ := Aside0.mk (Kd.V_elder' (by (with_reducible repeat (first | apply Kd.V_alloc | apply Kd.V_drewN | apply Kd.V_drew)); exact HO_14.out) (Kd.R_base ho0) hb); have n5_ := Aside0.mk (Kd.R_below (by (with_reducible repeat (first | apply Kd.R_alloc | apply Kd.R_drewN | apply Kd.R_drew)); exact HO185.out) hb); have n6_ := Aside0.mk (Kd.R_lower (Kd.R_new' ho0 (Kd.R_lt (by (with_reducible repeat (first | apply Kd.R_alloc | apply Kd.R_drewN | apply Kd.R_drew)); exact HO_7.out))) (below_size (by repeat (first | (with_reducible first | exact HB.out | apply below_alloc | apply pw_below_drewN | apply below_drew1) | exact HB.out)))); have n7_ := Aside0.mk (Kd.C_below (by repeat (first | (with_reducible exact HR167.out) | (with_reducible refine Kd.C_alloc ?_ _) | (with_reducible refine Kd.C_drewN ?_ _) | (with_reducible refine Kd.C_drew ?_) | exact HR167.out)) hb); have n8_ := Aside0.mk (Kd.C_below (by repeat (first | (with_reducible exact HR174.out) | (with_reducible refine Kd.C_alloc ?_ _) | (with_reducible refine Kd.C_drewN ?_ _) | (with_reducible refine Kd.C_drew ?_) | exact HR174.out)) hb); have n9_ := Aside0.mk (below_step (by repeat (first | (with_reducible first | exact HB.out | apply below_alloc | apply pw_below_drewN | apply below_drew1) | exact HB.out)) hb); clear HO_7; clear HO_11; clear HO_12; clear HO_13; clear HO_14; clear HO185; clear HR167; clear HR174; clear HB; have HO_7 := n0_; have HO_11 := n1_; have HO_12 := n2_; have HO_13 := n3_; have HO_14 := n4_; have HO185 := n5_; have HO190 := n6_; have HR167 := n7_; have HR174 := n8_; have HB := n9_; clear n0_ n1_ n2_ n3_ n4_ n5_ n6_ n7_ n8_ n9_; (try clear hb); (try clear hb2); (try clear hk); (try clear hi); (try clear ho0); obtain ⟨Ao93, co93, eo93⟩ := Kd.V_slice HO_12.out; subst eo93; obtain ⟨Ao94, co94, eo94⟩ := Kd.R_slice HO190.out; subst eo94) | (go_at_call 19; (with_reducible refine (canopyref2_Same.calls k3 _ _ t144 _ _ t188 false _ ?side1 ?side2 ?side3 ?side4 A77.out).mono ?_); (case side1 => repeat (first | exact (Kd.V_reads' HO_12.out).2.2 | (with_reducible refine Kd.C_alloc ?_ _) | (with_reducible refine Kd.C_drewN ?_ _) | (with_reducible refine Kd.C_drew ?_))); (case side2 => exact (Kd.V_reads' HO_12.out).2.1); (case side3 => repeat (first | exact (Kd.R_reads' HO190.out).2.2 | (with_reducible refine Kd.C_alloc ?_ _) | (with_reducible refine Kd.C_drewN ?_ _) | (with_reducible refine Kd.C_drew ?_))); (case side4 => exact (Kd.R_reads' HO190.out).2.1); rintro e w' ⟨rfl, ⟨nd, rfl⟩⟩))
                     go_ret
                     exact ⟨by first | rfl | (simp [errW_none, errW_some] <;> rfl) | (simp [*, errW_none, errW_some] <;> rfl), by repeat (first | (with_reducible first | exact HB.out | apply below_alloc | apply pw_below_drewN | apply below_drew1) | exact HB.out)⟩
                   ·replace c75 := Bool.eq_false_iff.mpr c75
                    subst c75
                    have H1 : (some false) = some r := by rw [if_neg (show ¬ (false = true) by decide)] at H; exact H
                    clear H
                    have H := H1
                    clear H1
                    obtain rfl := Option.some.inj H
                    obtain ⟨Ao95, co95, eo95⟩ := Kd.V_slice HO_11.out
                    subst eo95
                    go_wp2_with (first | ((with_reducible refine gate_callee (f := 18) rfl ?_); refine goesL_ (some 104) rfl rfl Try.func18 (by kernel_rfl) rfl #[.slice A1 l1.length c1] rfl (by (try simp only [List.map_toArray, List.map_cons, List.map_nil]); first | done | rfl | (simp only [List.length_drop, List.length_take]; rfl)) ?_; (with_reducible refine (canopyref2_Ints.calls _ _ l1 t183 _ ?side1 ?side2 A71.out).mono ?_); (case side1 => repeat (first | exact (Kd.C_below HR1.out HB.out) | (with_reducible refine Kd.C_alloc ?_ _) | (with_reducible refine Kd.C_drewN ?_ _) | (with_reducible refine Kd.C_drew ?_))); (case side2 => exact HC1.out); rintro e w96 ⟨v184, rfl, ho0, hb⟩; refine ⟨_, rfl, ?_⟩; have n0_ := Aside0.mk (Kd.R_below (by (with_reducible repeat (first | apply Kd.R_alloc | apply Kd.R_drewN | apply Kd.R_drew)); exact HO_7.out) hb); have n1_ := Aside0.mk (Kd.V_elder' (by (with_reducible repeat (first | apply Kd.V_alloc | apply Kd.V_drewN | apply Kd.V_drew)); exact HO_11.out) (Kd.R_base ho0) hb); have n2_ := Aside0.mk (Kd.V_elder' (by (with_reducible repeat (first | apply Kd.V_alloc | apply Kd.V_drewN | apply Kd.V_drew)); exact HO_12.out) (Kd.R_base ho0) hb); have n3_ := Aside0.mk (Kd.V_elder' (by (with_reducible repeat (first | apply Kd.V_alloc | apply Kd.V_drewN | apply Kd.V_drew)); exact HO_13.out) (Kd.R_base ho0) hb); have n4_ := Aside0.mk (Kd.V_elder' (by (with_reducible repeat (first | apply Kd.V_alloc | apply Kd.V_drewN | apply Kd.V_drew)); exact HO_14.out) (Kd.R_base ho0) hb); have n5_ := Aside0.mk (Kd.R_lower ho0 (below_size (by repeat (first | (with_reducible first | exact HB.out | apply below_alloc | apply pw_below_drewN | apply below_drew1) | exact HB.out)))); have n6_ := Aside0.mk (Kd.C_below (by repeat (first | (with_reducible exact HR167.out) | (with_reducible refine Kd.C_alloc ?_ _) | (with_reducible refine Kd.C_drewN ?_ _) | (with_reducible refine Kd.C_drew ?_) | exact HR167.out)) hb); have n7_ := Aside0.mk (Kd.C_below (by repeat (first | (with_reducible exact HR174.out) | (with_reducible refine Kd.C_alloc ?_ _) | (with_reducible refine Kd.C_drewN ?_ _) | (with_reducible refine Kd.C_drew ?_) | exact HR174.out)) hb); have n8_ := Aside0.mk (below_step (by repeat (first | (with_reducible first | exact HB.out | apply below_alloc | apply pw_below_drewN | apply below_drew1) | exact HB.out)) hb); clear HO_7; clear HO_11; clear HO_12; clear HO_13; clear HO_14; clear HR167; clear HR174; clear HB; have HO_7 := n0_; have HO_11 := n1_; have HO_12 := n2_; have HO_13 := n3_; have HO_14 := n4_; have HO185 := n5_; have HR167 := n6_; have HR174 := n7_; have HB := n8_; clear n0_ n1_ n2_ n3_ n4_ n5_ n6_ n7_ n8_; (try clear hb); (try clear hb2); (try clear hk); (try clear hi); (try clear ho0); obtain ⟨Ao97, co97, eo97⟩ := Kd.R_slice HO185.out; subst eo97) | ((with_reducible refine gate_callee (f := 17) rfl ?_); refine goesL_ (some 105) rfl rfl Try.func17 (by kernel_rfl) rfl #[.slice Ao95 t141.length co95, .slice Ao97 t183.length co97] rfl (by (try simp only [List.map_toArray, List.map_cons, List.map_nil]); first | done | rfl | (simp only [List.length_drop, List.length_take]; rfl)) ?_; (with_reducible refine (canopylaw2_ints.calls k3 _ _ t141 _ _ t183 true _ ?side1 ?side2 ?side3 ?side4 A72.out).mono ?_); (case side1 => repeat (first | exact (Kd.V_reads' HO_11.out).2.2 | (with_reducible refine Kd.C_alloc ?_ _) | (with_reducible refine Kd.C_drewN ?_ _) | (with_reducible refine Kd.C_drew ?_))); (case side2 => exact (Kd.V_reads' HO_11.out).2.1); (case side3 => repeat (first | exact (Kd.R_reads' HO185.out).2.2 | (with_reducible refine Kd.C_alloc ?_ _) | (with_reducible refine Kd.C_drewN ?_ _) | (with_reducible refine Kd.C_drew ?_))); (case side4 => exact (Kd.R_reads' HO185.out).2.1); rintro e w' ⟨rfl, ⟨nd, rfl⟩⟩; refine ⟨_, rfl, ?_⟩; obtain ⟨Ao98, co98, eo98⟩ := Kd.V_slice HO_13.out; subst eo98) | (go_at_call 17; (with_reducible refine (canopylaw2_ints.calls k3 _ _ t141 _ _ t158 false _ ?side1 ?side2 ?side3 ?side4 A74.out).mono ?_); (case side1 => repeat (first | exact (Kd.V_reads' HO_11.out).2.2 | (with_reducible refine Kd.C_alloc ?_ _) | (with_reducible refine Kd.C_drewN ?_ _) | (with_reducible refine Kd.C_drew ?_))); (case side2 => exact (Kd.V_reads' HO_11.out).2.1); (case side3 => repeat (first | exact (Kd.V_reads' HO_13.out).2.2 | (with_reducible refine Kd.C_alloc ?_ _) | (with_reducible refine Kd.C_drewN ?_ _) | (with_reducible refine Kd.C_drew ?_))); (case side4 => exact (Kd.V_reads' HO_13.out).2.1); rintro e w' ⟨rfl, ⟨nd, rfl⟩⟩))
                    go_ret
                    exact ⟨by first | rfl | (simp [errW_none, errW_some] <;> rfl) | (simp [*, errW_none, errW_some] <;> rfl), by repeat (first | (with_reducible first | exact HB.out | apply below_alloc | apply pw_below_drewN | apply below_drew1) | exact HB.out)⟩
                  ·replace c73 := Bool.eq_false_iff.mpr c73
                   subst c73
                   have H1 : (some false) = some r := by rw [if_neg (show ¬ (false = true) by decide)] at H; exact H
                   clear H
                   have H := H1
                   clear H1
                   obtain rfl := Option.some.inj H
                   obtain ⟨Ao99, co99, eo99⟩ := Kd.V_slice HO_11.out
                   subst eo99
                   go_wp2_with (first | ((with_reducible refine gate_callee (f := 18) rfl ?_); refine goesL_ (some 104) rfl rfl Try.func18 (by kernel_rfl) rfl #[.slice A1 l1.length c1] rfl (by (try simp only [List.map_toArray, List.map_cons, List.map_nil]); first | done | rfl | (simp only [List.length_drop, List.length_take]; rfl)) ?_; (with_reducible refine (canopyref2_Ints.calls _ _ l1 t183 _ ?side1 ?side2 A71.out).mono ?_); (case side1 => repeat (first | exact (Kd.C_below HR1.out HB.out) | (with_reducible refine Kd.C_alloc ?_ _) | (with_reducible refine Kd.C_drewN ?_ _) | (with_reducible refine Kd.C_drew ?_))); (case side2 => exact HC1.out); rintro e w100 ⟨v184, rfl, ho0, hb⟩; refine ⟨_, rfl, ?_⟩; have n0_ := Aside0.mk (Kd.R_below (by (with_reducible repeat (first | apply Kd.R_alloc | apply Kd.R_drewN | apply Kd.R_drew)); exact HO_7.out) hb); have n1_ := Aside0.mk (Kd.V_elder' (by (with_reducible repeat (first | apply Kd.V_alloc | apply Kd.V_drewN | apply Kd.V_drew)); exact HO_11.out) (Kd.R_base ho0) hb); have n2_ := Aside0.mk (Kd.V_elder' (by (with_reducible repeat (first | apply Kd.V_alloc | apply Kd.V_drewN | apply Kd.V_drew)); exact HO_12.out) (Kd.R_base ho0) hb); have n3_ := Aside0.mk (Kd.V_elder' (by (with_reducible repeat (first | apply Kd.V_alloc | apply Kd.V_drewN | apply Kd.V_drew)); exact HO_13.out) (Kd.R_base ho0) hb); have n4_ := Aside0.mk (Kd.V_elder' (by (with_reducible repeat (first | apply Kd.V_alloc | apply Kd.V_drewN | apply Kd.V_drew)); exact HO_14.out) (Kd.R_base ho0) hb); have n5_ := Aside0.mk (Kd.R_lower ho0 (below_size (by repeat (first | (with_reducible first | exact HB.out | apply below_alloc | apply pw_below_drewN | apply below_drew1) | exact HB.out)))); have n6_ := Aside0.mk (Kd.C_below (by repeat (first | (with_reducible exact HR167.out) | (with_reducible refine Kd.C_alloc ?_ _) | (with_reducible refine Kd.C_drewN ?_ _) | (with_reducible refine Kd.C_drew ?_) | exact HR167.out)) hb); have n7_ := Aside0.mk (Kd.C_below (by repeat (first | (with_reducible exact HR174.out) | (with_reducible refine Kd.C_alloc ?_ _) | (with_reducible refine Kd.C_drewN ?_ _) | (with_reducible refine Kd.C_drew ?_) | exact HR174.out)) hb); have n8_ := Aside0.mk (below_step (by repeat (first | (with_reducible first | exact HB.out | apply below_alloc | apply pw_below_drewN | apply below_drew1) | exact HB.out)) hb); clear HO_7; clear HO_11; clear HO_12; clear HO_13; clear HO_14; clear HR167; clear HR174; clear HB; have HO_7 := n0_; have HO_11 := n1_; have HO_12 := n2_; have HO_13 := n3_; have HO_14 := n4_; have HO185 := n5_; have HR167 := n6_; have HR174 := n7_; have HB := n8_; clear n0_ n1_ n2_ n3_ n4_ n5_ n6_ n7_ n8_; (try clear hb); (try clear hb2); (try clear hk); (try clear hi); (try clear ho0); obtain ⟨Ao101, co101, eo101⟩ := Kd.R_slice HO185.out; subst eo101) | ((with_reducible refine gate_callee (f := 17) rfl ?_); refine goesL_ (some 105) rfl rfl Try.func17 (by kernel_rfl) rfl #[.slice Ao99 t141.length co99, .slice Ao101 t183.length co101] rfl (by (try simp only [List.map_toArray, List.map_cons, List.map_nil]); first | done | rfl | (simp only [List.length_drop, List.length_take]; rfl)) ?_; (with_reducible refine (canopylaw2_ints.calls k3 _ _ t141 _ _ t183 false _ ?side1 ?side2 ?side3 ?side4 A72.out).mono ?_); (case side1 => repeat (first | exact (Kd.V_reads' HO_11.out).2.2 | (with_reducible refine Kd.C_alloc ?_ _) | (with_reducible refine Kd.C_drewN ?_ _) | (with_reducible refine Kd.C_drew ?_))); (case side2 => exact (Kd.V_reads' HO_11.out).2.1); (case side3 => repeat (first | exact (Kd.R_reads' HO185.out).2.2 | (with_reducible refine Kd.C_alloc ?_ _) | (with_reducible refine Kd.C_drewN ?_ _) | (with_reducible refine Kd.C_drew ?_))); (case side4 => exact (Kd.R_reads' HO185.out).2.1); rintro e w' ⟨rfl, ⟨nd, rfl⟩⟩; refine ⟨_, rfl, ?_⟩))
                   go_ret
                   exact ⟨by first | rfl | (simp [errW_none, errW_some] <;> rfl) | (simp [*, errW_none, errW_some] <;> rfl), by repeat (first | (with_reducible first | exact HB.out | apply below_alloc | apply pw_below_drewN | apply below_drew1) | exact HB.out)⟩
              ·rw [if_neg c38] at H
               exact absurd H (by simp)
             ·rw [if_neg c35] at H
              exact absurd H (by simp)
            ·rw [if_neg c34] at H
             exact absurd H (by simp)
           ·rw [if_neg c33] at H
            exact absurd H (by simp)
          ·rw [if_neg c31] at H
           exact absurd H (by simp)
         ·rw [if_neg c28] at H
          exact absurd H (by simp)
        ·rw [if_neg c27] at H
         exact absurd H (by simp)
       ·rw [if_neg c26] at H
        exact absurd H (by simp)
 ·replace c5 := Bool.eq_false_iff.mpr c5
  subst c5
  have H1 : (some false) = some r := by rw [if_neg (show ¬ (false = true) by decide)] at H; exact H
  clear H
  have H := H1
  clear H1
  obtain rfl := Option.some.inj H
  go_enter Try.func3, Try.ntmps3
  go_wp2_with (first | ((with_reducible refine gate_callee (f := 12) rfl ?_); refine goesL_ (some 16) rfl rfl Try.func12 (by kernel_rfl) rfl #[] rfl (by (try simp only [List.map_toArray, List.map_cons, List.map_nil]); first | done | rfl | (simp only [List.length_drop, List.length_take]; rfl)) ?_; (with_reducible refine (canopylaw2_known.calls  false _ A4.out).mono ?_); rintro e w102 ⟨rfl, hb⟩; refine ⟨_, rfl, ?_⟩; have n0_ := Aside0.mk (below_step (by repeat (first | (with_reducible first | exact HB.out | apply below_alloc | apply pw_below_drewN | apply below_drew1) | exact HB.out)) hb); clear HB; have HB := n0_; clear n0_; (try clear hb); (try clear hb2); (try clear hk); (try clear hi)))
  go_ret
  exact ⟨by first | rfl | (simp [errW_none, errW_some] <;> rfl) | (simp [*, errW_none, errW_some] <;> rfl), by repeat (first | (with_reducible first | exact HB.out | apply below_alloc | apply pw_below_drewN | apply below_drew1) | exact HB.out)⟩

/-- THE ONE PURE STATEMENT of canopylaw2_SetsRows: yours. -/
def canopylaw2_SetsRows.Pure : Prop := ∀ (l0 : List Int) (l1 : List Int) (a2 : Int), l0.length ≤ maxLen → l0.length * 8 ≤ 140737488351232 → (∀ x ∈ l0, (Lit.int .i64 x).wf = true) → l1.length ≤ maxLen → l1.length * 8 ≤ 140737488351232 → (∀ x ∈ l1, (Lit.int .i64 x).wf = true) → (Lit.int .i64 a2).wf = true → ∃ k, canopylaw2_SetsRows.f k l0 l1 a2 = some true
theorem canopylaw2_SetsRows.walk (P : canopylaw2_SetsRows.Pure) (a0 : Option Addr) (len0 cap0 : Nat) (z0 : List Int) (a1 : Option Addr) (len1 cap1 : Nat) (z1 : List Int) (a2 : Int) (w : World) (w0 : (a0 = none ∧ len0 = 0 ∧ cap0 = 0 ∧ z0 = []) ∨ ∃ x, a0 = some x ∧ len0 ≤ cap0 ∧ cap0 ≤ maxLen ∧ z0.length = cap0 ∧ (∀ i, i < z0.length → w.cell? (x.add i) = some (.int .i64 (z0.getD i 0))) ∧ ∀ n ∈ z0, (Lit.int .i64 n).wf = true) (y0 : len0 * 8 ≤ 140737488351232) (w1 : (a1 = none ∧ len1 = 0 ∧ cap1 = 0 ∧ z1 = []) ∨ ∃ x, a1 = some x ∧ len1 ≤ cap1 ∧ cap1 ≤ maxLen ∧ z1.length = cap1 ∧ (∀ i, i < z1.length → w.cell? (x.add i) = some (.int .i64 (z1.getD i 0))) ∧ ∀ n ∈ z1, (Lit.int .i64 n).wf = true) (y1 : len1 * 8 ≤ 140737488351232) (w2 : (Lit.int .i64 a2).wf = true) :
  Calls Try.prog 3 #[.slice a0 len0 cap0, .slice a1 len1 cap1, .int .i64 a2] w fun e w' => e = .returned (.bool true) ∧ Below w.heap.size w w' := by
 obtain ⟨l0, rfl, hr0, hm0, hw0, hc0⟩ := ReadsInt.ofRowC w0
 obtain ⟨l1, rfl, hr1, hm1, hw1, hc1⟩ := ReadsInt.ofRowC w1
 obtain ⟨k, h⟩ := P l0 l1 a2 hm0 y0 hw0 hm1 y1 hw1 w2
 refine (canopylaw2_SetsRows.calls k _ _ l0 _ _ l1 a2 true w (Kd.C_of_reads (d := (0 : Int)) (h1 := fun _ => rfl) hr0) hc0 (Kd.C_of_reads (d := (0 : Int)) (h1 := fun _ => rfl) hr1) hc1 h).mono ?_
 rintro e w' ⟨rfl, hd⟩
 exact ⟨rfl, hd⟩

end Go.Proofs.Ytmkpfamngedcmaa.P
