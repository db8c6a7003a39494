/- Words and walks of this claim: PCanopyref3Same. -/
import Derived.Test.YtejpijgfpbcibaaGreatQP0Etc
namespace Go.Proofs.YtejpijgfpbcibaaGreat.P
open Go.RowKit Go.Proofs.YtejpijgfpbcibaaGreatW.PrintWords Go.Proofs.YtejpijgfpbcibaaGreatW.PrintLast Go.Proofs.YtejpijgfpbcibaaGreatW.PrintMore
attribute [local go_sem] max2_int min2_int max_two min_two max_three min_three max_four min_four   -- for this text's walks alone
set_option linter.unusedVariables false
set_option linter.unusedSimpArgs false
attribute [local go_sem high] eqA36 eqA38 eqA40
mutual
def canopyref3_Same.j0 : Nat → Bool → Int → Int → List Int → List Int → List (S36) → List (S38) → List (S40) → Int → Int → List Int → List Int → List (S36) → List (S38) → List (S40) → Option (Bool)
 | 0, _, _, _, _, _, _, _, _, _, _, _, _, _, _, _ => none
 | k + 1, x62, x342000, x342001, x342002, x342003, x342004, x342005, x342006, x343000, x343001, x343002, x343003, x343004, x343005, x343006 => if x62 = true then (some false) else (canopyref3_Same.l0 k 0 x342000 x342001 x342002 x342003 x342004 x342005 x342006 x343000 x343001 x343002 x343003 x343004 x343005 x343006)
def canopyref3_Same.l0 : Nat → Int → Int → Int → List Int → List Int → List (S36) → List (S38) → List (S40) → Int → Int → List Int → List Int → List (S36) → List (S38) → List (S40) → Option (Bool)
 | 0, _, _, _, _, _, _, _, _, _, _, _, _, _, _, _ => none
 | k + 1, x5, x342000, x342001, x342002, x342003, x342004, x342005, x342006, x343000, x343001, x343002, x343003, x343004, x343005, x343006 => if x5 < (x342004.length : Int) then (if 0 ≤ x5 then (if x5 < (x343004.length : Int) then (if (!(((rd_T36 x342004 x5).f0) == ((rd_T36 x343004 x5).f0)) || (!(((rd_T36 x342004 x5).f1) == ((rd_T36 x343004 x5).f1)) || (!(((rd_T36 x342004 x5).f2) == ((rd_T36 x343004 x5).f2)) || (!(((rd_T36 x342004 x5).f3) == ((rd_T36 x343004 x5).f3)))))) = true then (some false) else (canopyref3_Same.l0 k (wrap64 (x5 + 1)) x342000 x342001 x342002 x342003 x342004 x342005 x342006 x343000 x343001 x343002 x343003 x343004 x343005 x343006)) else (none)) else (none)) else (canopyref3_Same.l1 k 0 x342000 x342001 x342002 x342003 x342004 x342005 x342006 x343000 x343001 x343002 x343003 x343004 x343005 x343006)
def canopyref3_Same.l1 : Nat → Int → Int → Int → List Int → List Int → List (S36) → List (S38) → List (S40) → Int → Int → List Int → List Int → List (S36) → List (S38) → List (S40) → Option (Bool)
 | 0, _, _, _, _, _, _, _, _, _, _, _, _, _, _, _ => none
 | k + 1, x6, x342000, x342001, x342002, x342003, x342004, x342005, x342006, x343000, x343001, x343002, x343003, x343004, x343005, x343006 => if x6 < (x342005.length : Int) then (if 0 ≤ x6 then (if x6 < (x343005.length : Int) then (if (!(((rd_T38 x342005 x6).f0) == ((rd_T38 x343005 x6).f0)) || (!(((rd_T38 x342005 x6).f1) == ((rd_T38 x343005 x6).f1)) || (!(((rd_T38 x342005 x6).f2) == ((rd_T38 x343005 x6).f2)) || (!(((rd_T38 x342005 x6).f3) == ((rd_T38 x343005 x6).f3)))))) = true then (some false) else (canopyref3_Same.l1 k (wrap64 (x6 + 1)) x342000 x342001 x342002 x342003 x342004 x342005 x342006 x343000 x343001 x343002 x343003 x343004 x343005 x343006)) else (none)) else (none)) else (canopyref3_Same.l2 k 0 x342000 x342001 x342002 x342003 x342004 x342005 x342006 x343000 x343001 x343002 x343003 x343004 x343005 x343006)
def canopyref3_Same.l2 : Nat → Int → Int → Int → List Int → List Int → List (S36) → List (S38) → List (S40) → Int → Int → List Int → List Int → List (S36) → List (S38) → List (S40) → Option (Bool)
 | 0, _, _, _, _, _, _, _, _, _, _, _, _, _, _, _ => none
 | k + 1, x7, x342000, x342001, x342002, x342003, x342004, x342005, x342006, x343000, x343001, x343002, x343003, x343004, x343005, x343006 => if x7 < (x342006.length : Int) then (if 0 ≤ x7 then (if x7 < (x343006.length : Int) then (if (!(((rd_T40 x342006 x7).f0) == ((rd_T40 x343006 x7).f0)) || (!(((rd_T40 x342006 x7).f1) == ((rd_T40 x343006 x7).f1)) || (!(((rd_T40 x342006 x7).f2) == ((rd_T40 x343006 x7).f2))))) = true then (some false) else (canopyref3_Same.l2 k (wrap64 (x7 + 1)) x342000 x342001 x342002 x342003 x342004 x342005 x342006 x343000 x343001 x343002 x343003 x343004 x343005 x343006)) else (none)) else (none)) else (some true)
end
def canopyref3_Same.f (k : Nat) (a0_0 : Int) (a0_1 : Int) (l0_2 : List Int) (l0_3 : List Int) (l0_4 : List (S36)) (l0_5 : List (S38)) (l0_6 : List (S40)) (a1_0 : Int) (a1_1 : Int) (l1_2 : List Int) (l1_3 : List Int) (l1_4 : List (S36)) (l1_5 : List (S38)) (l1_6 : List (S40)) : Option (Bool) := if a0_0 = a1_0 then (if a0_1 = a1_1 then ((canopyref1_Ints.f k l0_2 l1_2).bind fun t343 => (if t343 = true then ((canopyref1_Ints.f k l0_3 l1_3).bind fun t344 => (if t344 = true then (if (l0_4.length : Int) = (l1_4.length : Int) then (if (l0_5.length : Int) = (l1_5.length : Int) then (canopyref3_Same.j0 k ((l0_6.length : Int) != (l1_6.length : Int)) a0_0 a0_1 l0_2 l0_3 l0_4 l0_5 l0_6 a1_0 a1_1 l1_2 l1_3 l1_4 l1_5 l1_6) else (canopyref3_Same.j0 k true a0_0 a0_1 l0_2 l0_3 l0_4 l0_5 l0_6 a1_0 a1_1 l1_2 l1_3 l1_4 l1_5 l1_6)) else (canopyref3_Same.j0 k true a0_0 a0_1 l0_2 l0_3 l0_4 l0_5 l0_6 a1_0 a1_1 l1_2 l1_3 l1_4 l1_5 l1_6)) else (canopyref3_Same.j0 k true a0_0 a0_1 l0_2 l0_3 l0_4 l0_5 l0_6 a1_0 a1_1 l1_2 l1_3 l1_4 l1_5 l1_6))) else (canopyref3_Same.j0 k true a0_0 a0_1 l0_2 l0_3 l0_4 l0_5 l0_6 a1_0 a1_1 l1_2 l1_3 l1_4 l1_5 l1_6))) else (canopyref3_Same.j0 k true a0_0 a0_1 l0_2 l0_3 l0_4 l0_5 l0_6 a1_0 a1_1 l1_2 l1_3 l1_4 l1_5 l1_6)) else (canopyref3_Same.j0 k true a0_0 a0_1 l0_2 l0_3 l0_4 l0_5 l0_6 a1_0 a1_1 l1_2 l1_3 l1_4 l1_5 l1_6)
theorem canopyref3_Same.mono_l : ∀ k, (∀ y0 y1 y2 y3 y4 y5 y6 y7 y8 y9 y10 y11 y12 y13 y14, LeO (canopyref3_Same.j0 k y0 y1 y2 y3 y4 y5 y6 y7 y8 y9 y10 y11 y12 y13 y14) (canopyref3_Same.j0 (k + 1) y0 y1 y2 y3 y4 y5 y6 y7 y8 y9 y10 y11 y12 y13 y14)) ∧ (∀ y0 y1 y2 y3 y4 y5 y6 y7 y8 y9 y10 y11 y12 y13 y14, LeO (canopyref3_Same.l0 k y0 y1 y2 y3 y4 y5 y6 y7 y8 y9 y10 y11 y12 y13 y14) (canopyref3_Same.l0 (k + 1) y0 y1 y2 y3 y4 y5 y6 y7 y8 y9 y10 y11 y12 y13 y14)) ∧ (∀ y0 y1 y2 y3 y4 y5 y6 y7 y8 y9 y10 y11 y12 y13 y14, LeO (canopyref3_Same.l1 k y0 y1 y2 y3 y4 y5 y6 y7 y8 y9 y10 y11 y12 y13 y14) (canopyref3_Same.l1 (k + 1) y0 y1 y2 y3 y4 y5 y6 y7 y8 y9 y10 y11 y12 y13 y14)) ∧ (∀ y0 y1 y2 y3 y4 y5 y6 y7 y8 y9 y10 y11 y12 y13 y14, LeO (canopyref3_Same.l2 k y0 y1 y2 y3 y4 y5 y6 y7 y8 y9 y10 y11 y12 y13 y14) (canopyref3_Same.l2 (k + 1) y0 y1 y2 y3 y4 y5 y6 y7 y8 y9 y10 y11 y12 y13 y14))
 | 0 => ⟨fun _ _ _ _ _ _ _ _ _ _ _ _ _ _ _ r h => by simp [canopyref3_Same.j0] at h, fun _ _ _ _ _ _ _ _ _ _ _ _ _ _ _ r h => by simp [canopyref3_Same.l0] at h, fun _ _ _ _ _ _ _ _ _ _ _ _ _ _ _ r h => by simp [canopyref3_Same.l1] at h, fun _ _ _ _ _ _ _ _ _ _ _ _ _ _ _ r h => by simp [canopyref3_Same.l2] at h⟩
 | k + 1 => by
  obtain ⟨ih0, ih1, ih2, ih3⟩ := canopyref3_Same.mono_l k
  refine ⟨?_, ?_, ?_, ?_⟩
  ·intro y0 y1 y2 y3 y4 y5 y6 y7 y8 y9 y10 y11 y12 y13 y14
   unfold canopyref3_Same.j0
   repeat' first
   | (with_reducible exact ih0 _ _ _ _ _ _ _ _ _ _ _ _ _ _ _)
   | (with_reducible exact ih1 _ _ _ _ _ _ _ _ _ _ _ _ _ _ _)
   | (with_reducible exact ih2 _ _ _ _ _ _ _ _ _ _ _ _ _ _ _)
   | (with_reducible exact ih3 _ _ _ _ _ _ _ _ _ _ _ _ _ _ _)
   | (with_reducible exact canopyref1_Ints.mono _ _ _)
   | (with_reducible exact LeO.refl _)
   | (with_reducible exact LeO.none _)
   | (with_reducible refine LeO.ite ?_ ?_)
   | (with_reducible refine LeO.bind ?_ (fun _ => ?_))
   | exact ih0 _ _ _ _ _ _ _ _ _ _ _ _ _ _ _
   | exact ih1 _ _ _ _ _ _ _ _ _ _ _ _ _ _ _
   | exact ih2 _ _ _ _ _ _ _ _ _ _ _ _ _ _ _
   | exact ih3 _ _ _ _ _ _ _ _ _ _ _ _ _ _ _
   | exact canopyref1_Ints.mono _ _ _
   | exact LeO.none _
   | refine LeO.ite ?_ ?_
   | refine LeO.bind ?_ (fun _ => ?_)
  ·intro y0 y1 y2 y3 y4 y5 y6 y7 y8 y9 y10 y11 y12 y13 y14
   unfold canopyref3_Same.l0
   repeat' first
   | (with_reducible exact ih0 _ _ _ _ _ _ _ _ _ _ _ _ _ _ _)
   | (with_reducible exact ih1 _ _ _ _ _ _ _ _ _ _ _ _ _ _ _)
   | (with_reducible exact ih2 _ _ _ _ _ _ _ _ _ _ _ _ _ _ _)
   | (with_reducible exact ih3 _ _ _ _ _ _ _ _ _ _ _ _ _ _ _)
   | (with_reducible exact canopyref1_Ints.mono _ _ _)
   | (with_reducible exact LeO.refl _)
   | (with_reducible exact LeO.none _)
   | (with_reducible refine LeO.ite ?_ ?_)
   | (with_reducible refine LeO.bind ?_ (fun _ => ?_))
   | exact ih0 _ _ _ _ _ _ _ _ _ _ _ _ _ _ _
   | exact ih1 _ _ _ _ _ _ _ _ _ _ _ _ _ _ _
   | exact ih2 _ _ _ _ _ _ _ _ _ _ _ _ _ _ _
   | exact ih3 _ _ _ _ _ _ _ _ _ _ _ _ _ _ _
   | exact canopyref1_Ints.mono _ _ _
   | exact LeO.none _
   | refine LeO.ite ?_ ?_
   | refine LeO.bind ?_ (fun _ => ?_)
  ·intro y0 y1 y2 y3 y4 y5 y6 y7 y8 y9 y10 y11 y12 y13 y14
   unfold canopyref3_Same.l1
   repeat' first
   | (with_reducible exact ih0 _ _ _ _ _ _ _ _ _ _ _ _ _ _ _)
   | (with_reducible exact ih1 _ _ _ _ _ _ _ _ _ _ _ _ _ _ _)
   | (with_reducible exact ih2 _ _ _ _ _ _ _ _ _ _ _ _ _ _ _)
   | (with_reducible exact ih3 _ _ _ _ _ _ _ _ _ _ _ _ _ _ _)
   | (with_reducible exact canopyref1_Ints.mono _ _ _)
   | (with_reducible exact LeO.refl _)
   | (with_reducible exact LeO.none _)
   | (with_reducible refine LeO.ite ?_ ?_)
   | (with_reducible refine LeO.bind ?_ (fun _ => ?_))
   | exact ih0 _ _ _ _ _ _ _ _ _ _ _ _ _ _ _
   | exact ih1 _ _ _ _ _ _ _ _ _ _ _ _ _ _ _
   | exact ih2 _ _ _ _ _ _ _ _ _ _ _ _ _ _ _
   | exact ih3 _ _ _ _ _ _ _ _ _ _ _ _ _ _ _
   | exact canopyref1_Ints.mono _ _ _
   | exact LeO.none _
   | refine LeO.ite ?_ ?_
   | refine LeO.bind ?_ (fun _ => ?_)
  ·intro y0 y1 y2 y3 y4 y5 y6 y7 y8 y9 y10 y11 y12 y13 y14
   unfold canopyref3_Same.l2
   repeat' first
   | (with_reducible exact ih0 _ _ _ _ _ _ _ _ _ _ _ _ _ _ _)
   | (with_reducible exact ih1 _ _ _ _ _ _ _ _ _ _ _ _ _ _ _)
   | (with_reducible exact ih2 _ _ _ _ _ _ _ _ _ _ _ _ _ _ _)
   | (with_reducible exact ih3 _ _ _ _ _ _ _ _ _ _ _ _ _ _ _)
   | (with_reducible exact canopyref1_Ints.mono _ _ _)
   | (with_reducible exact LeO.refl _)
   | (with_reducible exact LeO.none _)
   | (with_reducible refine LeO.ite ?_ ?_)
   | (with_reducible refine LeO.bind ?_ (fun _ => ?_))
   | exact ih0 _ _ _ _ _ _ _ _ _ _ _ _ _ _ _
   | exact ih1 _ _ _ _ _ _ _ _ _ _ _ _ _ _ _
   | exact ih2 _ _ _ _ _ _ _ _ _ _ _ _ _ _ _
   | exact ih3 _ _ _ _ _ _ _ _ _ _ _ _ _ _ _
   | exact canopyref1_Ints.mono _ _ _
   | exact LeO.none _
   | refine LeO.ite ?_ ?_
   | refine LeO.bind ?_ (fun _ => ?_)
theorem canopyref3_Same.mono : ∀ a0 a1 a2 a3 a4 a5 a6 a7 a8 a9 a10 a11 a12 a13 k, LeO (canopyref3_Same.f k a0 a1 a2 a3 a4 a5 a6 a7 a8 a9 a10 a11 a12 a13) (canopyref3_Same.f (k + 1) a0 a1 a2 a3 a4 a5 a6 a7 a8 a9 a10 a11 a12 a13) := by
 intro a0 a1 a2 a3 a4 a5 a6 a7 a8 a9 a10 a11 a12 a13 k
 obtain ⟨ih0, ih1, ih2, ih3⟩ := canopyref3_Same.mono_l k
 unfold canopyref3_Same.f
 repeat' first
  | (with_reducible exact ih0 _ _ _ _ _ _ _ _ _ _ _ _ _ _ _)
  | (with_reducible exact ih1 _ _ _ _ _ _ _ _ _ _ _ _ _ _ _)
  | (with_reducible exact ih2 _ _ _ _ _ _ _ _ _ _ _ _ _ _ _)
  | (with_reducible exact ih3 _ _ _ _ _ _ _ _ _ _ _ _ _ _ _)
  | (with_reducible exact canopyref1_Ints.mono _ _ _)
  | (with_reducible exact LeO.refl _)
  | (with_reducible exact LeO.none _)
  | (with_reducible refine LeO.ite ?_ ?_)
  | (with_reducible refine LeO.bind ?_ (fun _ => ?_))
  | exact ih0 _ _ _ _ _ _ _ _ _ _ _ _ _ _ _
  | exact ih1 _ _ _ _ _ _ _ _ _ _ _ _ _ _ _
  | exact ih2 _ _ _ _ _ _ _ _ _ _ _ _ _ _ _
  | exact ih3 _ _ _ _ _ _ _ _ _ _ _ _ _ _ _
  | exact canopyref1_Ints.mono _ _ _
  | exact LeO.none _
  | refine LeO.ite ?_ ?_
  | refine LeO.bind ?_ (fun _ => ?_)
set_option maxHeartbeats 8000000 in
set_option maxRecDepth 100000 in
theorem canopyref3_Same.calls (k : Nat) (a0_0 : Int) (a0_1 : Int) (A0_2 : Option Addr) (c0_2 : Nat) (l0_2 : List Int) (A0_3 : Option Addr) (c0_3 : Nat) (l0_3 : List Int) (A0_4 : Option Addr) (c0_4 : Nat) (l0_4 : List (S36)) (A0_5 : Option Addr) (c0_5 : Nat) (l0_5 : List (S38)) (A0_6 : Option Addr) (c0_6 : Nat) (l0_6 : List (S40)) (a1_0 : Int) (a1_1 : Int) (A1_2 : Option Addr) (c1_2 : Nat) (l1_2 : List Int) (A1_3 : Option Addr) (c1_3 : Nat) (l1_3 : List Int) (A1_4 : Option Addr) (c1_4 : Nat) (l1_4 : List (S36)) (A1_5 : Option Addr) (c1_5 : Nat) (l1_5 : List (S38)) (A1_6 : Option Addr) (c1_6 : Nat) (l1_6 : List (S40)) (r : Bool) (w : World) (hr0_2 : Kd.C (Kd.int .i64) w A0_2 l0_2.length l0_2) (hc0_2 : l0_2.length ≤ c0_2) (hr0_3 : Kd.C (Kd.int .i64) w A0_3 l0_3.length l0_3) (hc0_3 : l0_3.length ≤ c0_3) (hr0_4 : Kd.C k36 w A0_4 l0_4.length l0_4) (hc0_4 : l0_4.length ≤ c0_4) (hr0_5 : Kd.C k38 w A0_5 l0_5.length l0_5) (hc0_5 : l0_5.length ≤ c0_5) (hr0_6 : Kd.C k40 w A0_6 l0_6.length l0_6) (hc0_6 : l0_6.length ≤ c0_6) (hr1_2 : Kd.C (Kd.int .i64) w A1_2 l1_2.length l1_2) (hc1_2 : l1_2.length ≤ c1_2) (hr1_3 : Kd.C (Kd.int .i64) w A1_3 l1_3.length l1_3) (hc1_3 : l1_3.length ≤ c1_3) (hr1_4 : Kd.C k36 w A1_4 l1_4.length l1_4) (hc1_4 : l1_4.length ≤ c1_4) (hr1_5 : Kd.C k38 w A1_5 l1_5.length l1_5) (hc1_5 : l1_5.length ≤ c1_5) (hr1_6 : Kd.C k40 w A1_6 l1_6.length l1_6) (hc1_6 : l1_6.length ≤ c1_6) (h : canopyref3_Same.f k a0_0 a0_1 l0_2 l0_3 l0_4 l0_5 l0_6 a1_0 a1_1 l1_2 l1_3 l1_4 l1_5 l1_6 = some r) :
 Calls Tryz.prog 23 #[.agg #[.int .i64 a0_0, .int .i64 a0_1, .slice A0_2 l0_2.length c0_2, .slice A0_3 l0_3.length c0_3, .slice A0_4 l0_4.length c0_4, .slice A0_5 l0_5.length c0_5, .slice A0_6 l0_6.length c0_6], .agg #[.int .i64 a1_0, .int .i64 a1_1, .slice A1_2 l1_2.length c1_2, .slice A1_3 l1_3.length c1_3, .slice A1_4 l1_4.length c1_4, .slice A1_5 l1_5.length c1_5, .slice A1_6 l1_6.length c1_6]] w fun e w' => e = .returned (.bool r) ∧ Below w.heap.size w w' := by
 have hu30 := Tryz.underlying30
 have hu36 := Tryz.underlying36
 have hu38 := Tryz.underlying38
 have hu40 := Tryz.underlying40
 have HR0_2 := Aside0.mk hr0_2
 have HC0_2 := Aside0.mk hc0_2
 clear hr0_2 hc0_2
 have HR0_3 := Aside0.mk hr0_3
 have HC0_3 := Aside0.mk hc0_3
 clear hr0_3 hc0_3
 have HR0_4 := Aside0.mk hr0_4
 have HC0_4 := Aside0.mk hc0_4
 clear hr0_4 hc0_4
 have HR0_5 := Aside0.mk hr0_5
 have HC0_5 := Aside0.mk hc0_5
 clear hr0_5 hc0_5
 have HR0_6 := Aside0.mk hr0_6
 have HC0_6 := Aside0.mk hc0_6
 clear hr0_6 hc0_6
 have HR1_2 := Aside0.mk hr1_2
 have HC1_2 := Aside0.mk hc1_2
 clear hr1_2 hc1_2
 have HR1_3 := Aside0.mk hr1_3
 have HC1_3 := Aside0.mk hc1_3
 clear hr1_3 hc1_3
 have HR1_4 := Aside0.mk hr1_4
 have HC1_4 := Aside0.mk hc1_4
 clear hr1_4 hc1_4
 have HR1_5 := Aside0.mk hr1_5
 have HC1_5 := Aside0.mk hc1_5
 clear hr1_5 hc1_5
 have HR1_6 := Aside0.mk hr1_6
 have HC1_6 := Aside0.mk hc1_6
 clear hr1_6 hc1_6
 have HB := Aside0.mk (Below.refl w.heap.size w)
 have H : (if a0_0 = a1_0 then (if a0_1 = a1_1 then ((canopyref1_Ints.f k l0_2 l1_2).bind fun t343 => (if t343 = true then ((canopyref1_Ints.f k l0_3 l1_3).bind fun t344 => (if t344 = true then (if (l0_4.length : Int) = (l1_4.length : Int) then (if (l0_5.length : Int) = (l1_5.length : Int) then (canopyref3_Same.j0 k ((l0_6.length : Int) != (l1_6.length : Int)) a0_0 a0_1 l0_2 l0_3 l0_4 l0_5 l0_6 a1_0 a1_1 l1_2 l1_3 l1_4 l1_5 l1_6) else (canopyref3_Same.j0 k true a0_0 a0_1 l0_2 l0_3 l0_4 l0_5 l0_6 a1_0 a1_1 l1_2 l1_3 l1_4 l1_5 l1_6)) else (canopyref3_Same.j0 k true a0_0 a0_1 l0_2 l0_3 l0_4 l0_5 l0_6 a1_0 a1_1 l1_2 l1_3 l1_4 l1_5 l1_6)) else (canopyref3_Same.j0 k true a0_0 a0_1 l0_2 l0_3 l0_4 l0_5 l0_6 a1_0 a1_1 l1_2 l1_3 l1_4 l1_5 l1_6))) else (canopyref3_Same.j0 k true a0_0 a0_1 l0_2 l0_3 l0_4 l0_5 l0_6 a1_0 a1_1 l1_2 l1_3 l1_4 l1_5 l1_6))) else (canopyref3_Same.j0 k true a0_0 a0_1 l0_2 l0_3 l0_4 l0_5 l0_6 a1_0 a1_1 l1_2 l1_3 l1_4 l1_5 l1_6)) else (canopyref3_Same.j0 k true a0_0 a0_1 l0_2 l0_3 l0_4 l0_5 l0_6 a1_0 a1_1 l1_2 l1_3 l1_4 l1_5 l1_6)) = some r := h
 clear h
 have HC3 := Aside0.mk H
 clear H
 go_enter Tryz.func23, Tryz.ntmps23
 go_upto_region 1 with (first | ((with_reducible refine gate_dst (N := 2) rfl ?_); (try (refine gate_guard (by rfl) ?_; dsimp only)); refine box_event ?hg (N := 2) ?hd (cs := #[.int .i64 a0_0, .int .i64 a0_1, .slice A0_2 l0_2.length c0_2, .slice A0_3 l0_3.length c0_3, .slice A0_4 l0_4.length c0_4, .slice A0_5 l0_5.length c0_5, .slice A0_6 l0_6.length c0_6]) (t := 30) ?hr ?_; (case hd => rfl); (case hg => rfl); (case hr => first | (go_simp; done) | (go_simp; rfl)); intro gb341 hg w4 hbox hb; have n0_ := Aside0.mk (below_step (by repeat (first | (with_reducible first | exact HB.out | apply below_alloc | apply pw_below_drewN | apply below_drew1) | exact HB.out)) hb); have n1_ := Aside0.mk (hbox); have n2_ := Aside0.mk ((by rw [hg]; exact (below_size (by repeat (first | (with_reducible first | exact HB.out | apply below_alloc | apply pw_below_drewN | apply below_drew1) | exact HB.out))) : w.heap.size ≤ gb341)); have n3_ := Aside0.mk ((by rw [hg]; exact (below_size (by repeat (first | (with_reducible first | exact HB.out | apply below_alloc | apply pw_below_drewN | apply below_drew1) | exact HB.out))) : w.heap.size ≤ gb341)); clear HB; have HB := n0_; have BK341 := n1_; have GW341 := n2_; have GE341 := n3_; clear n0_ n1_ n2_ n3_; clear hb hbox hg) | ((with_reducible refine gate_dst (N := 3) rfl ?_); (try (refine gate_guard (by rfl) ?_; dsimp only)); refine box_event ?hg (N := 3) ?hd (cs := #[.int .i64 a1_0, .int .i64 a1_1, .slice A1_2 l1_2.length c1_2, .slice A1_3 l1_3.length c1_3, .slice A1_4 l1_4.length c1_4, .slice A1_5 l1_5.length c1_5, .slice A1_6 l1_6.length c1_6]) (t := 30) ?hr ?_; (case hd => rfl); (case hg => rfl); (case hr => first | (go_simp; done) | (go_simp; rfl)); intro gb342 hg w5 hbox hb; have n0_ := Aside0.mk (blk_below (g := gb341) (o := .cells #[.int .i64 a0_0, .int .i64 a0_1, .slice A0_2 l0_2.length c0_2, .slice A0_3 l0_3.length c0_3, .slice A0_4 l0_4.length c0_4, .slice A0_5 l0_5.length c0_5, .slice A0_6 l0_6.length c0_6] 30 (0, 0)) (by (with_reducible repeat (first | refine blk_drewN ?_ _ | refine blk_drew ?_ | refine blk_alloc ?_ _)); exact BK341.out) hb); have n1_ := Aside0.mk (below_step (by repeat (first | (with_reducible first | exact HB.out | apply below_alloc | apply pw_below_drewN | apply below_drew1 | refine below_set ?_ GE341.out) | exact HB.out)) hb); have n2_ := Aside0.mk (hbox); have n3_ := Aside0.mk ((by rw [hg]; exact (below_size (by repeat (first | (with_reducible first | exact HB.out | apply below_alloc | apply pw_below_drewN | apply below_drew1 | refine below_set ?_ GE341.out) | exact HB.out))) : w.heap.size ≤ gb342)); have n4_ := Aside0.mk ((by rw [hg]; exact (below_size (by repeat (first | (with_reducible first | exact HB.out | apply below_alloc | apply pw_below_drewN | apply below_drew1 | refine below_set ?_ GE341.out) | exact HB.out))) : w.heap.size ≤ gb342)); have n5_ := Aside0.mk ((by rw [hg]; exact Nat.ne_of_lt (blk_lt (g := gb341) (o := .cells #[.int .i64 a0_0, .int .i64 a0_1, .slice A0_2 l0_2.length c0_2, .slice A0_3 l0_3.length c0_3, .slice A0_4 l0_4.length c0_4, .slice A0_5 l0_5.length c0_5, .slice A0_6 l0_6.length c0_6] 30 (0, 0)) (by (with_reducible repeat (first | refine blk_drewN ?_ _ | refine blk_drew ?_ | refine blk_alloc ?_ _)); exact BK341.out)) : gb341 ≠ gb342)); have n6_ := Aside0.mk ((by rw [hg]; exact Nat.ne_of_gt (blk_lt (g := gb341) (o := .cells #[.int .i64 a0_0, .int .i64 a0_1, .slice A0_2 l0_2.length c0_2, .slice A0_3 l0_3.length c0_3, .slice A0_4 l0_4.length c0_4, .slice A0_5 l0_5.length c0_5, .slice A0_6 l0_6.length c0_6] 30 (0, 0)) (by (with_reducible repeat (first | refine blk_drewN ?_ _ | refine blk_drew ?_ | refine blk_alloc ?_ _)); exact BK341.out)) : gb342 ≠ gb341)); clear BK341; clear HB; have BK341 := n0_; have HB := n1_; have BK342 := n2_; have GW342 := n3_; have GE342 := n4_; have NB341_342 := n5_; have NB342_341 := n6_; clear n0_ n1_ n2_ n3_ n4_ n5_ n6_; clear hb hbox hg))
 repeat (go_quiet (first | ((with_reducible refine gate_dst (N := 2) rfl ?_); (try (refine gate_guard (by rfl) ?_; dsimp only)); refine box_event ?hg (N := 2) ?hd (cs := #[.int .i64 a0_0, .int .i64 a0_1, .slice A0_2 l0_2.length c0_2, .slice A0_3 l0_3.length c0_3, .slice A0_4 l0_4.length c0_4, .slice A0_5 l0_5.length c0_5, .slice A0_6 l0_6.length c0_6]) (t := 30) ?hr ?_; (case hd => rfl); (case hg => rfl); (case hr => first | (go_simp; done) | (go_simp; rfl)); intro gb341 hg w4 hbox hb; have n0_ := Aside0.mk (below_step (by repeat (first | (with_reducible first | exact HB.out | apply below_alloc | apply pw_below_drewN | apply below_drew1) | exact HB.out)) hb); have n1_ := Aside0.mk (hbox); have n2_ := Aside0.mk ((by rw [hg]; exact (below_size (by repeat (first | (with_reducible first | exact HB.out | apply below_alloc | apply pw_below_drewN | apply below_drew1) | exact HB.out))) : w.heap.size ≤ gb341)); have n3_ := Aside0.mk ((by rw [hg]; exact (below_size (by repeat (first | (with_reducible first | exact HB.out | apply below_alloc | apply pw_below_drewN | apply below_drew1) | exact HB.out))) : w.heap.size ≤ gb341)); clear HB; have HB := n0_; have BK341 := n1_; have GW341 := n2_; have GE341 := n3_; clear n0_ n1_ n2_ n3_; clear hb hbox hg) | ((with_reducible refine gate_dst (N := 3) rfl ?_); (try (refine gate_guard (by rfl) ?_; dsimp only)); refine box_event ?hg (N := 3) ?hd (cs := #[.int .i64 a1_0, .int .i64 a1_1, .slice A1_2 l1_2.length c1_2, .slice A1_3 l1_3.length c1_3, .slice A1_4 l1_4.length c1_4, .slice A1_5 l1_5.length c1_5, .slice A1_6 l1_6.length c1_6]) (t := 30) ?hr ?_; (case hd => rfl); (case hg => rfl); (case hr => first | (go_simp; done) | (go_simp; rfl)); intro gb342 hg w5 hbox hb; have n0_ := Aside0.mk (blk_below (g := gb341) (o := .cells #[.int .i64 a0_0, .int .i64 a0_1, .slice A0_2 l0_2.length c0_2, .slice A0_3 l0_3.length c0_3, .slice A0_4 l0_4.length c0_4, .slice A0_5 l0_5.length c0_5, .slice A0_6 l0_6.length c0_6] 30 (0, 0)) (by (with_reducible repeat (first | refine blk_drewN ?_ _ | refine blk_drew ?_ | refine blk_alloc ?_ _)); exact BK341.out) hb); have n1_ := Aside0.mk (below_step (by repeat (first | (with_reducible first | exact HB.out | apply below_alloc | apply pw_below_drewN | apply below_drew1 | refine below_set ?_ GE341.out) | exact HB.out)) hb); have n2_ := Aside0.mk (hbox); have n3_ := Aside0.mk ((by rw [hg]; exact (below_size (by repeat (first | (with_reducible first | exact HB.out | apply below_alloc | apply pw_below_drewN | apply below_drew1 | refine below_set ?_ GE341.out) | exact HB.out))) : w.heap.size ≤ gb342)); have n4_ := Aside0.mk ((by rw [hg]; exact (below_size (by repeat (first | (with_reducible first | exact HB.out | apply below_alloc | apply pw_below_drewN | apply below_drew1 | refine below_set ?_ GE341.out) | exact HB.out))) : w.heap.size ≤ gb342)); have n5_ := Aside0.mk ((by rw [hg]; exact Nat.ne_of_lt (blk_lt (g := gb341) (o := .cells #[.int .i64 a0_0, .int .i64 a0_1, .slice A0_2 l0_2.length c0_2, .slice A0_3 l0_3.length c0_3, .slice A0_4 l0_4.length c0_4, .slice A0_5 l0_5.length c0_5, .slice A0_6 l0_6.length c0_6] 30 (0, 0)) (by (with_reducible repeat (first | refine blk_drewN ?_ _ | refine blk_drew ?_ | refine blk_alloc ?_ _)); exact BK341.out)) : gb341 ≠ gb342)); have n6_ := Aside0.mk ((by rw [hg]; exact Nat.ne_of_gt (blk_lt (g := gb341) (o := .cells #[.int .i64 a0_0, .int .i64 a0_1, .slice A0_2 l0_2.length c0_2, .slice A0_3 l0_3.length c0_3, .slice A0_4 l0_4.length c0_4, .slice A0_5 l0_5.length c0_5, .slice A0_6 l0_6.length c0_6] 30 (0, 0)) (by (with_reducible repeat (first | refine blk_drewN ?_ _ | refine blk_drew ?_ | refine blk_alloc ?_ _)); exact BK341.out)) : gb342 ≠ gb341)); clear BK341; clear HB; have BK341 := n0_; have HB := n1_; have BK342 := n2_; have GW342 := n3_; have GE342 := n4_; have NB341_342 := n5_; have NB342_341 := n6_; clear n0_ n1_ n2_ n3_ n4_ n5_ n6_; clear hb hbox hg)); go_upto_region 1 with (first | ((with_reducible refine gate_dst (N := 2) rfl ?_); (try (refine gate_guard (by rfl) ?_; dsimp only)); refine box_event ?hg (N := 2) ?hd (cs := #[.int .i64 a0_0, .int .i64 a0_1, .slice A0_2 l0_2.length c0_2, .slice A0_3 l0_3.length c0_3, .slice A0_4 l0_4.length c0_4, .slice A0_5 l0_5.length c0_5, .slice A0_6 l0_6.length c0_6]) (t := 30) ?hr ?_; (case hd => rfl); (case hg => rfl); (case hr => first | (go_simp; done) | (go_simp; rfl)); intro gb341 hg w4 hbox hb; have n0_ := Aside0.mk (below_step (by repeat (first | (with_reducible first | exact HB.out | apply below_alloc | apply pw_below_drewN | apply below_drew1) | exact HB.out)) hb); have n1_ := Aside0.mk (hbox); have n2_ := Aside0.mk ((by rw [hg]; exact (below_size (by repeat (first | (with_reducible first | exact HB.out | apply below_alloc | apply pw_below_drewN | apply below_drew1) | exact HB.out))) : w.heap.size ≤ gb341)); have n3_ := Aside0.mk ((by rw [hg]; exact (below_size (by repeat (first | (with_reducible first | exact HB.out | apply below_alloc | apply pw_below_drewN | apply below_drew1) | exact HB.out))) : w.heap.size ≤ gb341)); clear HB; have HB := n0_; have BK341 := n1_; have GW341 := n2_; have GE341 := n3_; clear n0_ n1_ n2_ n3_; clear hb hbox hg) | ((with_reducible refine gate_dst (N := 3) rfl ?_); (try (refine gate_guard (by rfl) ?_; dsimp only)); refine box_event ?hg (N := 3) ?hd (cs := #[.int .i64 a1_0, .int .i64 a1_1, .slice A1_2 l1_2.length c1_2, .slice A1_3 l1_3.length c1_3, .slice A1_4 l1_4.length c1_4, .slice A1_5 l1_5.length c1_5, .slice A1_6 l1_6.length c1_6]) (t := 30) ?hr ?_; (case hd => rfl); (case hg => rfl); (case hr => first | (go_simp; done) | (go_simp; rfl)); intro gb342 hg w5 hbox hb; have n0_ := Aside0.mk (blk_below (g := gb341) (o := .cells #[.int .i64 a0_0, .int .i64 a0_1, .slice A0_2 l0_2.length c0_2, .slice A0_3 l0_3.length c0_3, .slice A0_4 l0_4.length c0_4, .slice A0_5 l0_5.length c0_5, .slice A0_6 l0_6.length c0_6] 30 (0, 0)) (by (with_reducible repeat (first | refine blk_drewN ?_ _ | refine blk_drew ?_ | refine blk_alloc ?_ _)); exact BK341.out) hb); have n1_ := Aside0.mk (below_step (by repeat (first | (with_reducible first | exact HB.out | apply below_alloc | apply pw_below_drewN | apply below_drew1 | refine below_set ?_ GE341.out) | exact HB.out)) hb); have n2_ := Aside0.mk (hbox); have n3_ := Aside0.mk ((by rw [hg]; exact (below_size (by repeat (first | (with_reducible first | exact HB.out | apply below_alloc | apply pw_below_drewN | apply below_drew1 | refine below_set ?_ GE341.out) | exact HB.out))) : w.heap.size ≤ gb342)); have n4_ := Aside0.mk ((by rw [hg]; exact (below_size (by repeat (first | (with_reducible first | exact HB.out | apply below_alloc | apply pw_below_drewN | apply below_drew1 | refine below_set ?_ GE341.out) | exact HB.out))) : w.heap.size ≤ gb342)); have n5_ := Aside0.mk ((by rw [hg]; exact Nat.ne_of_lt (blk_lt (g := gb341) (o := .cells #[.int .i64 a0_0, .int .i64 a0_1, .slice A0_2 l0_2.length c0_2, .slice A0_3 l0_3.length c0_3, .slice A0_4 l0_4.length c0_4, .slice A0_5 l0_5.length c0_5, .slice A0_6 l0_6.length c0_6] 30 (0, 0)) (by (with_reducible repeat (first | refine blk_drewN ?_ _ | refine blk_drew ?_ | refine blk_alloc ?_ _)); exact BK341.out)) : gb341 ≠ gb342)); have n6_ := Aside0.mk ((by rw [hg]; exact Nat.ne_of_gt (blk_lt (g := gb341) (o := .cells #[.int .i64 a0_0, .int .i64 a0_1, .slice A0_2 l0_2.length c0_2, .slice A0_3 l0_3.length c0_3, .slice A0_4 l0_4.length c0_4, .slice A0_5 l0_5.length c0_5, .slice A0_6 l0_6.length c0_6] 30 (0, 0)) (by (with_reducible repeat (first | refine blk_drewN ?_ _ | refine blk_drew ?_ | refine blk_alloc ?_ _)); exact BK341.out)) : gb342 ≠ gb341)); clear BK341; clear HB; have BK341 := n0_; have HB := n1_; have BK342 := n2_; have GW342 := n3_; have GE342 := n4_; have NB341_342 := n5_; have NB342_341 := n6_; clear n0_ n1_ n2_ n3_ n4_ n5_ n6_; clear hb hbox hg)))
 (try simp only [Act.put, List.setIfInBounds_toArray, List.set_cons_zero, List.set_cons_succ])
 go_cut [62] (fun v62 wc => ∃ (kq : Nat) (x62_2 : Bool), v62 = .bool x62_2 ∧ Aside0 (canopyref3_Same.j0 kq x62_2 a0_0 a0_1 l0_2 l0_3 l0_4 l0_5 l0_6 a1_0 a1_1 l1_2 l1_3 l1_4 l1_5 l1_6 = some r) ∧ Aside0 (kq ≤ k) ∧ Aside0 (wc.heap[gb341]? = some (.cells #[.int .i64 a0_0, .int .i64 a0_1, (.slice A0_2 l0_2.length c0_2), (.slice A0_3 l0_3.length c0_3), (.slice A0_4 l0_4.length c0_4), (.slice A0_5 l0_5.length c0_5), (.slice A0_6 l0_6.length c0_6)] 30 (0, 0))) ∧ Aside0 (wc.heap[gb342]? = some (.cells #[.int .i64 a1_0, .int .i64 a1_1, (.slice A1_2 l1_2.length c1_2), (.slice A1_3 l1_3.length c1_3), (.slice A1_4 l1_4.length c1_4), (.slice A1_5 l1_5.length c1_5), (.slice A1_6 l1_6.length c1_6)] 30 (0, 0))) ∧ Aside0 (Below w.heap.size w wc))
 case first =>
  have H := HC3.out
  clear HC3
  by_cases c6 : a0_0 = a1_0
  ·rw [if_pos c6] at H
   have c6b0 : (a0_0 == a1_0) = true := beq_iff_eq.mpr c6
   have c6b1 : (a0_0 != a1_0) = false := bne_eq_false_iff_eq.mpr c6
   clear c6
   (first | rw [c6b0] | (simp only [i64_w, i32_w]; rw [c6b0]) | skip)
   by_cases c7 : a0_1 = a1_1
   ·rw [if_pos c7] at H
    have c7b0 : (a0_1 == a1_1) = true := beq_iff_eq.mpr c7
    have c7b1 : (a0_1 != a1_1) = false := bne_eq_false_iff_eq.mpr c7
    clear c7
    replace H := Option.bind_eq_some_iff.mp H
    obtain ⟨t343, A80, H⟩ := H
    replace H : (if t343 = true then ((canopyref1_Ints.f k l0_3 l1_3).bind fun t344 => (if t344 = true then (if (l0_4.length : Int) = (l1_4.length : Int) then (if (l0_5.length : Int) = (l1_5.length : Int) then (canopyref3_Same.j0 k ((l0_6.length : Int) != (l1_6.length : Int)) a0_0 a0_1 l0_2 l0_3 l0_4 l0_5 l0_6 a1_0 a1_1 l1_2 l1_3 l1_4 l1_5 l1_6) else (canopyref3_Same.j0 k true a0_0 a0_1 l0_2 l0_3 l0_4 l0_5 l0_6 a1_0 a1_1 l1_2 l1_3 l1_4 l1_5 l1_6)) else (canopyref3_Same.j0 k true a0_0 a0_1 l0_2 l0_3 l0_4 l0_5 l0_6 a1_0 a1_1 l1_2 l1_3 l1_4 l1_5 l1_6)) else (canopyref3_Same.j0 k true a0_0 a0_1 l0_2 l0_3 l0_4 l0_5 l0_6 a1_0 a1_1 l1_2 l1_3 l1_4 l1_5 l1_6))) else (canopyref3_Same.j0 k true a0_0 a0_1 l0_2 l0_3 l0_4 l0_5 l0_6 a1_0 a1_1 l1_2 l1_3 l1_4 l1_5 l1_6)) = some r := H
    have A8 := Aside0.mk A80
    clear A80
    by_cases c9 : t343 = true
    ·subst c9
     have H1 : ((canopyref1_Ints.f k l0_3 l1_3).bind fun t344 => (if t344 = true then (if (l0_4.length : Int) = (l1_4.length : Int) then (if (l0_5.length : Int) = (l1_5.length : Int) then (canopyref3_Same.j0 k ((l0_6.length : Int) != (l1_6.length : Int)) a0_0 a0_1 l0_2 l0_3 l0_4 l0_5 l0_6 a1_0 a1_1 l1_2 l1_3 l1_4 l1_5 l1_6) else (canopyref3_Same.j0 k true a0_0 a0_1 l0_2 l0_3 l0_4 l0_5 l0_6 a1_0 a1_1 l1_2 l1_3 l1_4 l1_5 l1_6)) else (canopyref3_Same.j0 k true a0_0 a0_1 l0_2 l0_3 l0_4 l0_5 l0_6 a1_0 a1_1 l1_2 l1_3 l1_4 l1_5 l1_6)) else (canopyref3_Same.j0 k true a0_0 a0_1 l0_2 l0_3 l0_4 l0_5 l0_6 a1_0 a1_1 l1_2 l1_3 l1_4 l1_5 l1_6))) = some r := by rw [if_pos rfl] at H; exact H
     clear H
     have H := H1
     clear H1
     replace H := Option.bind_eq_some_iff.mp H
     obtain ⟨t344, A100, H⟩ := H
     replace H : (if t344 = true then (if (l0_4.length : Int) = (l1_4.length : Int) then (if (l0_5.length : Int) = (l1_5.length : Int) then (canopyref3_Same.j0 k ((l0_6.length : Int) != (l1_6.length : Int)) a0_0 a0_1 l0_2 l0_3 l0_4 l0_5 l0_6 a1_0 a1_1 l1_2 l1_3 l1_4 l1_5 l1_6) else (canopyref3_Same.j0 k true a0_0 a0_1 l0_2 l0_3 l0_4 l0_5 l0_6 a1_0 a1_1 l1_2 l1_3 l1_4 l1_5 l1_6)) else (canopyref3_Same.j0 k true a0_0 a0_1 l0_2 l0_3 l0_4 l0_5 l0_6 a1_0 a1_1 l1_2 l1_3 l1_4 l1_5 l1_6)) else (canopyref3_Same.j0 k true a0_0 a0_1 l0_2 l0_3 l0_4 l0_5 l0_6 a1_0 a1_1 l1_2 l1_3 l1_4 l1_5 l1_6)) = some r := H
     have A10 := Aside0.mk A100
     clear A100
     by_cases c11 : t344 = true
     ·subst c11
      have H1 : (if (l0_4.length : Int) = (l1_4.length : Int) then (if (l0_5.length : Int) = (l1_5.length : Int) then (canopyref3_Same.j0 k ((l0_6.length : Int) != (l1_6.length : Int)) a0_0 a0_1 l0_2 l0_3 l0_4 l0_5 l0_6 a1_0 a1_1 l1_2 l1_3 l1_4 l1_5 l1_6) else (canopyref3_Same.j0 k true a0_0 a0_1 l0_2 l0_3 l0_4 l0_5 l0_6 a1_0 a1_1 l1_2 l1_3 l1_4 l1_5 l1_6)) else (canopyref3_Same.j0 k true a0_0 a0_1 l0_2 l0_3 l0_4 l0_5 l0_6 a1_0 a1_1 l1_2 l1_3 l1_4 l1_5 l1_6)) = some r := by rw [if_pos rfl] at H; exact H
      clear H
      have H := H1
      clear H1
      by_cases c12 : (l0_4.length : Int) = (l1_4.length : Int)
      ·rw [if_pos c12] at H
       have c12b0 : ((l0_4.length : Int) == (l1_4.length : Int)) = true := beq_iff_eq.mpr c12
       have c12b1 : ((l0_4.length : Int) != (l1_4.length : Int)) = false := bne_eq_false_iff_eq.mpr c12
       have c12b2 : (l0_4.length == l1_4.length) = true := by first | simpa using c12 | (simp at c12 ⊢; omega)
       clear c12
       by_cases c13 : (l0_5.length : Int) = (l1_5.length : Int)
       ·rw [if_pos c13] at H
        have c13b0 : ((l0_5.length : Int) == (l1_5.length : Int)) = true := beq_iff_eq.mpr c13
        have c13b1 : ((l0_5.length : Int) != (l1_5.length : Int)) = false := bne_eq_false_iff_eq.mpr c13
        have c13b2 : (l0_5.length == l1_5.length) = true := by first | simpa using c13 | (simp at c13 ⊢; omega)
        clear c13
        have H' := Aside0.mk H
        clear H
        have hnb14 := NB341_342.out
        have hnc14 := NB342_341.out
        have hcz15_0 : w5.cell? ⟨gb341, 0, none⟩ = some (.int .i64 a0_0) := (blk_cell BK341.out 0).trans rfl
        have hcz15_1 : w5.cell? ⟨gb341, 1, none⟩ = some (.int .i64 a0_1) := (blk_cell BK341.out 1).trans rfl
        have hcz15_2 : w5.cell? ⟨gb341, 2, none⟩ = some (.slice A0_2 l0_2.length c0_2) := (blk_cell BK341.out 2).trans rfl
        have hcz15_3 : w5.cell? ⟨gb341, 3, none⟩ = some (.slice A0_3 l0_3.length c0_3) := (blk_cell BK341.out 3).trans rfl
        have hcz15_4 : w5.cell? ⟨gb341, 4, none⟩ = some (.slice A0_4 l0_4.length c0_4) := (blk_cell BK341.out 4).trans rfl
        have hcz15_5 : w5.cell? ⟨gb341, 5, none⟩ = some (.slice A0_5 l0_5.length c0_5) := (blk_cell BK341.out 5).trans rfl
        have hcz15_6 : w5.cell? ⟨gb341, 6, none⟩ = some (.slice A0_6 l0_6.length c0_6) := (blk_cell BK341.out 6).trans rfl
        have hfz15_0 := blk_frozen BK341.out 0
        have hfz15_1 := blk_frozen BK341.out 1
        have hfz15_2 := blk_frozen BK341.out 2
        have hfz15_3 := blk_frozen BK341.out 3
        have hfz15_4 := blk_frozen BK341.out 4
        have hfz15_5 := blk_frozen BK341.out 5
        have hfz15_6 := blk_frozen BK341.out 6
        have hcz16_0 : w5.cell? ⟨gb342, 0, none⟩ = some (.int .i64 a1_0) := (blk_cell BK342.out 0).trans rfl
        have hcz16_1 : w5.cell? ⟨gb342, 1, none⟩ = some (.int .i64 a1_1) := (blk_cell BK342.out 1).trans rfl
        have hcz16_2 : w5.cell? ⟨gb342, 2, none⟩ = some (.slice A1_2 l1_2.length c1_2) := (blk_cell BK342.out 2).trans rfl
        have hcz16_3 : w5.cell? ⟨gb342, 3, none⟩ = some (.slice A1_3 l1_3.length c1_3) := (blk_cell BK342.out 3).trans rfl
        have hcz16_4 : w5.cell? ⟨gb342, 4, none⟩ = some (.slice A1_4 l1_4.length c1_4) := (blk_cell BK342.out 4).trans rfl
        have hcz16_5 : w5.cell? ⟨gb342, 5, none⟩ = some (.slice A1_5 l1_5.length c1_5) := (blk_cell BK342.out 5).trans rfl
        have hcz16_6 : w5.cell? ⟨gb342, 6, none⟩ = some (.slice A1_6 l1_6.length c1_6) := (blk_cell BK342.out 6).trans rfl
        have hfz16_0 := blk_frozen BK342.out 0
        have hfz16_1 := blk_frozen BK342.out 1
        have hfz16_2 := blk_frozen BK342.out 2
        have hfz16_3 := blk_frozen BK342.out 3
        have hfz16_4 := blk_frozen BK342.out 4
        have hfz16_5 := blk_frozen BK342.out 5
        have hfz16_6 := blk_frozen BK342.out 6
        go_wp2_with (first | (go_at_call 39; (with_reducible refine (canopyref1_Ints.calls k _ _ l0_2 _ _ l1_2 true _ ?side1 ?side2 ?side3 ?side4 A8.out).mono ?_); (case side1 => repeat (first | exact (Kd.C_below HR0_2.out HB.out) | (with_reducible refine Kd.C_alloc ?_ _) | (with_reducible refine Kd.C_drewN ?_ _) | (with_reducible refine Kd.C_drew ?_))); (case side2 => exact HC0_2.out); (case side3 => repeat (first | exact (Kd.C_below HR1_2.out HB.out) | (with_reducible refine Kd.C_alloc ?_ _) | (with_reducible refine Kd.C_drewN ?_ _) | (with_reducible refine Kd.C_drew ?_))); (case side4 => exact HC1_2.out); rintro e w' ⟨rfl, ⟨nd, rfl⟩⟩; (try first | exact ⟨rfl, _, World.drewN_drewN _ _ _⟩ | exact ⟨rfl, _, Eq.trans (World.drewN_drewN _ _ _) (congrArg (World.drewN _) (Nat.add_assoc _ _ _))⟩)) | (go_at_call 39; (with_reducible refine (canopyref1_Ints.calls k _ _ l0_3 _ _ l1_3 true _ ?side1 ?side2 ?side3 ?side4 A10.out).mono ?_); (case side1 => repeat (first | exact (Kd.C_below HR0_3.out (by repeat (first | (with_reducible first | exact HB.out | apply below_alloc | apply pw_below_drewN | apply below_drew1 | refine below_set ?_ GE341.out | refine below_set ?_ GE342.out) | exact HB.out))) | (with_reducible refine Kd.C_alloc ?_ _) | (with_reducible refine Kd.C_drewN ?_ _) | (with_reducible refine Kd.C_drew ?_))); (case side2 => exact HC0_3.out); (case side3 => repeat (first | exact (Kd.C_below HR1_3.out (by repeat (first | (with_reducible first | exact HB.out | apply below_alloc | apply pw_below_drewN | apply below_drew1 | refine below_set ?_ GE341.out | refine below_set ?_ GE342.out) | exact HB.out))) | (with_reducible refine Kd.C_alloc ?_ _) | (with_reducible refine Kd.C_drewN ?_ _) | (with_reducible refine Kd.C_drew ?_))); (case side4 => exact HC1_3.out); rintro e w' ⟨rfl, ⟨nd, rfl⟩⟩; (try first | exact ⟨rfl, _, World.drewN_drewN _ _ _⟩ | exact ⟨rfl, _, Eq.trans (World.drewN_drewN _ _ _) (congrArg (World.drewN _) (Nat.add_assoc _ _ _))⟩)))
        repeat (go_quiet (first | (go_at_call 39; (with_reducible refine (canopyref1_Ints.calls k _ _ l0_2 _ _ l1_2 true _ ?side1 ?side2 ?side3 ?side4 A8.out).mono ?_); (case side1 => repeat (first | exact (Kd.C_below HR0_2.out HB.out) | (with_reducible refine Kd.C_alloc ?_ _) | (with_reducible refine Kd.C_drewN ?_ _) | (with_reducible refine Kd.C_drew ?_))); (case side2 => exact HC0_2.out); (case side3 => repeat (first | exact (Kd.C_below HR1_2.out HB.out) | (with_reducible refine Kd.C_alloc ?_ _) | (with_reducible refine Kd.C_drewN ?_ _) | (with_reducible refine Kd.C_drew ?_))); (case side4 => exact HC1_2.out); rintro e w' ⟨rfl, ⟨nd, rfl⟩⟩; (try first | exact ⟨rfl, _, World.drewN_drewN _ _ _⟩ | exact ⟨rfl, _, Eq.trans (World.drewN_drewN _ _ _) (congrArg (World.drewN _) (Nat.add_assoc _ _ _))⟩)) | (go_at_call 39; (with_reducible refine (canopyref1_Ints.calls k _ _ l0_3 _ _ l1_3 true _ ?side1 ?side2 ?side3 ?side4 A10.out).mono ?_); (case side1 => repeat (first | exact (Kd.C_below HR0_3.out (by repeat (first | (with_reducible first | exact HB.out | apply below_alloc | apply pw_below_drewN | apply below_drew1 | refine below_set ?_ GE341.out | refine below_set ?_ GE342.out) | exact HB.out))) | (with_reducible refine Kd.C_alloc ?_ _) | (with_reducible refine Kd.C_drewN ?_ _) | (with_reducible refine Kd.C_drew ?_))); (case side2 => exact HC0_3.out); (case side3 => repeat (first | exact (Kd.C_below HR1_3.out (by repeat (first | (with_reducible first | exact HB.out | apply below_alloc | apply pw_below_drewN | apply below_drew1 | refine below_set ?_ GE341.out | refine below_set ?_ GE342.out) | exact HB.out))) | (with_reducible refine Kd.C_alloc ?_ _) | (with_reducible refine Kd.C_drewN ?_ _) | (with_reducible refine Kd.C_drew ?_))); (case side4 => exact HC1_3.out); rintro e w' ⟨rfl, ⟨nd, rfl⟩⟩; (try first | exact ⟨rfl, _, World.drewN_drewN _ _ _⟩ | exact ⟨rfl, _, Eq.trans (World.drewN_drewN _ _ _) (congrArg (World.drewN _) (Nat.add_assoc _ _ _))⟩))); try go_wp2_with (first | (go_at_call 39; (with_reducible refine (canopyref1_Ints.calls k _ _ l0_2 _ _ l1_2 true _ ?side1 ?side2 ?side3 ?side4 A8.out).mono ?_); (case side1 => repeat (first | exact (Kd.C_below HR0_2.out HB.out) | (with_reducible refine Kd.C_alloc ?_ _) | (with_reducible refine Kd.C_drewN ?_ _) | (with_reducible refine Kd.C_drew ?_))); (case side2 => exact HC0_2.out); (case side3 => repeat (first | exact (Kd.C_below HR1_2.out HB.out) | (with_reducible refine Kd.C_alloc ?_ _) | (with_reducible refine Kd.C_drewN ?_ _) | (with_reducible refine Kd.C_drew ?_))); (case side4 => exact HC1_2.out); rintro e w' ⟨rfl, ⟨nd, rfl⟩⟩; (try first | exact ⟨rfl, _, World.drewN_drewN _ _ _⟩ | exact ⟨rfl, _, Eq.trans (World.drewN_drewN _ _ _) (congrArg (World.drewN _) (Nat.add_assoc _ _ _))⟩)) | (go_at_call 39; (with_reducible refine (canopyref1_Ints.calls k _ _ l0_3 _ _ l1_3 true _ ?side1 ?side2 ?side3 ?side4 A10.out).mono ?_); (case side1 => repeat (first | exact (Kd.C_below HR0_3.out (by repeat (first | (with_reducible first | exact HB.out | apply below_alloc | apply pw_below_drewN | apply below_drew1 | refine below_set ?_ GE341.out | refine below_set ?_ GE342.out) | exact HB.out))) | (with_reducible refine Kd.C_alloc ?_ _) | (with_reducible refine Kd.C_drewN ?_ _) | (with_reducible refine Kd.C_drew ?_))); (case side2 => exact HC0_3.out); (case side3 => repeat (first | exact (Kd.C_below HR1_3.out (by repeat (first | (with_reducible first | exact HB.out | apply below_alloc | apply pw_below_drewN | apply below_drew1 | refine below_set ?_ GE341.out | refine below_set ?_ GE342.out) | exact HB.out))) | (with_reducible refine Kd.C_alloc ?_ _) | (with_reducible refine Kd.C_drewN ?_ _) | (with_reducible refine Kd.C_drew ?_))); (case side4 => exact HC1_3.out); rintro e w' ⟨rfl, ⟨nd, rfl⟩⟩; (try first | exact ⟨rfl, _, World.drewN_drewN _ _ _⟩ | exact ⟨rfl, _, Eq.trans (World.drewN_drewN _ _ _) (congrArg (World.drewN _) (Nat.add_assoc _ _ _))⟩))))
        go_meet
        case rel => exact ⟨_, (((l0_6.length : Int) != (l1_6.length : Int))), (by first | rfl | (simp; done) | (simp [*]; done)), H', ⟨by first | omega | exact Nat.le_refl _⟩, ⟨by (with_reducible repeat (first | refine blk_drewN ?_ _ | refine blk_drew ?_ | refine blk_alloc ?_ _)); exact BK341.out⟩, ⟨by (with_reducible repeat (first | refine blk_drewN ?_ _ | refine blk_drew ?_ | refine blk_alloc ?_ _)); exact BK342.out⟩, ⟨by repeat (first | (with_reducible first | exact HB.out | apply below_alloc | apply pw_below_drewN | apply below_drew1 | refine below_set ?_ GE341.out | refine below_set ?_ GE342.out) | exact HB.out)⟩⟩
       ·rw [if_neg c13] at H
        have c13b0 : ((l0_5.length : Int) == (l1_5.length : Int)) = false := beq_eq_false_iff_ne.mpr c13
        have c13b1 : ((l0_5.length : Int) != (l1_5.length : Int)) = true := bne_iff_ne.mpr c13
        have c13b2 : (l0_5.length == l1_5.length) = false := by first | simpa using c13 | (simp at c13 ⊢; omega)
        have H' := Aside0.mk H
        clear H
        have hnb17 := NB341_342.out
        have hnc17 := NB342_341.out
        have hcz18_0 : w5.cell? ⟨gb341, 0, none⟩ = some (.int .i64 a0_0) := (blk_cell BK341.out 0).trans rfl
        have hcz18_1 : w5.cell? ⟨gb341, 1, none⟩ = some (.int .i64 a0_1) := (blk_cell BK341.out 1).trans rfl
        have hcz18_2 : w5.cell? ⟨gb341, 2, none⟩ = some (.slice A0_2 l0_2.length c0_2) := (blk_cell BK341.out 2).trans rfl
        have hcz18_3 : w5.cell? ⟨gb341, 3, none⟩ = some (.slice A0_3 l0_3.length c0_3) := (blk_cell BK341.out 3).trans rfl
        have hcz18_4 : w5.cell? ⟨gb341, 4, none⟩ = some (.slice A0_4 l0_4.length c0_4) := (blk_cell BK341.out 4).trans rfl
        have hcz18_5 : w5.cell? ⟨gb341, 5, none⟩ = some (.slice A0_5 l0_5.length c0_5) := (blk_cell BK341.out 5).trans rfl
        have hcz18_6 : w5.cell? ⟨gb341, 6, none⟩ = some (.slice A0_6 l0_6.length c0_6) := (blk_cell BK341.out 6).trans rfl
        have hfz18_0 := blk_frozen BK341.out 0
        have hfz18_1 := blk_frozen BK341.out 1
        have hfz18_2 := blk_frozen BK341.out 2
        have hfz18_3 := blk_frozen BK341.out 3
        have hfz18_4 := blk_frozen BK341.out 4
        have hfz18_5 := blk_frozen BK341.out 5
        have hfz18_6 := blk_frozen BK341.out 6
        have hcz19_0 : w5.cell? ⟨gb342, 0, none⟩ = some (.int .i64 a1_0) := (blk_cell BK342.out 0).trans rfl
        have hcz19_1 : w5.cell? ⟨gb342, 1, none⟩ = some (.int .i64 a1_1) := (blk_cell BK342.out 1).trans rfl
        have hcz19_2 : w5.cell? ⟨gb342, 2, none⟩ = some (.slice A1_2 l1_2.length c1_2) := (blk_cell BK342.out 2).trans rfl
        have hcz19_3 : w5.cell? ⟨gb342, 3, none⟩ = some (.slice A1_3 l1_3.length c1_3) := (blk_cell BK342.out 3).trans rfl
        have hcz19_4 : w5.cell? ⟨gb342, 4, none⟩ = some (.slice A1_4 l1_4.length c1_4) := (blk_cell BK342.out 4).trans rfl
        have hcz19_5 : w5.cell? ⟨gb342, 5, none⟩ = some (.slice A1_5 l1_5.length c1_5) := (blk_cell BK342.out 5).trans rfl
        have hcz19_6 : w5.cell? ⟨gb342, 6, none⟩ = some (.slice A1_6 l1_6.length c1_6) := (blk_cell BK342.out 6).trans rfl
        have hfz19_0 := blk_frozen BK342.out 0
        have hfz19_1 := blk_frozen BK342.out 1
        have hfz19_2 := blk_frozen BK342.out 2
        have hfz19_3 := blk_frozen BK342.out 3
        have hfz19_4 := blk_frozen BK342.out 4
        have hfz19_5 := blk_frozen BK342.out 5
        have hfz19_6 := blk_frozen BK342.out 6
        go_wp2_with (first | (go_at_call 39; (with_reducible refine (canopyref1_Ints.calls k _ _ l0_2 _ _ l1_2 true _ ?side1 ?side2 ?side3 ?side4 A8.out).mono ?_); (case side1 => repeat (first | exact (Kd.C_below HR0_2.out HB.out) | (with_reducible refine Kd.C_alloc ?_ _) | (with_reducible refine Kd.C_drewN ?_ _) | (with_reducible refine Kd.C_drew ?_))); (case side2 => exact HC0_2.out); (case side3 => repeat (first | exact (Kd.C_below HR1_2.out HB.out) | (with_reducible refine Kd.C_alloc ?_ _) | (with_reducible refine Kd.C_drewN ?_ _) | (with_reducible refine Kd.C_drew ?_))); (case side4 => exact HC1_2.out); rintro e w' ⟨rfl, ⟨nd, rfl⟩⟩; (try first | exact ⟨rfl, _, World.drewN_drewN _ _ _⟩ | exact ⟨rfl, _, Eq.trans (World.drewN_drewN _ _ _) (congrArg (World.drewN _) (Nat.add_assoc _ _ _))⟩)) | (go_at_call 39; (with_reducible refine (canopyref1_Ints.calls k _ _ l0_3 _ _ l1_3 true _ ?side1 ?side2 ?side3 ?side4 A10.out).mono ?_); (case side1 => repeat (first | exact (Kd.C_below HR0_3.out (by repeat (first | (with_reducible first | exact HB.out | apply below_alloc | apply pw_below_drewN | apply below_drew1 | refine below_set ?_ GE341.out | refine below_set ?_ GE342.out) | exact HB.out))) | (with_reducible refine Kd.C_alloc ?_ _) | (with_reducible refine Kd.C_drewN ?_ _) | (with_reducible refine Kd.C_drew ?_))); (case side2 => exact HC0_3.out); (case side3 => repeat (first | exact (Kd.C_below HR1_3.out (by repeat (first | (with_reducible first | exact HB.out | apply below_alloc | apply pw_below_drewN | apply below_drew1 | refine below_set ?_ GE341.out | refine below_set ?_ GE342.out) | exact HB.out))) | (with_reducible refine Kd.C_alloc ?_ _) | (with_reducible refine Kd.C_drewN ?_ _) | (with_reducible refine Kd.C_drew ?_))); (case side4 => exact HC1_3.out); rintro e w' ⟨rfl, ⟨nd, rfl⟩⟩; (try first | exact ⟨rfl, _, World.drewN_drewN _ _ _⟩ | exact ⟨rfl, _, Eq.trans (World.drewN_drewN _ _ _) (congrArg (World.drewN _) (Nat.add_assoc _ _ _))⟩)))
        repeat (go_quiet (first | (go_at_call 39; (with_reducible refine (canopyref1_Ints.calls k _ _ l0_2 _ _ l1_2 true _ ?side1 ?side2 ?side3 ?side4 A8.out).mono ?_); (case side1 => repeat (first | exact (Kd.C_below HR0_2.out HB.out) | (with_reducible refine Kd.C_alloc ?_ _) | (with_reducible refine Kd.C_drewN ?_ _) | (with_reducible refine Kd.C_drew ?_))); (case side2 => exact HC0_2.out); (case side3 => repeat (first | exact (Kd.C_below HR1_2.out HB.out) | (with_reducible refine Kd.C_alloc ?_ _) | (with_reducible refine Kd.C_drewN ?_ _) | (with_reducible refine Kd.C_drew ?_))); (case side4 => exact HC1_2.out); rintro e w' ⟨rfl, ⟨nd, rfl⟩⟩; (try first | exact ⟨rfl, _, World.drewN_drewN _ _ _⟩ | exact ⟨rfl, _, Eq.trans (World.drewN_drewN _ _ _) (congrArg (World.drewN _) (Nat.add_assoc _ _ _))⟩)) | (go_at_call 39; (with_reducible refine (canopyref1_Ints.calls k _ _ l0_3 _ _ l1_3 true _ ?side1 ?side2 ?side3 ?side4 A10.out).mono ?_); (case side1 => repeat (first | exact (Kd.C_below HR0_3.out (by repeat (first | (with_reducible first | exact HB.out | apply below_alloc | apply pw_below_drewN | apply below_drew1 | refine below_set ?_ GE341.out | refine below_set ?_ GE342.out) | exact HB.out))) | (with_reducible refine Kd.C_alloc ?_ _) | (with_reducible refine Kd.C_drewN ?_ _) | (with_reducible refine Kd.C_drew ?_))); (case side2 => exact HC0_3.out); (case side3 => repeat (first | exact (Kd.C_below HR1_3.out (by repeat (first | (with_reducible first | exact HB.out | apply below_alloc | apply pw_below_drewN | apply below_drew1 | refine below_set ?_ GE341.out | refine below_set ?_ GE342.out) | exact HB.out))) | (with_reducible refine Kd.C_alloc ?_ _) | (with_reducible refine Kd.C_drewN ?_ _) | (with_reducible refine Kd.C_drew ?_))); (case side4 => exact HC1_3.out); rintro e w' ⟨rfl, ⟨nd, rfl⟩⟩; (try first | exact ⟨rfl, _, World.drewN_drewN _ _ _⟩ | exact ⟨rfl, _, Eq.trans (World.drewN_drewN _ _ _) (congrArg (World.drewN _) (Nat.add_assoc _ _ _))⟩))); try go_wp2_with (first | (go_at_call 39; (with_reducible refine (canopyref1_Ints.calls k _ _ l0_2 _ _ l1_2 true _ ?side1 ?side2 ?side3 ?side4 A8.out).mono ?_); (case side1 => repeat (first | exact (Kd.C_below HR0_2.out HB.out) | (with_reducible refine Kd.C_alloc ?_ _) | (with_reducible refine Kd.C_drewN ?_ _) | (with_reducible refine Kd.C_drew ?_))); (case side2 => exact HC0_2.out); (case side3 => repeat (first | exact (Kd.C_below HR1_2.out HB.out) | (with_reducible refine Kd.C_alloc ?_ _) | (with_reducible refine Kd.C_drewN ?_ _) | (with_reducible refine Kd.C_drew ?_))); (case side4 => exact HC1_2.out); rintro e w' ⟨rfl, ⟨nd, rfl⟩⟩; (try first | exact ⟨rfl, _, World.drewN_drewN _ _ _⟩ | exact ⟨rfl, _, Eq.trans (World.drewN_drewN _ _ _) (congrArg (World.drewN _) (Nat.add_assoc _ _ _))⟩)) | (go_at_call 39; (with_reducible refine (canopyref1_Ints.calls k _ _ l0_3 _ _ l1_3 true _ ?side1 ?side2 ?side3 ?side4 A10.out).mono ?_); (case side1 => repeat (first | exact (Kd.C_below HR0_3.out (by repeat (first | (with_reducible first | exact HB.out | apply below_alloc | apply pw_below_drewN | apply below_drew1 | refine below_set ?_ GE341.out | refine below_set ?_ GE342.out) | exact HB.out))) | (with_reducible refine Kd.C_alloc ?_ _) | (with_reducible refine Kd.C_drewN ?_ _) | (with_reducible refine Kd.C_drew ?_))); (case side2 => exact HC0_3.out); (case side3 => repeat (first | exact (Kd.C_below HR1_3.out (by repeat (first | (with_reducible first | exact HB.out | apply below_alloc | apply pw_below_drewN | apply below_drew1 | refine below_set ?_ GE341.out | refine below_set ?_ GE342.out) | exact HB.out))) | (with_reducible refine Kd.C_alloc ?_ _) | (with_reducible refine Kd.C_drewN ?_ _) | (with_reducible refine Kd.C_drew ?_))); (case side4 => exact HC1_3.out); rintro e w' ⟨rfl, ⟨nd, rfl⟩⟩; (try first | exact ⟨rfl, _, World.drewN_drewN _ _ _⟩ | exact ⟨rfl, _, Eq.trans (World.drewN_drewN _ _ _) (congrArg (World.drewN _) (Nat.add_assoc _ _ _))⟩))))
        go_meet
        case rel => exact ⟨_, (true), (by first | rfl | (simp; done) | (simp [*]; done)), H', ⟨by first | omega | exact Nat.le_refl _⟩, ⟨by (with_reducible repeat (first | refine blk_drewN ?_ _ | refine blk_drew ?_ | refine blk_alloc ?_ _)); exact BK341.out⟩, ⟨by (with_reducible repeat (first | refine blk_drewN ?_ _ | refine blk_drew ?_ | refine blk_alloc ?_ _)); exact BK342.out⟩, ⟨by repeat (first | (with_reducible first | exact HB.out | apply below_alloc | apply pw_below_drewN | apply below_drew1 | refine below_set ?_ GE341.out | refine below_set ?_ GE342.out) | exact HB.out)⟩⟩
      ·rw [if_neg c12] at H
       have c12b0 : ((l0_4.length : Int) == (l1_4.length : Int)) = false := beq_eq_false_iff_ne.mpr c12
       have c12b1 : ((l0_4.length : Int) != (l1_4.length : Int)) = true := bne_iff_ne.mpr c12
       have c12b2 : (l0_4.length == l1_4.length) = false := by first | simpa using c12 | (simp at c12 ⊢; omega)
       have H' := Aside0.mk H
       clear H
       have hnb20 := NB341_342.out
       have hnc20 := NB342_341.out
       have hcz21_0 : w5.cell? ⟨gb341, 0, none⟩ = some (.int .i64 a0_0) := (blk_cell BK341.out 0).trans rfl
       have hcz21_1 : w5.cell? ⟨gb341, 1, none⟩ = some (.int .i64 a0_1) := (blk_cell BK341.out 1).trans rfl
       have hcz21_2 : w5.cell? ⟨gb341, 2, none⟩ = some (.slice A0_2 l0_2.length c0_2) := (blk_cell BK341.out 2).trans rfl
       have hcz21_3 : w5.cell? ⟨gb341, 3, none⟩ = some (.slice A0_3 l0_3.length c0_3) := (blk_cell BK341.out 3).trans rfl
       have hcz21_4 : w5.cell? ⟨gb341, 4, none⟩ = some (.slice A0_4 l0_4.length c0_4) := (blk_cell BK341.out 4).trans rfl
       have hcz21_5 : w5.cell? ⟨gb341, 5, none⟩ = some (.slice A0_5 l0_5.length c0_5) := (blk_cell BK341.out 5).trans rfl
       have hcz21_6 : w5.cell? ⟨gb341, 6, none⟩ = some (.slice A0_6 l0_6.length c0_6) := (blk_cell BK341.out 6).trans rfl
       have hfz21_0 := blk_frozen BK341.out 0
       have hfz21_1 := blk_frozen BK341.out 1
       have hfz21_2 := blk_frozen BK341.out 2
       have hfz21_3 := blk_frozen BK341.out 3
       have hfz21_4 := blk_frozen BK341.out 4
       have hfz21_5 := blk_frozen BK341.out 5
       have hfz21_6 := blk_frozen BK341.out 6
       have hcz22_0 : w5.cell? ⟨gb342, 0, none⟩ = some (.int .i64 a1_0) := (blk_cell BK342.out 0).trans rfl
       have hcz22_1 : w5.cell? ⟨gb342, 1, none⟩ = some (.int .i64 a1_1) := (blk_cell BK342.out 1).trans rfl
       have hcz22_2 : w5.cell? ⟨gb342, 2, none⟩ = some (.slice A1_2 l1_2.length c1_2) := (blk_cell BK342.out 2).trans rfl
       have hcz22_3 : w5.cell? ⟨gb342, 3, none⟩ = some (.slice A1_3 l1_3.length c1_3) := (blk_cell BK342.out 3).trans rfl
       have hcz22_4 : w5.cell? ⟨gb342, 4, none⟩ = some (.slice A1_4 l1_4.length c1_4) := (blk_cell BK342.out 4).trans rfl
       have hcz22_5 : w5.cell? ⟨gb342, 5, none⟩ = some (.slice A1_5 l1_5.length c1_5) := (blk_cell BK342.out 5).trans rfl
       have hcz22_6 : w5.cell? ⟨gb342, 6, none⟩ = some (.slice A1_6 l1_6.length c1_6) := (blk_cell BK342.out 6).trans rfl
       have hfz22_0 := blk_frozen BK342.out 0
       have hfz22_1 := blk_frozen BK342.out 1
       have hfz22_2 := blk_frozen BK342.out 2
       have hfz22_3 := blk_frozen BK342.out 3
       have hfz22_4 := blk_frozen BK342.out 4
       have hfz22_5 := blk_frozen BK342.out 5
       have hfz22_6 := blk_frozen BK342.out 6
       go_wp2_with (first | (go_at_call 39; (with_reducible refine (canopyref1_Ints.calls k _ _ l0_2 _ _ l1_2 true _ ?side1 ?side2 ?side3 ?side4 A8.out).mono ?_); (case side1 => repeat (first | exact (Kd.C_below HR0_2.out HB.out) | (with_reducible refine Kd.C_alloc ?_ _) | (with_reducible refine Kd.C_drewN ?_ _) | (with_reducible refine Kd.C_drew ?_))); (case side2 => exact HC0_2.out); (case side3 => repeat (first | exact (Kd.C_below HR1_2.out HB.out) | (with_reducible refine Kd.C_alloc ?_ _) | (with_reducible refine Kd.C_drewN ?_ _) | (with_reducible refine Kd.C_drew ?_))); (case side4 => exact HC1_2.out); rintro e w' ⟨rfl, ⟨nd, rfl⟩⟩; (try first | exact ⟨rfl, _, World.drewN_drewN _ _ _⟩ | exact ⟨rfl, _, Eq.trans (World.drewN_drewN _ _ _) (congrArg (World.drewN _) (Nat.add_assoc _ _ _))⟩)) | (go_at_call 39; (with_reducible refine (canopyref1_Ints.calls k _ _ l0_3 _ _ l1_3 true _ ?side1 ?side2 ?side3 ?side4 A10.out).mono ?_); (case side1 => repeat (first | exact (Kd.C_below HR0_3.out (by repeat (first | (with_reducible first | exact HB.out | apply below_alloc | apply pw_below_drewN | apply below_drew1 | refine below_set ?_ GE341.out | refine below_set ?_ GE342.out) | exact HB.out))) | (with_reducible refine Kd.C_alloc ?_ _) | (with_reducible refine Kd.C_drewN ?_ _) | (with_reducible refine Kd.C_drew ?_))); (case side2 => exact HC0_3.out); (case side3 => repeat (first | exact (Kd.C_below HR1_3.out (by repeat (first | (with_reducible first | exact HB.out | apply below_alloc | apply pw_below_drewN | apply below_drew1 | refine below_set ?_ GE341.out | refine below_set ?_ GE342.out) | exact HB.out))) | (with_reducible refine Kd.C_alloc ?_ _) | (with_reducible refine Kd.C_drewN ?_ _) | (with_reducible refine Kd.C_drew ?_))); (case side4 => exact HC1_3.out); rintro e w' ⟨rfl, ⟨nd, rfl⟩⟩; (try first | exact ⟨rfl, _, World.drewN_drewN _ _ _⟩ | exact ⟨rfl, _, Eq.trans (World.drewN_drewN _ _ _) (congrArg (World.drewN _) (Nat.add_assoc _ _ _))⟩)))
       repeat (go_quiet (first | (go_at_call 39; (with_reducible refine (canopyref1_Ints.calls k _ _ l0_2 _ _ l1_2 true _ ?side1 ?side2 ?side3 ?side4 A8.out).mono ?_); (case side1 => repeat (first | exact (Kd.C_below HR0_2.out HB.out) | (with_reducible refine Kd.C_alloc ?_ _) | (with_reducible refine Kd.C_drewN ?_ _) | (with_reducible refine Kd.C_drew ?_))); (case side2 => exact HC0_2.out); (case side3 => repeat (first | exact (Kd.C_below HR1_2.out HB.out) | (with_reducible refine Kd.C_alloc ?_ _) | (with_reducible refine Kd.C_drewN ?_ _) | (with_reducible refine Kd.C_drew ?_))); (case side4 => exact HC1_2.out); rintro e w' ⟨rfl, ⟨nd, rfl⟩⟩; (try first | exact ⟨rfl, _, World.drewN_drewN _ _ _⟩ | exact ⟨rfl, _, Eq.trans (World.drewN_drewN _ _ _) (congrArg (World.drewN _) (Nat.add_assoc _ _ _))⟩)) | (go_at_call 39; (with_reducible refine (canopyref1_Ints.calls k _ _ l0_3 _ _ l1_3 true _ ?side1 ?side2 ?side3 ?side4 A10.out).mono ?_); (case side1 => repeat (first | exact (Kd.C_below HR0_3.out (by repeat (first | (with_reducible first | exact HB.out | apply below_alloc | apply pw_below_drewN | apply below_drew1 | refine below_set ?_ GE341.out | refine below_set ?_ GE342.out) | exact HB.out))) | (with_reducible refine Kd.C_alloc ?_ _) | (with_reducible refine Kd.C_drewN ?_ _) | (with_reducible refine Kd.C_drew ?_))); (case side2 => exact HC0_3.out); (case side3 => repeat (first | exact (Kd.C_below HR1_3.out (by repeat (first | (with_reducible first | exact HB.out | apply below_alloc | apply pw_below_drewN | apply below_drew1 | refine below_set ?_ GE341.out | refine below_set ?_ GE342.out) | exact HB.out))) | (with_reducible refine Kd.C_alloc ?_ _) | (with_reducible refine Kd.C_drewN ?_ _) | (with_reducible refine Kd.C_drew ?_))); (case side4 => exact HC1_3.out); rintro e w' ⟨rfl, ⟨nd, rfl⟩⟩; (try first | exact ⟨rfl, _, World.drewN_drewN _ _ _⟩ | exact ⟨rfl, _, Eq.trans (World.drewN_drewN _ _ _) (congrArg (World.drewN _) (Nat.add_assoc _ _ _))⟩))); try go_wp2_with (first | (go_at_call 39; (with_reducible refine (canopyref1_Ints.calls k _ _ l0_2 _ _ l1_2 true _ ?side1 ?side2 ?side3 ?side4 A8.out).mono ?_); (case side1 => repeat (first | exact (Kd.C_below HR0_2.out HB.out) | (with_reducible refine Kd.C_alloc ?_ _) | (with_reducible refine Kd.C_drewN ?_ _) | (with_reducible refine Kd.C_drew ?_))); (case side2 => exact HC0_2.out); (case side3 => repeat (first | exact (Kd.C_below HR1_2.out HB.out) | (with_reducible refine Kd.C_alloc ?_ _) | (with_reducible refine Kd.C_drewN ?_ _) | (with_reducible refine Kd.C_drew ?_))); (case side4 => exact HC1_2.out); rintro e w' ⟨rfl, ⟨nd, rfl⟩⟩; (try first | exact ⟨rfl, _, World.drewN_drewN _ _ _⟩ | exact ⟨rfl, _, Eq.trans (World.drewN_drewN _ _ _) (congrArg (World.drewN _) (Nat.add_assoc _ _ _))⟩)) | (go_at_call 39; (with_reducible refine (canopyref1_Ints.calls k _ _ l0_3 _ _ l1_3 true _ ?side1 ?side2 ?side3 ?side4 A10.out).mono ?_); (case side1 => repeat (first | exact (Kd.C_below HR0_3.out (by repeat (first | (with_reducible first | exact HB.out | apply below_alloc | apply pw_below_drewN | apply below_drew1 | refine below_set ?_ GE341.out | refine below_set ?_ GE342.out) | exact HB.out))) | (with_reducible refine Kd.C_alloc ?_ _) | (with_reducible refine Kd.C_drewN ?_ _) | (with_reducible refine Kd.C_drew ?_))); (case side2 => exact HC0_3.out); (case side3 => repeat (first | exact (Kd.C_below HR1_3.out (by repeat (first | (with_reducible first | exact HB.out | apply below_alloc | apply pw_below_drewN | apply below_drew1 | refine below_set ?_ GE341.out | refine below_set ?_ GE342.out) | exact HB.out))) | (with_reducible refine Kd.C_alloc ?_ _) | (with_reducible refine Kd.C_drewN ?_ _) | (with_reducible refine Kd.C_drew ?_))); (case side4 => exact HC1_3.out); rintro e w' ⟨rfl, ⟨nd, rfl⟩⟩; (try first | exact ⟨rfl, _, World.drewN_drewN _ _ _⟩ | exact ⟨rfl, _, Eq.trans (World.drewN_drewN _ _ _) (congrArg (World.drewN _) (Nat.add_assoc _ _ _))⟩))))
       go_meet
       case rel => exact ⟨_, (true), (by first | rfl | (simp; done) | (simp [*]; done)), H', ⟨by first | omega | exact Nat.le_refl _⟩, ⟨by (with_reducible repeat (first | refine blk_drewN ?_ _ | refine blk_drew ?_ | refine blk_alloc ?_ _)); exact BK341.out⟩, ⟨by (with_reducible repeat (first | refine blk_drewN ?_ _ | refine blk_drew ?_ | refine blk_alloc ?_ _)); exact BK342.out⟩, ⟨by repeat (first | (with_reducible first | exact HB.out | apply below_alloc | apply pw_below_drewN | apply below_drew1 | refine below_set ?_ GE341.out | refine below_set ?_ GE342.out) | exact HB.out)⟩⟩
     ·replace c11 := Bool.eq_false_iff.mpr c11
      subst c11
      have H1 : (canopyref3_Same.j0 k true a0_0 a0_1 l0_2 l0_3 l0_4 l0_5 l0_6 a1_0 a1_1 l1_2 l1_3 l1_4 l1_5 l1_6) = some r := by rw [if_neg (show ¬ (false = true) by decide)] at H; exact H
      clear H
      have H := H1
      clear H1
      have H' := Aside0.mk H
      clear H
      have hnb23 := NB341_342.out
      have hnc23 := NB342_341.out
      have hcz24_0 : w5.cell? ⟨gb341, 0, none⟩ = some (.int .i64 a0_0) := (blk_cell BK341.out 0).trans rfl
      have hcz24_1 : w5.cell? ⟨gb341, 1, none⟩ = some (.int .i64 a0_1) := (blk_cell BK341.out 1).trans rfl
      have hcz24_2 : w5.cell? ⟨gb341, 2, none⟩ = some (.slice A0_2 l0_2.length c0_2) := (blk_cell BK341.out 2).trans rfl
      have hcz24_3 : w5.cell? ⟨gb341, 3, none⟩ = some (.slice A0_3 l0_3.length c0_3) := (blk_cell BK341.out 3).trans rfl
      have hcz24_4 : w5.cell? ⟨gb341, 4, none⟩ = some (.slice A0_4 l0_4.length c0_4) := (blk_cell BK341.out 4).trans rfl
      have hcz24_5 : w5.cell? ⟨gb341, 5, none⟩ = some (.slice A0_5 l0_5.length c0_5) := (blk_cell BK341.out 5).trans rfl
      have hcz24_6 : w5.cell? ⟨gb341, 6, none⟩ = some (.slice A0_6 l0_6.length c0_6) := (blk_cell BK341.out 6).trans rfl
      have hfz24_0 := blk_frozen BK341.out 0
      have hfz24_1 := blk_frozen BK341.out 1
      have hfz24_2 := blk_frozen BK341.out 2
      have hfz24_3 := blk_frozen BK341.out 3
      have hfz24_4 := blk_frozen BK341.out 4
      have hfz24_5 := blk_frozen BK341.out 5
      have hfz24_6 := blk_frozen BK341.out 6
      have hcz25_0 : w5.cell? ⟨gb342, 0, none⟩ = some (.int .i64 a1_0) := (blk_cell BK342.out 0).trans rfl
      have hcz25_1 : w5.cell? ⟨gb342, 1, none⟩ = some (.int .i64 a1_1) := (blk_cell BK342.out 1).trans rfl
      have hcz25_2 : w5.cell? ⟨gb342, 2, none⟩ = some (.slice A1_2 l1_2.length c1_2) := (blk_cell BK342.out 2).trans rfl
      have hcz25_3 : w5.cell? ⟨gb342, 3, none⟩ = some (.slice A1_3 l1_3.length c1_3) := (blk_cell BK342.out 3).trans rfl
      have hcz25_4 : w5.cell? ⟨gb342, 4, none⟩ = some (.slice A1_4 l1_4.length c1_4) := (blk_cell BK342.out 4).trans rfl
      have hcz25_5 : w5.cell? ⟨gb342, 5, none⟩ = some (.slice A1_5 l1_5.length c1_5) := (blk_cell BK342.out 5).trans rfl
      have hcz25_6 : w5.cell? ⟨gb342, 6, none⟩ = some (.slice A1_6 l1_6.length c1_6) := (blk_cell BK342.out 6).trans rfl
      have hfz25_0 := blk_frozen BK342.out 0
      have hfz25_1 := blk_frozen BK342.out 1
      have hfz25_2 := blk_frozen BK342.out 2
      have hfz25_3 := blk_frozen BK342.out 3
      have hfz25_4 := blk_frozen BK342.out 4
      have hfz25_5 := blk_frozen BK342.out 5
      have hfz25_6 := blk_frozen BK342.out 6
      go_wp2_with (first | (go_at_call 39; (with_reducible refine (canopyref1_Ints.calls k _ _ l0_2 _ _ l1_2 true _ ?side1 ?side2 ?side3 ?side4 A8.out).mono ?_); (case side1 => repeat (first | exact (Kd.C_below HR0_2.out HB.out) | (with_reducible refine Kd.C_alloc ?_ _) | (with_reducible refine Kd.C_drewN ?_ _) | (with_reducible refine Kd.C_drew ?_))); (case side2 => exact HC0_2.out); (case side3 => repeat (first | exact (Kd.C_below HR1_2.out HB.out) | (with_reducible refine Kd.C_alloc ?_ _) | (with_reducible refine Kd.C_drewN ?_ _) | (with_reducible refine Kd.C_drew ?_))); (case side4 => exact HC1_2.out); rintro e w' ⟨rfl, ⟨nd, rfl⟩⟩; (try first | exact ⟨rfl, _, World.drewN_drewN _ _ _⟩ | exact ⟨rfl, _, Eq.trans (World.drewN_drewN _ _ _) (congrArg (World.drewN _) (Nat.add_assoc _ _ _))⟩)) | (go_at_call 39; (with_reducible refine (canopyref1_Ints.calls k _ _ l0_3 _ _ l1_3 false _ ?side1 ?side2 ?side3 ?side4 A10.out).mono ?_); (case side1 => repeat (first | exact (Kd.C_below HR0_3.out (by repeat (first | (with_reducible first | exact HB.out | apply below_alloc | apply pw_below_drewN | apply below_drew1 | refine below_set ?_ GE341.out | refine below_set ?_ GE342.out) | exact HB.out))) | (with_reducible refine Kd.C_alloc ?_ _) | (with_reducible refine Kd.C_drewN ?_ _) | (with_reducible refine Kd.C_drew ?_))); (case side2 => exact HC0_3.out); (case side3 => repeat (first | exact (Kd.C_below HR1_3.out (by repeat (first | (with_reducible first | exact HB.out | apply below_alloc | apply pw_below_drewN | apply below_drew1 | refine below_set ?_ GE341.out | refine below_set ?_ GE342.out) | exact HB.out))) | (with_reducible refine Kd.C_alloc ?_ _) | (with_reducible refine Kd.C_drewN ?_ _) | (with_reducible refine Kd.C_drew ?_))); (case side4 => exact HC1_3.out); rintro e w' ⟨rfl, ⟨nd, rfl⟩⟩; (try first | exact ⟨rfl, _, World.drewN_drewN _ _ _⟩ | exact ⟨rfl, _, Eq.trans (World.drewN_drewN _ _ _) (congrArg (World.drewN _) (Nat.add_assoc _ _ _))⟩)))
      repeat (go_quiet (first | (go_at_call 39; (with_reducible refine (canopyref1_Ints.calls k _ _ l0_2 _ _ l1_2 true _ ?side1 ?side2 ?side3 ?side4 A8.out).mono ?_); (case side1 => repeat (first | exact (Kd.C_below HR0_2.out HB.out) | (with_reducible refine Kd.C_alloc ?_ _) | (with_reducible refine Kd.C_drewN ?_ _) | (with_reducible refine Kd.C_drew ?_))); (case side2 => exact HC0_2.out); (case side3 => repeat (first | exact (Kd.C_below HR1_2.out HB.out) | (with_reducible refine Kd.C_alloc ?_ _) | (with_reducible refine Kd.C_drewN ?_ _) | (with_reducible refine Kd.C_drew ?_))); (case side4 => exact HC1_2.out); rintro e w' ⟨rfl, ⟨nd, rfl⟩⟩; (try first | exact ⟨rfl, _, World.drewN_drewN _ _ _⟩ | exact ⟨rfl, _, Eq.trans (World.drewN_drewN _ _ _) (congrArg (World.drewN _) (Nat.add_assoc _ _ _))⟩)) | (go_at_call 39; (with_reducible refine (canopyref1_Ints.calls k _ _ l0_3 _ _ l1_3 false _ ?side1 ?side2 ?side3 ?side4 A10.out).mono ?_); (case side1 => repeat (first | exact (Kd.C_below HR0_3.out (by repeat (first | (with_reducible first | exact HB.out | apply below_alloc | apply pw_below_drewN | apply below_drew1 | refine below_set ?_ GE341.out | refine below_set ?_ GE342.out) | exact HB.out))) | (with_reducible refine Kd.C_alloc ?_ _) | (with_reducible refine Kd.C_drewN ?_ _) | (with_reducible refine Kd.C_drew ?_))); (case side2 => exact HC0_3.out); (case side3 => repeat (first | exact (Kd.C_below HR1_3.out (by repeat (first | (with_reducible first | exact HB.out | apply below_alloc | apply pw_below_drewN | apply below_drew1 | refine below_set ?_ GE341.out | refine below_set ?_ GE342.out) | exact HB.out))) | (with_reducible refine Kd.C_alloc ?_ _) | (with_reducible refine Kd.C_drewN ?_ _) | (with_reducible refine Kd.C_drew ?_))); (case side4 => exact HC1_3.out); rintro e w' ⟨rfl, ⟨nd, rfl⟩⟩; (try first | exact ⟨rfl, _, World.drewN_drewN _ _ _⟩ | exact ⟨rfl, _, Eq.trans (World.drewN_drewN _ _ _) (congrArg (World.drewN _) (Nat.add_assoc _ _ _))⟩))); try go_wp2_with (first | (go_at_call 39; (with_reducible refine (canopyref1_Ints.calls k _ _ l0_2 _ _ l1_2 true _ ?side1 ?side2 ?side3 ?side4 A8.out).mono ?_); (case side1 => repeat (first | exact (Kd.C_below HR0_2.out HB.out) | (with_reducible refine Kd.C_alloc ?_ _) | (with_reducible refine Kd.C_drewN ?_ _) | (with_reducible refine Kd.C_drew ?_))); (case side2 => exact HC0_2.out); (case side3 => repeat (first | exact (Kd.C_below HR1_2.out HB.out) | (with_reducible refine Kd.C_alloc ?_ _) | (with_reducible refine Kd.C_drewN ?_ _) | (with_reducible refine Kd.C_drew ?_))); (case side4 => exact HC1_2.out); rintro e w' ⟨rfl, ⟨nd, rfl⟩⟩; (try first | exact ⟨rfl, _, World.drewN_drewN _ _ _⟩ | exact ⟨rfl, _, Eq.trans (World.drewN_drewN _ _ _) (congrArg (World.drewN _) (Nat.add_assoc _ _ _))⟩)) | (go_at_call 39; (with_reducible refine (canopyref1_Ints.calls k _ _ l0_3 _ _ l1_3 false _ ?side1 ?side2 ?side3 ?side4 A10.out).mono ?_); (case side1 => repeat (first | exact (Kd.C_below HR0_3.out (by repeat (first | (with_reducible first | exact HB.out | apply below_alloc | apply pw_below_drewN | apply below_drew1 | refine below_set ?_ GE341.out | refine below_set ?_ GE342.out) | exact HB.out))) | (with_reducible refine Kd.C_alloc ?_ _) | (with_reducible refine Kd.C_drewN ?_ _) | (with_reducible refine Kd.C_drew ?_))); (case side2 => exact HC0_3.out); (case side3 => repeat (first | exact (Kd.C_below HR1_3.out (by repeat (first | (with_reducible first | exact HB.out | apply below_alloc | apply pw_below_drewN | apply below_drew1 | refine below_set ?_ GE341.out | refine below_set ?_ GE342.out) | exact HB.out))) | (with_reducible refine Kd.C_alloc ?_ _) | (with_reducible refine Kd.C_drewN ?_ _) | (with_reducible refine Kd.C_drew ?_))); (case side4 => exact HC1_3.out); rintro e w' ⟨rfl, ⟨nd, rfl⟩⟩; (try first | exact ⟨rfl, _, World.drewN_drewN _ _ _⟩ | exact ⟨rfl, _, Eq.trans (World.drewN_drewN _ _ _) (congrArg (World.drewN _) (Nat.add_assoc _ _ _))⟩))))
      go_meet
      case rel => exact ⟨_, (true), (by first | rfl | (simp; done) | (simp [*]; done)), H', ⟨by first | omega | exact Nat.le_refl _⟩, ⟨by (with_reducible repeat (first | refine blk_drewN ?_ _ | refine blk_drew ?_ | refine blk_alloc ?_ _)); exact BK341.out⟩, ⟨by (with_reducible repeat (first | refine blk_drewN ?_ _ | refine blk_drew ?_ | refine blk_alloc ?_ _)); exact BK342.out⟩, ⟨by repeat (first | (with_reducible first | exact HB.out | apply below_alloc | apply pw_below_drewN | apply below_drew1 | refine below_set ?_ GE341.out | refine below_set ?_ GE342.out) | exact HB.out)⟩⟩
    ·replace c9 := Bool.eq_false_iff.mpr c9
     subst c9
     have H1 : (canopyref3_Same.j0 k true a0_0 a0_1 l0_2 l0_3 l0_4 l0_5 l0_6 a1_0 a1_1 l1_2 l1_3 l1_4 l1_5 l1_6) = some r := by rw [if_neg (show ¬ (false = true) by decide)] at H; exact H
     clear H
     have H := H1
     clear H1
     have H' := Aside0.mk H
     clear H
     have hnb26 := NB341_342.out
     have hnc26 := NB342_341.out
     have hcz27_0 : w5.cell? ⟨gb341, 0, none⟩ = some (.int .i64 a0_0) := (blk_cell BK341.out 0).trans rfl
     have hcz27_1 : w5.cell? ⟨gb341, 1, none⟩ = some (.int .i64 a0_1) := (blk_cell BK341.out 1).trans rfl
     have hcz27_2 : w5.cell? ⟨gb341, 2, none⟩ = some (.slice A0_2 l0_2.length c0_2) := (blk_cell BK341.out 2).trans rfl
     have hcz27_3 : w5.cell? ⟨gb341, 3, none⟩ = some (.slice A0_3 l0_3.length c0_3) := (blk_cell BK341.out 3).trans rfl
     have hcz27_4 : w5.cell? ⟨gb341, 4, none⟩ = some (.slice A0_4 l0_4.length c0_4) := (blk_cell BK341.out 4).trans rfl
     have hcz27_5 : w5.cell? ⟨gb341, 5, none⟩ = some (.slice A0_5 l0_5.length c0_5) := (blk_cell BK341.out 5).trans rfl
     have hcz27_6 : w5.cell? ⟨gb341, 6, none⟩ = some (.slice A0_6 l0_6.length c0_6) := (blk_cell BK341.out 6).trans rfl
     have hfz27_0 := blk_frozen BK341.out 0
     have hfz27_1 := blk_frozen BK341.out 1
     have hfz27_2 := blk_frozen BK341.out 2
     have hfz27_3 := blk_frozen BK341.out 3
     have hfz27_4 := blk_frozen BK341.out 4
     have hfz27_5 := blk_frozen BK341.out 5
     have hfz27_6 := blk_frozen BK341.out 6
     have hcz28_0 : w5.cell? ⟨gb342, 0, none⟩ = some (.int .i64 a1_0) := (blk_cell BK342.out 0).trans rfl
     have hcz28_1 : w5.cell? ⟨gb342, 1, none⟩ = some (.int .i64 a1_1) := (blk_cell BK342.out 1).trans rfl
     have hcz28_2 : w5.cell? ⟨gb342, 2, none⟩ = some (.slice A1_2 l1_2.length c1_2) := (blk_cell BK342.out 2).trans rfl
     have hcz28_3 : w5.cell? ⟨gb342, 3, none⟩ = some (.slice A1_3 l1_3.length c1_3) := (blk_cell BK342.out 3).trans rfl
     have hcz28_4 : w5.cell? ⟨gb342, 4, none⟩ = some (.slice A1_4 l1_4.length c1_4) := (blk_cell BK342.out 4).trans rfl
     have hcz28_5 : w5.cell? ⟨gb342, 5, none⟩ = some (.slice A1_5 l1_5.length c1_5) := (blk_cell BK342.out 5).trans rfl
     have hcz28_6 : w5.cell? ⟨gb342, 6, none⟩ = some (.slice A1_6 l1_6.length c1_6) := (blk_cell BK342.out 6).trans rfl
     have hfz28_0 := blk_frozen BK342.out 0
     have hfz28_1 := blk_frozen BK342.out 1
     have hfz28_2 := blk_frozen BK342.out 2
     have hfz28_3 := blk_frozen BK342.out 3
     have hfz28_4 := blk_frozen BK342.out 4
     have hfz28_5 := blk_frozen BK342.out 5
     have hfz28_6 := blk_frozen BK342.out 6
     go_wp2_with (first | (go_at_call 39; (with_reducible refine (canopyref1_Ints.calls k _ _ l0_2 _ _ l1_2 false _ ?side1 ?side2 ?side3 ?side4 A8.out).mono ?_); (case side1 => repeat (first | exact (Kd.C_below HR0_2.out HB.out) | (with_reducible refine Kd.C_alloc ?_ _) | (with_reducible refine Kd.C_drewN ?_ _) | (with_reducible refine Kd.C_drew ?_))); (case side2 => exact HC0_2.out); (case side3 => repeat (first | exact (Kd.C_below HR1_2.out HB.out) | (with_reducible refine Kd.C_alloc ?_ _) | (with_reducible refine Kd.C_drewN ?_ _) | (with_reducible refine Kd.C_drew ?_))); (case side4 => exact HC1_2.out); rintro e w' ⟨rfl, ⟨nd, rfl⟩⟩; (try first | exact ⟨rfl, _, World.drewN_drewN _ _ _⟩ | exact ⟨rfl, _, Eq.trans (World.drewN_drewN _ _ _) (congrArg (World.drewN _) (Nat.add_assoc _ _ _))⟩)))
     repeat (go_quiet (first | (go_at_call 39; (with_reducible refine (canopyref1_Ints.calls k _ _ l0_2 _ _ l1_2 false _ ?side1 ?side2 ?side3 ?side4 A8.out).mono ?_); (case side1 => repeat (first | exact (Kd.C_below HR0_2.out HB.out) | (with_reducible refine Kd.C_alloc ?_ _) | (with_reducible refine Kd.C_drewN ?_ _) | (with_reducible refine Kd.C_drew ?_))); (case side2 => exact HC0_2.out); (case side3 => repeat (first | exact (Kd.C_below HR1_2.out HB.out) | (with_reducible refine Kd.C_alloc ?_ _) | (with_reducible refine Kd.C_drewN ?_ _) | (with_reducible refine Kd.C_drew ?_))); (case side4 => exact HC1_2.out); rintro e w' ⟨rfl, ⟨nd, rfl⟩⟩; (try first | exact ⟨rfl, _, World.drewN_drewN _ _ _⟩ | exact ⟨rfl, _, Eq.trans (World.drewN_drewN _ _ _) (congrArg (World.drewN _) (Nat.add_assoc _ _ _))⟩))); try go_wp2_with (first | (go_at_call 39; (with_reducible refine (canopyref1_Ints.calls k _ _ l0_2 _ _ l1_2 false _ ?side1 ?side2 ?side3 ?side4 A8.out).mono ?_); (case side1 => repeat (first | exact (Kd.C_below HR0_2.out HB.out) | (with_reducible refine Kd.C_alloc ?_ _) | (with_reducible refine Kd.C_drewN ?_ _) | (with_reducible refine Kd.C_drew ?_))); (case side2 => exact HC0_2.out); (case side3 => repeat (first | exact (Kd.C_below HR1_2.out HB.out) | (with_reducible refine Kd.C_alloc ?_ _) | (with_reducible refine Kd.C_drewN ?_ _) | (with_reducible refine Kd.C_drew ?_))); (case side4 => exact HC1_2.out); rintro e w' ⟨rfl, ⟨nd, rfl⟩⟩; (try first | exact ⟨rfl, _, World.drewN_drewN _ _ _⟩ | exact ⟨rfl, _, Eq.trans (World.drewN_drewN _ _ _) (congrArg (World.drewN _) (Nat.add_assoc _ _ _))⟩))))
     go_meet
     case rel => exact ⟨_, (true), (by first | rfl | (simp; done) | (simp [*]; done)), H', ⟨by first | omega | exact Nat.le_refl _⟩, ⟨by (with_reducible repeat (first | refine blk_drewN ?_ _ | refine blk_drew ?_ | refine blk_alloc ?_ _)); exact BK341.out⟩, ⟨by (with_reducible repeat (first | refine blk_drewN ?_ _ | refine blk_drew ?_ | refine blk_alloc ?_ _)); exact BK342.out⟩, ⟨by repeat (first | (with_reducible first | exact HB.out | apply below_alloc | apply pw_below_drewN | apply below_drew1 | refine below_set ?_ GE341.out | refine below_set ?_ GE342.out) | exact HB.out)⟩⟩
   ·rw [if_neg c7] at H
    have c7b0 : (a0_1 == a1_1) = false := beq_eq_false_iff_ne.mpr c7
    have c7b1 : (a0_1 != a1_1) = true := bne_iff_ne.mpr c7
    have H' := Aside0.mk H
    clear H
    have hnb29 := NB341_342.out
    have hnc29 := NB342_341.out
    have hcz30_0 : w5.cell? ⟨gb341, 0, none⟩ = some (.int .i64 a0_0) := (blk_cell BK341.out 0).trans rfl
    have hcz30_1 : w5.cell? ⟨gb341, 1, none⟩ = some (.int .i64 a0_1) := (blk_cell BK341.out 1).trans rfl
    have hcz30_2 : w5.cell? ⟨gb341, 2, none⟩ = some (.slice A0_2 l0_2.length c0_2) := (blk_cell BK341.out 2).trans rfl
    have hcz30_3 : w5.cell? ⟨gb341, 3, none⟩ = some (.slice A0_3 l0_3.length c0_3) := (blk_cell BK341.out 3).trans rfl
    have hcz30_4 : w5.cell? ⟨gb341, 4, none⟩ = some (.slice A0_4 l0_4.length c0_4) := (blk_cell BK341.out 4).trans rfl
    have hcz30_5 : w5.cell? ⟨gb341, 5, none⟩ = some (.slice A0_5 l0_5.length c0_5) := (blk_cell BK341.out 5).trans rfl
    have hcz30_6 : w5.cell? ⟨gb341, 6, none⟩ = some (.slice A0_6 l0_6.length c0_6) := (blk_cell BK341.out 6).trans rfl
    have hfz30_0 := blk_frozen BK341.out 0
    have hfz30_1 := blk_frozen BK341.out 1
    have hfz30_2 := blk_frozen BK341.out 2
    have hfz30_3 := blk_frozen BK341.out 3
    have hfz30_4 := blk_frozen BK341.out 4
    have hfz30_5 := blk_frozen BK341.out 5
    have hfz30_6 := blk_frozen BK341.out 6
    have hcz31_0 : w5.cell? ⟨gb342, 0, none⟩ = some (.int .i64 a1_0) := (blk_cell BK342.out 0).trans rfl
    have hcz31_1 : w5.cell? ⟨gb342, 1, none⟩ = some (.int .i64 a1_1) := (blk_cell BK342.out 1).trans rfl
    have hcz31_2 : w5.cell? ⟨gb342, 2, none⟩ = some (.slice A1_2 l1_2.length c1_2) := (blk_cell BK342.out 2).trans rfl
    have hcz31_3 : w5.cell? ⟨gb342, 3, none⟩ = some (.slice A1_3 l1_3.length c1_3) := (blk_cell BK342.out 3).trans rfl
    have hcz31_4 : w5.cell? ⟨gb342, 4, none⟩ = some (.slice A1_4 l1_4.length c1_4) := (blk_cell BK342.out 4).trans rfl
    have hcz31_5 : w5.cell? ⟨gb342, 5, none⟩ = some (.slice A1_5 l1_5.length c1_5) := (blk_cell BK342.out 5).trans rfl
    have hcz31_6 : w5.cell? ⟨gb342, 6, none⟩ = some (.slice A1_6 l1_6.length c1_6) := (blk_cell BK342.out 6).trans rfl
    have hfz31_0 := blk_frozen BK342.out 0
    have hfz31_1 := blk_frozen BK342.out 1
    have hfz31_2 := blk_frozen BK342.out 2
    have hfz31_3 := blk_frozen BK342.out 3
    have hfz31_4 := blk_frozen BK342.out 4
    have hfz31_5 := blk_frozen BK342.out 5
    have hfz31_6 := blk_frozen BK342.out 6
    go_wp2
    repeat (go_quiet (fail); try go_wp2)
    go_meet
    case rel => exact ⟨_, (true), (by first | rfl | (simp; done) | (simp [*]; done)), H', ⟨by first | omega | exact Nat.le_refl _⟩, ⟨by (with_reducible repeat (first | refine blk_drewN ?_ _ | refine blk_drew ?_ | refine blk_alloc ?_ _)); exact BK341.out⟩, ⟨by (with_reducible repeat (first | refine blk_drewN ?_ _ | refine blk_drew ?_ | refine blk_alloc ?_ _)); exact BK342.out⟩, ⟨by repeat (first | (with_reducible first | exact HB.out | apply below_alloc | apply pw_below_drewN | apply below_drew1 | refine below_set ?_ GE341.out | refine below_set ?_ GE342.out) | exact HB.out)⟩⟩
  ·rw [if_neg c6] at H
   have c6b0 : (a0_0 == a1_0) = false := beq_eq_false_iff_ne.mpr c6
   have c6b1 : (a0_0 != a1_0) = true := bne_iff_ne.mpr c6
   (first | rw [c6b0] | (simp only [i64_w, i32_w]; rw [c6b0]) | skip)
   have H' := Aside0.mk H
   clear H
   have hnb32 := NB341_342.out
   have hnc32 := NB342_341.out
   have hcz33_0 : w5.cell? ⟨gb341, 0, none⟩ = some (.int .i64 a0_0) := (blk_cell BK341.out 0).trans rfl
   have hcz33_1 : w5.cell? ⟨gb341, 1, none⟩ = some (.int .i64 a0_1) := (blk_cell BK341.out 1).trans rfl
   have hcz33_2 : w5.cell? ⟨gb341, 2, none⟩ = some (.slice A0_2 l0_2.length c0_2) := (blk_cell BK341.out 2).trans rfl
   have hcz33_3 : w5.cell? ⟨gb341, 3, none⟩ = some (.slice A0_3 l0_3.length c0_3) := (blk_cell BK341.out 3).trans rfl
   have hcz33_4 : w5.cell? ⟨gb341, 4, none⟩ = some (.slice A0_4 l0_4.length c0_4) := (blk_cell BK341.out 4).trans rfl
   have hcz33_5 : w5.cell? ⟨gb341, 5, none⟩ = some (.slice A0_5 l0_5.length c0_5) := (blk_cell BK341.out 5).trans rfl
   have hcz33_6 : w5.cell? ⟨gb341, 6, none⟩ = some (.slice A0_6 l0_6.length c0_6) := (blk_cell BK341.out 6).trans rfl
   have hfz33_0 := blk_frozen BK341.out 0
   have hfz33_1 := blk_frozen BK341.out 1
   have hfz33_2 := blk_frozen BK341.out 2
   have hfz33_3 := blk_frozen BK341.out 3
   have hfz33_4 := blk_frozen BK341.out 4
   have hfz33_5 := blk_frozen BK341.out 5
   have hfz33_6 := blk_frozen BK341.out 6
   have hcz34_0 : w5.cell? ⟨gb342, 0, none⟩ = some (.int .i64 a1_0) := (blk_cell BK342.out 0).trans rfl
   have hcz34_1 : w5.cell? ⟨gb342, 1, none⟩ = some (.int .i64 a1_1) := (blk_cell BK342.out 1).trans rfl
   have hcz34_2 : w5.cell? ⟨gb342, 2, none⟩ = some (.slice A1_2 l1_2.length c1_2) := (blk_cell BK342.out 2).trans rfl
   have hcz34_3 : w5.cell? ⟨gb342, 3, none⟩ = some (.slice A1_3 l1_3.length c1_3) := (blk_cell BK342.out 3).trans rfl
   have hcz34_4 : w5.cell? ⟨gb342, 4, none⟩ = some (.slice A1_4 l1_4.length c1_4) := (blk_cell BK342.out 4).trans rfl
   have hcz34_5 : w5.cell? ⟨gb342, 5, none⟩ = some (.slice A1_5 l1_5.length c1_5) := (blk_cell BK342.out 5).trans rfl
   have hcz34_6 : w5.cell? ⟨gb342, 6, none⟩ = some (.slice A1_6 l1_6.length c1_6) := (blk_cell BK342.out 6).trans rfl
   have hfz34_0 := blk_frozen BK342.out 0
   have hfz34_1 := blk_frozen BK342.out 1
   have hfz34_2 := blk_frozen BK342.out 2
   have hfz34_3 := blk_frozen BK342.out 3
   have hfz34_4 := blk_frozen BK342.out 4
   have hfz34_5 := blk_frozen BK342.out 5
   have hfz34_6 := blk_frozen BK342.out 6
   go_wp2
   repeat (go_quiet (fail); try go_wp2)
   go_meet
   case rel => exact ⟨_, (true), (by first | rfl | (simp; done) | (simp [*]; done)), H', ⟨by first | omega | exact Nat.le_refl _⟩, ⟨by (with_reducible repeat (first | refine blk_drewN ?_ _ | refine blk_drew ?_ | refine blk_alloc ?_ _)); exact BK341.out⟩, ⟨by (with_reducible repeat (first | refine blk_drewN ?_ _ | refine blk_drew ?_ | refine blk_alloc ?_ _)); exact BK342.out⟩, ⟨by repeat (first | (with_reducible first | exact HB.out | apply below_alloc | apply pw_below_drewN | apply below_drew1 | refine below_set ?_ GE341.out | refine below_set ?_ GE342.out) | exact HB.out)⟩⟩
 case rest =>
  clear HC3
  try clear c1
  try clear c2
  try clear p2
  try clear c3
  try clear c6
  try clear c6b0
  try clear c6b1
  try clear c7
  try clear c7b0
  try clear c7b1
  try clear c9
  try clear c11
  try clear c12
  try clear c12b0
  try clear c12b1
  try clear c12b2
  try clear c13
  try clear c13b0
  try clear c13b1
  try clear c13b2
  try clear c14
  try clear c17
  try clear c20
  try clear c23
  try clear c26
  try clear c29
  try clear c32
  try clear hcz15_0
  try clear hcz15_1
  try clear hcz15_2
  try clear hcz15_3
  try clear hcz15_4
  try clear hcz15_5
  try clear hcz15_6
  try clear hcz16_0
  try clear hcz16_1
  try clear hcz16_2
  try clear hcz16_3
  try clear hcz16_4
  try clear hcz16_5
  try clear hcz16_6
  try clear hcz18_0
  try clear hcz18_1
  try clear hcz18_2
  try clear hcz18_3
  try clear hcz18_4
  try clear hcz18_5
  try clear hcz18_6
  try clear hcz19_0
  try clear hcz19_1
  try clear hcz19_2
  try clear hcz19_3
  try clear hcz19_4
  try clear hcz19_5
  try clear hcz19_6
  try clear hcz21_0
  try clear hcz21_1
  try clear hcz21_2
  try clear hcz21_3
  try clear hcz21_4
  try clear hcz21_5
  try clear hcz21_6
  try clear hcz22_0
  try clear hcz22_1
  try clear hcz22_2
  try clear hcz22_3
  try clear hcz22_4
  try clear hcz22_5
  try clear hcz22_6
  try clear hcz24_0
  try clear hcz24_1
  try clear hcz24_2
  try clear hcz24_3
  try clear hcz24_4
  try clear hcz24_5
  try clear hcz24_6
  try clear hcz25_0
  try clear hcz25_1
  try clear hcz25_2
  try clear hcz25_3
  try clear hcz25_4
  try clear hcz25_5
  try clear hcz25_6
  try clear hcz27_0
  try clear hcz27_1
  try clear hcz27_2
  try clear hcz27_3
  try clear hcz27_4
  try clear hcz27_5
  try clear hcz27_6
  try clear hcz28_0
  try clear hcz28_1
  try clear hcz28_2
  try clear hcz28_3
  try clear hcz28_4
  try clear hcz28_5
  try clear hcz28_6
  try clear hcz30_0
  try clear hcz30_1
  try clear hcz30_2
  try clear hcz30_3
  try clear hcz30_4
  try clear hcz30_5
  try clear hcz30_6
  try clear hcz31_0
  try clear hcz31_1
  try clear hcz31_2
  try clear hcz31_3
  try clear hcz31_4
  try clear hcz31_5
  try clear hcz31_6
  try clear hcz33_0
  try clear hcz33_1
  try clear hcz33_2
  try clear hcz33_3
  try clear hcz33_4
  try clear hcz33_5
  try clear hcz33_6
  try clear hcz34_0
  try clear hcz34_1
  try clear hcz34_2
  try clear hcz34_3
  try clear hcz34_4
  try clear hcz34_5
  try clear hcz34_6
  try clear hfz15_0
  try clear hfz15_1
  try clear hfz15_2
  try clear hfz15_3
  try clear hfz15_4
  try clear hfz15_5
  try clear hfz15_6
  try clear hfz16_0
  try clear hfz16_1
  try clear hfz16_2
  try clear hfz16_3
  try clear hfz16_4
  try clear hfz16_5
  try clear hfz16_6
  try clear hfz18_0
  try clear hfz18_1
  try clear hfz18_2
  try clear hfz18_3
  try clear hfz18_4
  try clear hfz18_5
  try clear hfz18_6
  try clear hfz19_0
  try clear hfz19_1
  try clear hfz19_2
  try clear hfz19_3
  try clear hfz19_4
  try clear hfz19_5
  try clear hfz19_6
  try clear hfz21_0
  try clear hfz21_1
  try clear hfz21_2
  try clear hfz21_3
  try clear hfz21_4
  try clear hfz21_5
  try clear hfz21_6
  try clear hfz22_0
  try clear hfz22_1
  try clear hfz22_2
  try clear hfz22_3
  try clear hfz22_4
  try clear hfz22_5
  try clear hfz22_6
  try clear hfz24_0
  try clear hfz24_1
  try clear hfz24_2
  try clear hfz24_3
  try clear hfz24_4
  try clear hfz24_5
  try clear hfz24_6
  try clear hfz25_0
  try clear hfz25_1
  try clear hfz25_2
  try clear hfz25_3
  try clear hfz25_4
  try clear hfz25_5
  try clear hfz25_6
  try clear hfz27_0
  try clear hfz27_1
  try clear hfz27_2
  try clear hfz27_3
  try clear hfz27_4
  try clear hfz27_5
  try clear hfz27_6
  try clear hfz28_0
  try clear hfz28_1
  try clear hfz28_2
  try clear hfz28_3
  try clear hfz28_4
  try clear hfz28_5
  try clear hfz28_6
  try clear hfz30_0
  try clear hfz30_1
  try clear hfz30_2
  try clear hfz30_3
  try clear hfz30_4
  try clear hfz30_5
  try clear hfz30_6
  try clear hfz31_0
  try clear hfz31_1
  try clear hfz31_2
  try clear hfz31_3
  try clear hfz31_4
  try clear hfz31_5
  try clear hfz31_6
  try clear hfz33_0
  try clear hfz33_1
  try clear hfz33_2
  try clear hfz33_3
  try clear hfz33_4
  try clear hfz33_5
  try clear hfz33_6
  try clear hfz34_0
  try clear hfz34_1
  try clear hfz34_2
  try clear hfz34_3
  try clear hfz34_4
  try clear hfz34_5
  try clear hfz34_6
  obtain ⟨kq, x62_2, rfl, HA, HJ2, BK341, BK342, HB⟩ := hcut
  cases kq with
  | zero => exact absurd HA.out (by simp [canopyref3_Same.j0])
  | succ kj2 =>
   have H := HA.out
   clear HA
   simp only [canopyref3_Same.j0] at H
   by_cases c35 : x62_2 = true
   ·subst c35
    have H1 : (some false) = some r := by rw [if_pos rfl] at H; exact H
    clear H
    have H := H1
    clear H1
    obtain rfl := Option.some.inj H
    go_wp2
    repeat (go_quiet (fail); try go_wp2)
    go_ret
    exact ⟨by first | rfl | (simp [errW_none, errW_some] <;> rfl) | (simp [*, errW_none, errW_some] <;> rfl), by repeat (first | (with_reducible first | exact HB.out | apply below_alloc | apply pw_below_drewN | apply below_drew1 | refine below_set ?_ GE341.out | refine below_set ?_ GE342.out) | exact HB.out)⟩
   ·replace c35 := Bool.eq_false_iff.mpr c35
    subst c35
    have H1 : (canopyref3_Same.l0 kj2 0 a0_0 a0_1 l0_2 l0_3 l0_4 l0_5 l0_6 a1_0 a1_1 l1_2 l1_3 l1_4 l1_5 l1_6) = some r := by rw [if_neg (show ¬ (false = true) by decide)] at H; exact H
    clear H
    have H := H1
    clear H1
    have H' := Aside0.mk H
    clear H
    go_wp2
    repeat (go_quiet (fail); try go_wp2)
    go_loopg [5] kj2 (fun kq v5 w' => ∃ (x5_2 : Int), v5 = .int .i64 x5_2 ∧ Aside0 (canopyref3_Same.l0 kq x5_2 a0_0 a0_1 l0_2 l0_3 l0_4 l0_5 l0_6 a1_0 a1_1 l1_2 l1_3 l1_4 l1_5 l1_6 = some r) ∧ Aside0 (kq ≤ kj2) ∧ Aside0 (w'.heap[gb341]? = some (.cells #[.int .i64 a0_0, .int .i64 a0_1, (.slice A0_2 l0_2.length c0_2), (.slice A0_3 l0_3.length c0_3), (.slice A0_4 l0_4.length c0_4), (.slice A0_5 l0_5.length c0_5), (.slice A0_6 l0_6.length c0_6)] 30 (0, 0))) ∧ Aside0 (w'.heap[gb342]? = some (.cells #[.int .i64 a1_0, .int .i64 a1_1, (.slice A1_2 l1_2.length c1_2), (.slice A1_3 l1_3.length c1_3), (.slice A1_4 l1_4.length c1_4), (.slice A1_5 l1_5.length c1_5), (.slice A1_6 l1_6.length c1_6)] 30 (0, 0))) ∧ Aside0 (Below w.heap.size w w'))
    case atStart => exact ⟨(0), (by first | rfl | (simp; done) | (simp [*]; done)), H', ⟨Nat.le_refl _⟩, ⟨by (with_reducible repeat (first | refine blk_drewN ?_ _ | refine blk_drew ?_ | refine blk_alloc ?_ _)); exact BK341.out⟩, ⟨by (with_reducible repeat (first | refine blk_drewN ?_ _ | refine blk_drew ?_ | refine blk_alloc ?_ _)); exact BK342.out⟩, ⟨by repeat (first | (with_reducible first | exact HB.out | apply below_alloc | apply pw_below_drewN | apply below_drew1 | refine below_set ?_ GE341.out | refine below_set ?_ GE342.out) | exact HB.out)⟩⟩
    case round =>
     clear H'
     try clear c1
     try clear c2
     try clear p2
     try clear c3
     try clear c6
     try clear c6b0
     try clear c6b1
     try clear c7
     try clear c7b0
     try clear c7b1
     try clear c9
     try clear c11
     try clear c12
     try clear c12b0
     try clear c12b1
     try clear c12b2
     try clear c13
     try clear c13b0
     try clear c13b1
     try clear c13b2
     try clear c14
     try clear c17
     try clear c20
     try clear c23
     try clear c26
     try clear c29
     try clear c32
     try clear c35
     try clear hcz15_0
     try clear hcz15_1
     try clear hcz15_2
     try clear hcz15_3
     try clear hcz15_4
     try clear hcz15_5
     try clear hcz15_6
     try clear hcz16_0
     try clear hcz16_1
     try clear hcz16_2
     try clear hcz16_3
     try clear hcz16_4
     try clear hcz16_5
     try clear hcz16_6
     try clear hcz18_0
     try clear hcz18_1
     try clear hcz18_2
     try clear hcz18_3
     try clear hcz18_4
     try clear hcz18_5
     try clear hcz18_6
     try clear hcz19_0
     try clear hcz19_1
     try clear hcz19_2
     try clear hcz19_3
     try clear hcz19_4
     try clear hcz19_5
     try clear hcz19_6
     try clear hcz21_0
     try clear hcz21_1
     try clear hcz21_2
     try clear hcz21_3
     try clear hcz21_4
     try clear hcz21_5
     try clear hcz21_6
     try clear hcz22_0
     try clear hcz22_1
     try clear hcz22_2
     try clear hcz22_3
     try clear hcz22_4
     try clear hcz22_5
     try clear hcz22_6
     try clear hcz24_0
     try clear hcz24_1
     try clear hcz24_2
     try clear hcz24_3
     try clear hcz24_4
     try clear hcz24_5
     try clear hcz24_6
     try clear hcz25_0
     try clear hcz25_1
     try clear hcz25_2
     try clear hcz25_3
     try clear hcz25_4
     try clear hcz25_5
     try clear hcz25_6
     try clear hcz27_0
     try clear hcz27_1
     try clear hcz27_2
     try clear hcz27_3
     try clear hcz27_4
     try clear hcz27_5
     try clear hcz27_6
     try clear hcz28_0
     try clear hcz28_1
     try clear hcz28_2
     try clear hcz28_3
     try clear hcz28_4
     try clear hcz28_5
     try clear hcz28_6
     try clear hcz30_0
     try clear hcz30_1
     try clear hcz30_2
     try clear hcz30_3
     try clear hcz30_4
     try clear hcz30_5
     try clear hcz30_6
     try clear hcz31_0
     try clear hcz31_1
     try clear hcz31_2
     try clear hcz31_3
     try clear hcz31_4
     try clear hcz31_5
     try clear hcz31_6
     try clear hcz33_0
     try clear hcz33_1
     try clear hcz33_2
     try clear hcz33_3
     try clear hcz33_4
     try clear hcz33_5
     try clear hcz33_6
     try clear hcz34_0
     try clear hcz34_1
     try clear hcz34_2
     try clear hcz34_3
     try clear hcz34_4
     try clear hcz34_5
     try clear hcz34_6
     try clear hfz15_0
     try clear hfz15_1
     try clear hfz15_2
     try clear hfz15_3
     try clear hfz15_4
     try clear hfz15_5
     try clear hfz15_6
     try clear hfz16_0
     try clear hfz16_1
     try clear hfz16_2
     try clear hfz16_3
     try clear hfz16_4
     try clear hfz16_5
     try clear hfz16_6
     try clear hfz18_0
     try clear hfz18_1
     try clear hfz18_2
     try clear hfz18_3
     try clear hfz18_4
     try clear hfz18_5
     try clear hfz18_6
     try clear hfz19_0
     try clear hfz19_1
     try clear hfz19_2
     try clear hfz19_3
     try clear hfz19_4
     try clear hfz19_5
     try clear hfz19_6
     try clear hfz21_0
     try clear hfz21_1
     try clear hfz21_2
     try clear hfz21_3
     try clear hfz21_4
     try clear hfz21_5
     try clear hfz21_6
     try clear hfz22_0
     try clear hfz22_1
     try clear hfz22_2
     try clear hfz22_3
     try clear hfz22_4
     try clear hfz22_5
     try clear hfz22_6
     try clear hfz24_0
     try clear hfz24_1
     try clear hfz24_2
     try clear hfz24_3
     try clear hfz24_4
     try clear hfz24_5
     try clear hfz24_6
     try clear hfz25_0
     try clear hfz25_1
     try clear hfz25_2
     try clear hfz25_3
     try clear hfz25_4
     try clear hfz25_5
     try clear hfz25_6
     try clear hfz27_0
     try clear hfz27_1
     try clear hfz27_2
     try clear hfz27_3
     try clear hfz27_4
     try clear hfz27_5
     try clear hfz27_6
     try clear hfz28_0
     try clear hfz28_1
     try clear hfz28_2
     try clear hfz28_3
     try clear hfz28_4
     try clear hfz28_5
     try clear hfz28_6
     try clear hfz30_0
     try clear hfz30_1
     try clear hfz30_2
     try clear hfz30_3
     try clear hfz30_4
     try clear hfz30_5
     try clear hfz30_6
     try clear hfz31_0
     try clear hfz31_1
     try clear hfz31_2
     try clear hfz31_3
     try clear hfz31_4
     try clear hfz31_5
     try clear hfz31_6
     try clear hfz33_0
     try clear hfz33_1
     try clear hfz33_2
     try clear hfz33_3
     try clear hfz33_4
     try clear hfz33_5
     try clear hfz33_6
     try clear hfz34_0
     try clear hfz34_1
     try clear hfz34_2
     try clear hfz34_3
     try clear hfz34_4
     try clear hfz34_5
     try clear hfz34_6
     try clear p2
     obtain ⟨x5_2, rfl, HA, HK2, BK341, BK342, HB⟩ := hrel
     cases gk with
     | zero => exact absurd HA.out (by simp [canopyref3_Same.l0])
     | succ k2 =>
      have H := HA.out
      clear HA
      simp only [canopyref3_Same.l0] at H
      by_cases c36 : x5_2 < (l0_4.length : Int)
      ·rw [if_pos c36] at H
       have c36b0 : decide (x5_2 < (l0_4.length : Int)) = true := decide_eq_true c36
       clear c36
       by_cases c37 : 0 ≤ x5_2
       ·rw [if_pos c37] at H
        have c37b0 : decide (0 ≤ x5_2) = true := decide_eq_true c37
        clear c37
        by_cases c38 : x5_2 < (l1_4.length : Int)
        ·rw [if_pos c38] at H
         have c38b0 : decide (x5_2 < (l1_4.length : Int)) = true := decide_eq_true c38
         clear c38
         by_cases c39 : (!(((rd_T36 l0_4 x5_2).f0) == ((rd_T36 l1_4 x5_2).f0)) || (!(((rd_T36 l0_4 x5_2).f1) == ((rd_T36 l1_4 x5_2).f1)) || (!(((rd_T36 l0_4 x5_2).f2) == ((rd_T36 l1_4 x5_2).f2)) || (!(((rd_T36 l0_4 x5_2).f3) == ((rd_T36 l1_4 x5_2).f3)))))) = true
         ·rw [if_pos c39] at H
          have c39b0 : (!(((rd_T36 l0_4 x5_2).f0) == ((rd_T36 l1_4 x5_2).f0)) || (!(((rd_T36 l0_4 x5_2).f1) == ((rd_T36 l1_4 x5_2).f1)) || (!(((rd_T36 l0_4 x5_2).f2) == ((rd_T36 l1_4 x5_2).f2)) || (!(((rd_T36 l0_4 x5_2).f3) == ((rd_T36 l1_4 x5_2).f3)))))) = true := c39
          clear c39
          obtain rfl := Option.some.inj H
          have hnb40 := NB341_342.out
          have hnc40 := NB342_341.out
          have hcz41_0 : wr.cell? ⟨gb341, 0, none⟩ = some (.int .i64 a0_0) := (blk_cell BK341.out 0).trans rfl
          have hcz41_1 : wr.cell? ⟨gb341, 1, none⟩ = some (.int .i64 a0_1) := (blk_cell BK341.out 1).trans rfl
          have hcz41_2 : wr.cell? ⟨gb341, 2, none⟩ = some (.slice A0_2 l0_2.length c0_2) := (blk_cell BK341.out 2).trans rfl
          have hcz41_3 : wr.cell? ⟨gb341, 3, none⟩ = some (.slice A0_3 l0_3.length c0_3) := (blk_cell BK341.out 3).trans rfl
          have hcz41_4 : wr.cell? ⟨gb341, 4, none⟩ = some (.slice A0_4 l0_4.length c0_4) := (blk_cell BK341.out 4).trans rfl
          have hcz41_5 : wr.cell? ⟨gb341, 5, none⟩ = some (.slice A0_5 l0_5.length c0_5) := (blk_cell BK341.out 5).trans rfl
          have hcz41_6 : wr.cell? ⟨gb341, 6, none⟩ = some (.slice A0_6 l0_6.length c0_6) := (blk_cell BK341.out 6).trans rfl
          have hfz41_0 := blk_frozen BK341.out 0
          have hfz41_1 := blk_frozen BK341.out 1
          have hfz41_2 := blk_frozen BK341.out 2
          have hfz41_3 := blk_frozen BK341.out 3
          have hfz41_4 := blk_frozen BK341.out 4
          have hfz41_5 := blk_frozen BK341.out 5
          have hfz41_6 := blk_frozen BK341.out 6
          have p345 : 0 ≤ (x5_2 : Int) := of_decide_eq_true (by first | (with_reducible assumption) | assumption)
          have q345 : x5_2 < (l0_4.length : Int) := of_decide_eq_true (by first | (with_reducible assumption) | assumption)
          obtain ⟨ad345, e345, hx345_0, hx345_1, hx345_2, hx345_3⟩ := at_T36 HR0_4.out x5_2 p345 q345
          cases e345
          replace hx345_0 := (HB.out.cell (World.block_lt_of_cell? w _ hx345_0)).trans hx345_0
          replace hx345_1 := (HB.out.cell (World.block_lt_of_cell? w _ hx345_1)).trans hx345_1
          replace hx345_2 := (HB.out.cell (World.block_lt_of_cell? w _ hx345_2)).trans hx345_2
          replace hx345_3 := (HB.out.cell (World.block_lt_of_cell? w _ hx345_3)).trans hx345_3
          replace p345 := eq_true p345
          replace q345 := eq_true q345
          have hcz42_0 : wr.cell? ⟨gb342, 0, none⟩ = some (.int .i64 a1_0) := (blk_cell BK342.out 0).trans rfl
          have hcz42_1 : wr.cell? ⟨gb342, 1, none⟩ = some (.int .i64 a1_1) := (blk_cell BK342.out 1).trans rfl
          have hcz42_2 : wr.cell? ⟨gb342, 2, none⟩ = some (.slice A1_2 l1_2.length c1_2) := (blk_cell BK342.out 2).trans rfl
          have hcz42_3 : wr.cell? ⟨gb342, 3, none⟩ = some (.slice A1_3 l1_3.length c1_3) := (blk_cell BK342.out 3).trans rfl
          have hcz42_4 : wr.cell? ⟨gb342, 4, none⟩ = some (.slice A1_4 l1_4.length c1_4) := (blk_cell BK342.out 4).trans rfl
          have hcz42_5 : wr.cell? ⟨gb342, 5, none⟩ = some (.slice A1_5 l1_5.length c1_5) := (blk_cell BK342.out 5).trans rfl
          have hcz42_6 : wr.cell? ⟨gb342, 6, none⟩ = some (.slice A1_6 l1_6.length c1_6) := (blk_cell BK342.out 6).trans rfl
          have hfz42_0 := blk_frozen BK342.out 0
          have hfz42_1 := blk_frozen BK342.out 1
          have hfz42_2 := blk_frozen BK342.out 2
          have hfz42_3 := blk_frozen BK342.out 3
          have hfz42_4 := blk_frozen BK342.out 4
          have hfz42_5 := blk_frozen BK342.out 5
          have hfz42_6 := blk_frozen BK342.out 6
          have p346 : 0 ≤ (x5_2 : Int) := of_decide_eq_true (by first | (with_reducible assumption) | assumption)
          have q346 : x5_2 < (l1_4.length : Int) := of_decide_eq_true (by first | (with_reducible assumption) | assumption)
          obtain ⟨ad346, e346, hx346_0, hx346_1, hx346_2, hx346_3⟩ := at_T36 HR1_4.out x5_2 p346 q346
          cases e346
          replace hx346_0 := (HB.out.cell (World.block_lt_of_cell? w _ hx346_0)).trans hx346_0
          replace hx346_1 := (HB.out.cell (World.block_lt_of_cell? w _ hx346_1)).trans hx346_1
          replace hx346_2 := (HB.out.cell (World.block_lt_of_cell? w _ hx346_2)).trans hx346_2
          replace hx346_3 := (HB.out.cell (World.block_lt_of_cell? w _ hx346_3)).trans hx346_3
          replace p346 := eq_true p346
          replace q346 := eq_true q346
          go_wp2
          repeat (go_quiet (fail); try go_wp2)
          go_ret
          exact ⟨by first | rfl | (simp [errW_none, errW_some] <;> rfl) | (simp [*, errW_none, errW_some] <;> rfl), by repeat (first | (with_reducible first | exact HB.out | apply below_alloc | apply pw_below_drewN | apply below_drew1 | refine below_set ?_ GE341.out | refine below_set ?_ GE342.out) | exact HB.out)⟩
         ·rw [if_neg c39] at H
          have c39b0 : (!(((rd_T36 l0_4 x5_2).f0) == ((rd_T36 l1_4 x5_2).f0)) || (!(((rd_T36 l0_4 x5_2).f1) == ((rd_T36 l1_4 x5_2).f1)) || (!(((rd_T36 l0_4 x5_2).f2) == ((rd_T36 l1_4 x5_2).f2)) || (!(((rd_T36 l0_4 x5_2).f3) == ((rd_T36 l1_4 x5_2).f3)))))) = false := by simpa using c39
          clear c39
          have H' := Aside0.mk H
          clear H
          have hnb43 := NB341_342.out
          have hnc43 := NB342_341.out
          have hcz44_0 : wr.cell? ⟨gb341, 0, none⟩ = some (.int .i64 a0_0) := (blk_cell BK341.out 0).trans rfl
          have hcz44_1 : wr.cell? ⟨gb341, 1, none⟩ = some (.int .i64 a0_1) := (blk_cell BK341.out 1).trans rfl
          have hcz44_2 : wr.cell? ⟨gb341, 2, none⟩ = some (.slice A0_2 l0_2.length c0_2) := (blk_cell BK341.out 2).trans rfl
          have hcz44_3 : wr.cell? ⟨gb341, 3, none⟩ = some (.slice A0_3 l0_3.length c0_3) := (blk_cell BK341.out 3).trans rfl
          have hcz44_4 : wr.cell? ⟨gb341, 4, none⟩ = some (.slice A0_4 l0_4.length c0_4) := (blk_cell BK341.out 4).trans rfl
          have hcz44_5 : wr.cell? ⟨gb341, 5, none⟩ = some (.slice A0_5 l0_5.length c0_5) := (blk_cell BK341.out 5).trans rfl
          have hcz44_6 : wr.cell? ⟨gb341, 6, none⟩ = some (.slice A0_6 l0_6.length c0_6) := (blk_cell BK341.out 6).trans rfl
          have hfz44_0 := blk_frozen BK341.out 0
          have hfz44_1 := blk_frozen BK341.out 1
          have hfz44_2 := blk_frozen BK341.out 2
          have hfz44_3 := blk_frozen BK341.out 3
          have hfz44_4 := blk_frozen BK341.out 4
          have hfz44_5 := blk_frozen BK341.out 5
          have hfz44_6 := blk_frozen BK341.out 6
          have p345 : 0 ≤ (x5_2 : Int) := of_decide_eq_true (by first | (with_reducible assumption) | assumption)
          have q345 : x5_2 < (l0_4.length : Int) := of_decide_eq_true (by first | (with_reducible assumption) | assumption)
          obtain ⟨ad345, e345, hx345_0, hx345_1, hx345_2, hx345_3⟩ := at_T36 HR0_4.out x5_2 p345 q345
          cases e345
          replace hx345_0 := (HB.out.cell (World.block_lt_of_cell? w _ hx345_0)).trans hx345_0
          replace hx345_1 := (HB.out.cell (World.block_lt_of_cell? w _ hx345_1)).trans hx345_1
          replace hx345_2 := (HB.out.cell (World.block_lt_of_cell? w _ hx345_2)).trans hx345_2
          replace hx345_3 := (HB.out.cell (World.block_lt_of_cell? w _ hx345_3)).trans hx345_3
          replace p345 := eq_true p345
          replace q345 := eq_true q345
          have hcz45_0 : wr.cell? ⟨gb342, 0, none⟩ = some (.int .i64 a1_0) := (blk_cell BK342.out 0).trans rfl
          have hcz45_1 : wr.cell? ⟨gb342, 1, none⟩ = some (.int .i64 a1_1) := (blk_cell BK342.out 1).trans rfl
          have hcz45_2 : wr.cell? ⟨gb342, 2, none⟩ = some (.slice A1_2 l1_2.length c1_2) := (blk_cell BK342.out 2).trans rfl
          have hcz45_3 : wr.cell? ⟨gb342, 3, none⟩ = some (.slice A1_3 l1_3.length c1_3) := (blk_cell BK342.out 3).trans rfl
          have hcz45_4 : wr.cell? ⟨gb342, 4, none⟩ = some (.slice A1_4 l1_4.length c1_4) := (blk_cell BK342.out 4).trans rfl
          have hcz45_5 : wr.cell? ⟨gb342, 5, none⟩ = some (.slice A1_5 l1_5.length c1_5) := (blk_cell BK342.out 5).trans rfl
          have hcz45_6 : wr.cell? ⟨gb342, 6, none⟩ = some (.slice A1_6 l1_6.length c1_6) := (blk_cell BK342.out 6).trans rfl
          have hfz45_0 := blk_frozen BK342.out 0
          have hfz45_1 := blk_frozen BK342.out 1
          have hfz45_2 := blk_frozen BK342.out 2
          have hfz45_3 := blk_frozen BK342.out 3
          have hfz45_4 := blk_frozen BK342.out 4
          have hfz45_5 := blk_frozen BK342.out 5
          have hfz45_6 := blk_frozen BK342.out 6
          have p346 : 0 ≤ (x5_2 : Int) := of_decide_eq_true (by first | (with_reducible assumption) | assumption)
          have q346 : x5_2 < (l1_4.length : Int) := of_decide_eq_true (by first | (with_reducible assumption) | assumption)
          obtain ⟨ad346, e346, hx346_0, hx346_1, hx346_2, hx346_3⟩ := at_T36 HR1_4.out x5_2 p346 q346
          cases e346
          replace hx346_0 := (HB.out.cell (World.block_lt_of_cell? w _ hx346_0)).trans hx346_0
          replace hx346_1 := (HB.out.cell (World.block_lt_of_cell? w _ hx346_1)).trans hx346_1
          replace hx346_2 := (HB.out.cell (World.block_lt_of_cell? w _ hx346_2)).trans hx346_2
          replace hx346_3 := (HB.out.cell (World.block_lt_of_cell? w _ hx346_3)).trans hx346_3
          replace p346 := eq_true p346
          replace q346 := eq_true q346
          go_wp2
          repeat (go_quiet (fail); try go_wp2)
          go_roundg k2
          case measure => have := HJ2.out; have := HK2.out; omega
          case rel => exact ⟨(wrap64 (x5_2 + 1)), (by first | rfl | (simp; done) | (simp [*]; done)), H', ⟨by have := HJ2.out; have := HK2.out; omega⟩, ⟨by (with_reducible repeat (first | refine blk_drewN ?_ _ | refine blk_drew ?_ | refine blk_alloc ?_ _)); exact BK341.out⟩, ⟨by (with_reducible repeat (first | refine blk_drewN ?_ _ | refine blk_drew ?_ | refine blk_alloc ?_ _)); exact BK342.out⟩, ⟨by repeat (first | (with_reducible first | exact HB.out | apply below_alloc | apply pw_below_drewN | apply below_drew1 | refine below_set ?_ GE341.out | refine below_set ?_ GE342.out) | exact HB.out)⟩⟩
        ·rw [if_neg c38] at H
         exact absurd H (by simp)
       ·rw [if_neg c37] at H
        exact absurd H (by simp)
      ·rw [if_neg c36] at H
       have c36b0 : decide (x5_2 < (l0_4.length : Int)) = false := decide_eq_false c36
       clear c36
       have H' := Aside0.mk H
       clear H
       have hnb46 := NB341_342.out
       have hnc46 := NB342_341.out
       have hcz47_0 : wr.cell? ⟨gb341, 0, none⟩ = some (.int .i64 a0_0) := (blk_cell BK341.out 0).trans rfl
       have hcz47_1 : wr.cell? ⟨gb341, 1, none⟩ = some (.int .i64 a0_1) := (blk_cell BK341.out 1).trans rfl
       have hcz47_2 : wr.cell? ⟨gb341, 2, none⟩ = some (.slice A0_2 l0_2.length c0_2) := (blk_cell BK341.out 2).trans rfl
       have hcz47_3 : wr.cell? ⟨gb341, 3, none⟩ = some (.slice A0_3 l0_3.length c0_3) := (blk_cell BK341.out 3).trans rfl
       have hcz47_4 : wr.cell? ⟨gb341, 4, none⟩ = some (.slice A0_4 l0_4.length c0_4) := (blk_cell BK341.out 4).trans rfl
       have hcz47_5 : wr.cell? ⟨gb341, 5, none⟩ = some (.slice A0_5 l0_5.length c0_5) := (blk_cell BK341.out 5).trans rfl
       have hcz47_6 : wr.cell? ⟨gb341, 6, none⟩ = some (.slice A0_6 l0_6.length c0_6) := (blk_cell BK341.out 6).trans rfl
       have hfz47_0 := blk_frozen BK341.out 0
       have hfz47_1 := blk_frozen BK341.out 1
       have hfz47_2 := blk_frozen BK341.out 2
       have hfz47_3 := blk_frozen BK341.out 3
       have hfz47_4 := blk_frozen BK341.out 4
       have hfz47_5 := blk_frozen BK341.out 5
       have hfz47_6 := blk_frozen BK341.out 6
       go_wp2
       repeat (go_quiet (fail); try go_wp2)
       go_loopg [6] k2 (fun kq v6 w' => ∃ (x6_3 : Int), v6 = .int .i64 x6_3 ∧ Aside0 (canopyref3_Same.l1 kq x6_3 a0_0 a0_1 l0_2 l0_3 l0_4 l0_5 l0_6 a1_0 a1_1 l1_2 l1_3 l1_4 l1_5 l1_6 = some r) ∧ Aside0 (kq ≤ k2) ∧ Aside0 (w'.heap[gb341]? = some (.cells #[.int .i64 a0_0, .int .i64 a0_1, (.slice A0_2 l0_2.length c0_2), (.slice A0_3 l0_3.length c0_3), (.slice A0_4 l0_4.length c0_4), (.slice A0_5 l0_5.length c0_5), (.slice A0_6 l0_6.length c0_6)] 30 (0, 0))) ∧ Aside0 (w'.heap[gb342]? = some (.cells #[.int .i64 a1_0, .int .i64 a1_1, (.slice A1_2 l1_2.length c1_2), (.slice A1_3 l1_3.length c1_3), (.slice A1_4 l1_4.length c1_4), (.slice A1_5 l1_5.length c1_5), (.slice A1_6 l1_6.length c1_6)] 30 (0, 0))) ∧ Aside0 (Below w.heap.size w w'))
       case atStart => exact ⟨(0), (by first | rfl | (simp; done) | (simp [*]; done)), H', ⟨Nat.le_refl _⟩, ⟨by (with_reducible repeat (first | refine blk_drewN ?_ _ | refine blk_drew ?_ | refine blk_alloc ?_ _)); exact BK341.out⟩, ⟨by (with_reducible repeat (first | refine blk_drewN ?_ _ | refine blk_drew ?_ | refine blk_alloc ?_ _)); exact BK342.out⟩, ⟨by repeat (first | (with_reducible first | exact HB.out | apply below_alloc | apply pw_below_drewN | apply below_drew1 | refine below_set ?_ GE341.out | refine below_set ?_ GE342.out) | exact HB.out)⟩⟩
       case round =>
        clear H'
        try clear c1
        try clear c2
        try clear p2
        try clear c3
        try clear p3
        try clear q3
        try clear hx3
        try clear c4
        try clear c6
        try clear c6b0
        try clear c6b1
        try clear p6
        try clear c7
        try clear c7b0
        try clear c7b1
        try clear c9
        try clear c11
        try clear c12
        try clear c12b0
        try clear c12b1
        try clear c12b2
        try clear c13
        try clear c13b0
        try clear c13b1
        try clear c13b2
        try clear c14
        try clear c17
        try clear c20
        try clear c23
        try clear c26
        try clear c29
        try clear c32
        try clear p34
        try clear q34
        try clear hx34
        try clear c35
        try clear c36
        try clear c36b0
        try clear c37
        try clear c37b0
        try clear c38
        try clear c38b0
        try clear c39
        try clear c39b0
        try clear c40
        try clear c43
        try clear c46
        try clear hcz15_0
        try clear hcz15_1
        try clear hcz15_2
        try clear hcz15_3
        try clear hcz15_4
        try clear hcz15_5
        try clear hcz15_6
        try clear hcz16_0
        try clear hcz16_1
        try clear hcz16_2
        try clear hcz16_3
        try clear hcz16_4
        try clear hcz16_5
        try clear hcz16_6
        try clear hcz18_0
        try clear hcz18_1
        try clear hcz18_2
        try clear hcz18_3
        try clear hcz18_4
        try clear hcz18_5
        try clear hcz18_6
        try clear hcz19_0
        try clear hcz19_1
        try clear hcz19_2
        try clear hcz19_3
        try clear hcz19_4
        try clear hcz19_5
        try clear hcz19_6
        try clear hcz21_0
        try clear hcz21_1
        try clear hcz21_2
        try clear hcz21_3
        try clear hcz21_4
        try clear hcz21_5
        try clear hcz21_6
        try clear hcz22_0
        try clear hcz22_1
        try clear hcz22_2
        try clear hcz22_3
        try clear hcz22_4
        try clear hcz22_5
        try clear hcz22_6
        try clear hcz24_0
        try clear hcz24_1
        try clear hcz24_2
        try clear hcz24_3
        try clear hcz24_4
        try clear hcz24_5
        try clear hcz24_6
        try clear hcz25_0
        try clear hcz25_1
        try clear hcz25_2
        try clear hcz25_3
        try clear hcz25_4
        try clear hcz25_5
        try clear hcz25_6
        try clear hcz27_0
        try clear hcz27_1
        try clear hcz27_2
        try clear hcz27_3
        try clear hcz27_4
        try clear hcz27_5
        try clear hcz27_6
        try clear hcz28_0
        try clear hcz28_1
        try clear hcz28_2
        try clear hcz28_3
        try clear hcz28_4
        try clear hcz28_5
        try clear hcz28_6
        try clear hcz30_0
        try clear hcz30_1
        try clear hcz30_2
        try clear hcz30_3
        try clear hcz30_4
        try clear hcz30_5
        try clear hcz30_6
        try clear hcz31_0
        try clear hcz31_1
        try clear hcz31_2
        try clear hcz31_3
        try clear hcz31_4
        try clear hcz31_5
        try clear hcz31_6
        try clear hcz33_0
        try clear hcz33_1
        try clear hcz33_2
        try clear hcz33_3
        try clear hcz33_4
        try clear hcz33_5
        try clear hcz33_6
        try clear hcz34_0
        try clear hcz34_1
        try clear hcz34_2
        try clear hcz34_3
        try clear hcz34_4
        try clear hcz34_5
        try clear hcz34_6
        try clear hcz41_0
        try clear hcz41_1
        try clear hcz41_2
        try clear hcz41_3
        try clear hcz41_4
        try clear hcz41_5
        try clear hcz41_6
        try clear hcz42_0
        try clear hcz42_1
        try clear hcz42_2
        try clear hcz42_3
        try clear hcz42_4
        try clear hcz42_5
        try clear hcz42_6
        try clear hcz44_0
        try clear hcz44_1
        try clear hcz44_2
        try clear hcz44_3
        try clear hcz44_4
        try clear hcz44_5
        try clear hcz44_6
        try clear hcz45_0
        try clear hcz45_1
        try clear hcz45_2
        try clear hcz45_3
        try clear hcz45_4
        try clear hcz45_5
        try clear hcz45_6
        try clear hcz47_0
        try clear hcz47_1
        try clear hcz47_2
        try clear hcz47_3
        try clear hcz47_4
        try clear hcz47_5
        try clear hcz47_6
        try clear hfz15_0
        try clear hfz15_1
        try clear hfz15_2
        try clear hfz15_3
        try clear hfz15_4
        try clear hfz15_5
        try clear hfz15_6
        try clear hfz16_0
        try clear hfz16_1
        try clear hfz16_2
        try clear hfz16_3
        try clear hfz16_4
        try clear hfz16_5
        try clear hfz16_6
        try clear hfz18_0
        try clear hfz18_1
        try clear hfz18_2
        try clear hfz18_3
        try clear hfz18_4
        try clear hfz18_5
        try clear hfz18_6
        try clear hfz19_0
        try clear hfz19_1
        try clear hfz19_2
        try clear hfz19_3
        try clear hfz19_4
        try clear hfz19_5
        try clear hfz19_6
        try clear hfz21_0
        try clear hfz21_1
        try clear hfz21_2
        try clear hfz21_3
        try clear hfz21_4
        try clear hfz21_5
        try clear hfz21_6
        try clear hfz22_0
        try clear hfz22_1
        try clear hfz22_2
        try clear hfz22_3
        try clear hfz22_4
        try clear hfz22_5
        try clear hfz22_6
        try clear hfz24_0
        try clear hfz24_1
        try clear hfz24_2
        try clear hfz24_3
        try clear hfz24_4
        try clear hfz24_5
        try clear hfz24_6
        try clear hfz25_0
        try clear hfz25_1
        try clear hfz25_2
        try clear hfz25_3
        try clear hfz25_4
        try clear hfz25_5
        try clear hfz25_6
        try clear hfz27_0
        try clear hfz27_1
        try clear hfz27_2
        try clear hfz27_3
        try clear hfz27_4
        try clear hfz27_5
        try clear hfz27_6
        try clear hfz28_0
        try clear hfz28_1
        try clear hfz28_2
        try clear hfz28_3
        try clear hfz28_4
        try clear hfz28_5
        try clear hfz28_6
        try clear hfz30_0
        try clear hfz30_1
        try clear hfz30_2
        try clear hfz30_3
        try clear hfz30_4
        try clear hfz30_5
        try clear hfz30_6
        try clear hfz31_0
        try clear hfz31_1
        try clear hfz31_2
        try clear hfz31_3
        try clear hfz31_4
        try clear hfz31_5
        try clear hfz31_6
        try clear hfz33_0
        try clear hfz33_1
        try clear hfz33_2
        try clear hfz33_3
        try clear hfz33_4
        try clear hfz33_5
        try clear hfz33_6
        try clear hfz34_0
        try clear hfz34_1
        try clear hfz34_2
        try clear hfz34_3
        try clear hfz34_4
        try clear hfz34_5
        try clear hfz34_6
        try clear hfz41_0
        try clear hfz41_1
        try clear hfz41_2
        try clear hfz41_3
        try clear hfz41_4
        try clear hfz41_5
        try clear hfz41_6
        try clear hfz42_0
        try clear hfz42_1
        try clear hfz42_2
        try clear hfz42_3
        try clear hfz42_4
        try clear hfz42_5
        try clear hfz42_6
        try clear hfz44_0
        try clear hfz44_1
        try clear hfz44_2
        try clear hfz44_3
        try clear hfz44_4
        try clear hfz44_5
        try clear hfz44_6
        try clear hfz45_0
        try clear hfz45_1
        try clear hfz45_2
        try clear hfz45_3
        try clear hfz45_4
        try clear hfz45_5
        try clear hfz45_6
        try clear hfz47_0
        try clear hfz47_1
        try clear hfz47_2
        try clear hfz47_3
        try clear hfz47_4
        try clear hfz47_5
        try clear hfz47_6
        try clear hx345_0
        try clear hx345_1
        try clear hx345_2
        try clear hx345_3
        try clear hx346_0
        try clear hx346_1
        try clear hx346_2
        try clear hx346_3
        try clear p2
        try clear p345
        try clear p346
        try clear q345
        try clear q346
        obtain ⟨x6_3, rfl, HA, HK3, BK341, BK342, HB⟩ := hrel
        cases gk with
        | zero => exact absurd HA.out (by simp [canopyref3_Same.l1])
        | succ k3 =>
         have H := HA.out
         clear HA
         simp only [canopyref3_Same.l1] at H
         by_cases c48 : x6_3 < (l0_5.length : Int)
         ·rw [if_pos c48] at H
          have c48b0 : decide (x6_3 < (l0_5.length : Int)) = true := decide_eq_true c48
          clear c48
          by_cases c49 : 0 ≤ x6_3
          ·rw [if_pos c49] at H
           have c49b0 : decide (0 ≤ x6_3) = true := decide_eq_true c49
           clear c49
           by_cases c50 : x6_3 < (l1_5.length : Int)
           ·rw [if_pos c50] at H
            have c50b0 : decide (x6_3 < (l1_5.length : Int)) = true := decide_eq_true c50
            clear c50
            by_cases c51 : (!(((rd_T38 l0_5 x6_3).f0) == ((rd_T38 l1_5 x6_3).f0)) || (!(((rd_T38 l0_5 x6_3).f1) == ((rd_T38 l1_5 x6_3).f1)) || (!(((rd_T38 l0_5 x6_3).f2) == ((rd_T38 l1_5 x6_3).f2)) || (!(((rd_T38 l0_5 x6_3).f3) == ((rd_T38 l1_5 x6_3).f3)))))) = true
            ·rw [if_pos c51] at H
             have c51b0 : (!(((rd_T38 l0_5 x6_3).f0) == ((rd_T38 l1_5 x6_3).f0)) || (!(((rd_T38 l0_5 x6_3).f1) == ((rd_T38 l1_5 x6_3).f1)) || (!(((rd_T38 l0_5 x6_3).f2) == ((rd_T38 l1_5 x6_3).f2)) || (!(((rd_T38 l0_5 x6_3).f3) == ((rd_T38 l1_5 x6_3).f3)))))) = true := c51
             clear c51
             obtain rfl := Option.some.inj H
             have hnb52 := NB341_342.out
             have hnc52 := NB342_341.out
             have hcz53_0 : wr.cell? ⟨gb341, 0, none⟩ = some (.int .i64 a0_0) := (blk_cell BK341.out 0).trans rfl
             have hcz53_1 : wr.cell? ⟨gb341, 1, none⟩ = some (.int .i64 a0_1) := (blk_cell BK341.out 1).trans rfl
             have hcz53_2 : wr.cell? ⟨gb341, 2, none⟩ = some (.slice A0_2 l0_2.length c0_2) := (blk_cell BK341.out 2).trans rfl
             have hcz53_3 : wr.cell? ⟨gb341, 3, none⟩ = some (.slice A0_3 l0_3.length c0_3) := (blk_cell BK341.out 3).trans rfl
             have hcz53_4 : wr.cell? ⟨gb341, 4, none⟩ = some (.slice A0_4 l0_4.length c0_4) := (blk_cell BK341.out 4).trans rfl
             have hcz53_5 : wr.cell? ⟨gb341, 5, none⟩ = some (.slice A0_5 l0_5.length c0_5) := (blk_cell BK341.out 5).trans rfl
             have hcz53_6 : wr.cell? ⟨gb341, 6, none⟩ = some (.slice A0_6 l0_6.length c0_6) := (blk_cell BK341.out 6).trans rfl
             have hfz53_0 := blk_frozen BK341.out 0
             have hfz53_1 := blk_frozen BK341.out 1
             have hfz53_2 := blk_frozen BK341.out 2
             have hfz53_3 := blk_frozen BK341.out 3
             have hfz53_4 := blk_frozen BK341.out 4
             have hfz53_5 := blk_frozen BK341.out 5
             have hfz53_6 := blk_frozen BK341.out 6
             have p347 : 0 ≤ (x6_3 : Int) := of_decide_eq_true (by first | (with_reducible assumption) | assumption)
             have q347 : x6_3 < (l0_5.length : Int) := of_decide_eq_true (by first | (with_reducible assumption) | assumption)
             obtain ⟨ad347, e347, hx347_0, hx347_1, hx347_2, hx347_3⟩ := at_T38 HR0_5.out x6_3 p347 q347
             cases e347
             replace hx347_0 := (HB.out.cell (World.block_lt_of_cell? w _ hx347_0)).trans hx347_0
             replace hx347_1 := (HB.out.cell (World.block_lt_of_cell? w _ hx347_1)).trans hx347_1
             replace hx347_2 := (HB.out.cell (World.block_lt_of_cell? w _ hx347_2)).trans hx347_2
             replace hx347_3 := (HB.out.cell (World.block_lt_of_cell? w _ hx347_3)).trans hx347_3
             replace p347 := eq_true p347
             replace q347 := eq_true q347
             have hcz54_0 : wr.cell? ⟨gb342, 0, none⟩ = some (.int .i64 a1_0) := (blk_cell BK342.out 0).trans rfl
             have hcz54_1 : wr.cell? ⟨gb342, 1, none⟩ = some (.int .i64 a1_1) := (blk_cell BK342.out 1).trans rfl
             have hcz54_2 : wr.cell? ⟨gb342, 2, none⟩ = some (.slice A1_2 l1_2.length c1_2) := (blk_cell BK342.out 2).trans rfl
             have hcz54_3 : wr.cell? ⟨gb342, 3, none⟩ = some (.slice A1_3 l1_3.length c1_3) := (blk_cell BK342.out 3).trans rfl
             have hcz54_4 : wr.cell? ⟨gb342, 4, none⟩ = some (.slice A1_4 l1_4.length c1_4) := (blk_cell BK342.out 4).trans rfl
             have hcz54_5 : wr.cell? ⟨gb342, 5, none⟩ = some (.slice A1_5 l1_5.length c1_5) := (blk_cell BK342.out 5).trans rfl
             have hcz54_6 : wr.cell? ⟨gb342, 6, none⟩ = some (.slice A1_6 l1_6.length c1_6) := (blk_cell BK342.out 6).trans rfl
             have hfz54_0 := blk_frozen BK342.out 0
             have hfz54_1 := blk_frozen BK342.out 1
             have hfz54_2 := blk_frozen BK342.out 2
             have hfz54_3 := blk_frozen BK342.out 3
             have hfz54_4 := blk_frozen BK342.out 4
             have hfz54_5 := blk_frozen BK342.out 5
             have hfz54_6 := blk_frozen BK342.out 6
             have p348 : 0 ≤ (x6_3 : Int) := of_decide_eq_true (by first | (with_reducible assumption) | assumption)
             have q348 : x6_3 < (l1_5.length : Int) := of_decide_eq_true (by first | (with_reducible assumption) | assumption)
             obtain ⟨ad348, e348, hx348_0, hx348_1, hx348_2, hx348_3⟩ := at_T38 HR1_5.out x6_3 p348 q348
             cases e348
             replace hx348_0 := (HB.out.cell (World.block_lt_of_cell? w _ hx348_0)).trans hx348_0
             replace hx348_1 := (HB.out.cell (World.block_lt_of_cell? w _ hx348_1)).trans hx348_1
             replace hx348_2 := (HB.out.cell (World.block_lt_of_cell? w _ hx348_2)).trans hx348_2
             replace hx348_3 := (HB.out.cell (World.block_lt_of_cell? w _ hx348_3)).trans hx348_3
             replace p348 := eq_true p348
             replace q348 := eq_true q348
             go_wp2
             repeat (go_quiet (fail); try go_wp2)
             go_ret
             exact ⟨by first | rfl | (simp [errW_none, errW_some] <;> rfl) | (simp [*, errW_none, errW_some] <;> rfl), by repeat (first | (with_reducible first | exact HB.out | apply below_alloc | apply pw_below_drewN | apply below_drew1 | refine below_set ?_ GE341.out | refine below_set ?_ GE342.out) | exact HB.out)⟩
            ·rw [if_neg c51] at H
             have c51b0 : (!(((rd_T38 l0_5 x6_3).f0) == ((rd_T38 l1_5 x6_3).f0)) || (!(((rd_T38 l0_5 x6_3).f1) == ((rd_T38 l1_5 x6_3).f1)) || (!(((rd_T38 l0_5 x6_3).f2) == ((rd_T38 l1_5 x6_3).f2)) || (!(((rd_T38 l0_5 x6_3).f3) == ((rd_T38 l1_5 x6_3).f3)))))) = false := by simpa using c51
             clear c51
             have H' := Aside0.mk H
             clear H
             have hnb55 := NB341_342.out
             have hnc55 := NB342_341.out
             have hcz56_0 : wr.cell? ⟨gb341, 0, none⟩ = some (.int .i64 a0_0) := (blk_cell BK341.out 0).trans rfl
             have hcz56_1 : wr.cell? ⟨gb341, 1, none⟩ = some (.int .i64 a0_1) := (blk_cell BK341.out 1).trans rfl
             have hcz56_2 : wr.cell? ⟨gb341, 2, none⟩ = some (.slice A0_2 l0_2.length c0_2) := (blk_cell BK341.out 2).trans rfl
             have hcz56_3 : wr.cell? ⟨gb341, 3, none⟩ = some (.slice A0_3 l0_3.length c0_3) := (blk_cell BK341.out 3).trans rfl
             have hcz56_4 : wr.cell? ⟨gb341, 4, none⟩ = some (.slice A0_4 l0_4.length c0_4) := (blk_cell BK341.out 4).trans rfl
             have hcz56_5 : wr.cell? ⟨gb341, 5, none⟩ = some (.slice A0_5 l0_5.length c0_5) := (blk_cell BK341.out 5).trans rfl
             have hcz56_6 : wr.cell? ⟨gb341, 6, none⟩ = some (.slice A0_6 l0_6.length c0_6) := (blk_cell BK341.out 6).trans rfl
             have hfz56_0 := blk_frozen BK341.out 0
             have hfz56_1 := blk_frozen BK341.out 1
             have hfz56_2 := blk_frozen BK341.out 2
             have hfz56_3 := blk_frozen BK341.out 3
             have hfz56_4 := blk_frozen BK341.out 4
             have hfz56_5 := blk_frozen BK341.out 5
             have hfz56_6 := blk_frozen BK341.out 6
             have p347 : 0 ≤ (x6_3 : Int) := of_decide_eq_true (by first | (with_reducible assumption) | assumption)
             have q347 : x6_3 < (l0_5.length : Int) := of_decide_eq_true (by first | (with_reducible assumption) | assumption)
             obtain ⟨ad347, e347, hx347_0, hx347_1, hx347_2, hx347_3⟩ := at_T38 HR0_5.out x6_3 p347 q347
             cases e347
             replace hx347_0 := (HB.out.cell (World.block_lt_of_cell? w _ hx347_0)).trans hx347_0
             replace hx347_1 := (HB.out.cell (World.block_lt_of_cell? w _ hx347_1)).trans hx347_1
             replace hx347_2 := (HB.out.cell (World.block_lt_of_cell? w _ hx347_2)).trans hx347_2
             replace hx347_3 := (HB.out.cell (World.block_lt_of_cell? w _ hx347_3)).trans hx347_3
             replace p347 := eq_true p347
             replace q347 := eq_true q347
             have hcz57_0 : wr.cell? ⟨gb342, 0, none⟩ = some (.int .i64 a1_0) := (blk_cell BK342.out 0).trans rfl
             have hcz57_1 : wr.cell? ⟨gb342, 1, none⟩ = some (.int .i64 a1_1) := (blk_cell BK342.out 1).trans rfl
             have hcz57_2 : wr.cell? ⟨gb342, 2, none⟩ = some (.slice A1_2 l1_2.length c1_2) := (blk_cell BK342.out 2).trans rfl
             have hcz57_3 : wr.cell? ⟨gb342, 3, none⟩ = some (.slice A1_3 l1_3.length c1_3) := (blk_cell BK342.out 3).trans rfl
             have hcz57_4 : wr.cell? ⟨gb342, 4, none⟩ = some (.slice A1_4 l1_4.length c1_4) := (blk_cell BK342.out 4).trans rfl
             have hcz57_5 : wr.cell? ⟨gb342, 5, none⟩ = some (.slice A1_5 l1_5.length c1_5) := (blk_cell BK342.out 5).trans rfl
             have hcz57_6 : wr.cell? ⟨gb342, 6, none⟩ = some (.slice A1_6 l1_6.length c1_6) := (blk_cell BK342.out 6).trans rfl
             have hfz57_0 := blk_frozen BK342.out 0
             have hfz57_1 := blk_frozen BK342.out 1
             have hfz57_2 := blk_frozen BK342.out 2
             have hfz57_3 := blk_frozen BK342.out 3
             have hfz57_4 := blk_frozen BK342.out 4
             have hfz57_5 := blk_frozen BK342.out 5
             have hfz57_6 := blk_frozen BK342.out 6
             have p348 : 0 ≤ (x6_3 : Int) := of_decide_eq_true (by first | (with_reducible assumption) | assumption)
             have q348 : x6_3 < (l1_5.length : Int) := of_decide_eq_true (by first | (with_reducible assumption) | assumption)
             obtain ⟨ad348, e348, hx348_0, hx348_1, hx348_2, hx348_3⟩ := at_T38 HR1_5.out x6_3 p348 q348
             cases e348
             replace hx348_0 := (HB.out.cell (World.block_lt_of_cell? w _ hx348_0)).trans hx348_0
             replace hx348_1 := (HB.out.cell (World.block_lt_of_cell? w _ hx348_1)).trans hx348_1
             replace hx348_2 := (HB.out.cell (World.block_lt_of_cell? w _ hx348_2)).trans hx348_2
             replace hx348_3 := (HB.out.cell (World.block_lt_of_cell? w _ hx348_3)).trans hx348_3
             replace p348 := eq_true p348
             replace q348 := eq_true q348
             go_wp2
             repeat (go_quiet (fail); try go_wp2)
             go_roundg k3
             case measure => have := HJ2.out; have := HK2.out; have := HK3.out; omega
             case rel => exact ⟨(wrap64 (x6_3 + 1)), (by first | rfl | (simp; done) | (simp [*]; done)), H', ⟨by have := HJ2.out; have := HK2.out; have := HK3.out; omega⟩, ⟨by (with_reducible repeat (first | refine blk_drewN ?_ _ | refine blk_drew ?_ | refine blk_alloc ?_ _)); exact BK341.out⟩, ⟨by (with_reducible repeat (first | refine blk_drewN ?_ _ | refine blk_drew ?_ | refine blk_alloc ?_ _)); exact BK342.out⟩, ⟨by repeat (first | (with_reducible first | exact HB.out | apply below_alloc | apply pw_below_drewN | apply below_drew1 | refine below_set ?_ GE341.out | refine below_set ?_ GE342.out) | exact HB.out)⟩⟩
           ·rw [if_neg c50] at H
            exact absurd H (by simp)
          ·rw [if_neg c49] at H
           exact absurd H (by simp)
         ·rw [if_neg c48] at H
          have c48b0 : decide (x6_3 < (l0_5.length : Int)) = false := decide_eq_false c48
          clear c48
          have H' := Aside0.mk H
          clear H
          have hnb58 := NB341_342.out
          have hnc58 := NB342_341.out
          have hcz59_0 : wr.cell? ⟨gb341, 0, none⟩ = some (.int .i64 a0_0) := (blk_cell BK341.out 0).trans rfl
          have hcz59_1 : wr.cell? ⟨gb341, 1, none⟩ = some (.int .i64 a0_1) := (blk_cell BK341.out 1).trans rfl
          have hcz59_2 : wr.cell? ⟨gb341, 2, none⟩ = some (.slice A0_2 l0_2.length c0_2) := (blk_cell BK341.out 2).trans rfl
          have hcz59_3 : wr.cell? ⟨gb341, 3, none⟩ = some (.slice A0_3 l0_3.length c0_3) := (blk_cell BK341.out 3).trans rfl
          have hcz59_4 : wr.cell? ⟨gb341, 4, none⟩ = some (.slice A0_4 l0_4.length c0_4) := (blk_cell BK341.out 4).trans rfl
          have hcz59_5 : wr.cell? ⟨gb341, 5, none⟩ = some (.slice A0_5 l0_5.length c0_5) := (blk_cell BK341.out 5).trans rfl
          have hcz59_6 : wr.cell? ⟨gb341, 6, none⟩ = some (.slice A0_6 l0_6.length c0_6) := (blk_cell BK341.out 6).trans rfl
          have hfz59_0 := blk_frozen BK341.out 0
          have hfz59_1 := blk_frozen BK341.out 1
          have hfz59_2 := blk_frozen BK341.out 2
          have hfz59_3 := blk_frozen BK341.out 3
          have hfz59_4 := blk_frozen BK341.out 4
          have hfz59_5 := blk_frozen BK341.out 5
          have hfz59_6 := blk_frozen BK341.out 6
          go_wp2
          repeat (go_quiet (fail); try go_wp2)
          go_loopg [7] k3 (fun kq v7 w' => ∃ (x7_4 : Int), v7 = .int .i64 x7_4 ∧ Aside0 (canopyref3_Same.l2 kq x7_4 a0_0 a0_1 l0_2 l0_3 l0_4 l0_5 l0_6 a1_0 a1_1 l1_2 l1_3 l1_4 l1_5 l1_6 = some r) ∧ Aside0 (kq ≤ k3) ∧ Aside0 (w'.heap[gb341]? = some (.cells #[.int .i64 a0_0, .int .i64 a0_1, (.slice A0_2 l0_2.length c0_2), (.slice A0_3 l0_3.length c0_3), (.slice A0_4 l0_4.length c0_4), (.slice A0_5 l0_5.length c0_5), (.slice A0_6 l0_6.length c0_6)] 30 (0, 0))) ∧ Aside0 (w'.heap[gb342]? = some (.cells #[.int .i64 a1_0, .int .i64 a1_1, (.slice A1_2 l1_2.length c1_2), (.slice A1_3 l1_3.length c1_3), (.slice A1_4 l1_4.length c1_4), (.slice A1_5 l1_5.length c1_5), (.slice A1_6 l1_6.length c1_6)] 30 (0, 0))) ∧ Aside0 (Below w.heap.size w w'))
          case atStart => exact ⟨(0), (by first | rfl | (simp; done) | (simp [*]; done)), H', ⟨Nat.le_refl _⟩, ⟨by (with_reducible repeat (first | refine blk_drewN ?_ _ | refine blk_drew ?_ | refine blk_alloc ?_ _)); exact BK341.out⟩, ⟨by (with_reducible repeat (first | refine blk_drewN ?_ _ | refine blk_drew ?_ | refine blk_alloc ?_ _)); exact BK342.out⟩, ⟨by repeat (first | (with_reducible first | exact HB.out | apply below_alloc | apply pw_below_drewN | apply below_drew1 | refine below_set ?_ GE341.out | refine below_set ?_ GE342.out) | exact HB.out)⟩⟩
          case round =>
           clear H'
           try clear c1
           try clear c2
           try clear p2
           try clear c3
           try clear p3
           try clear q3
           try clear hx3
           try clear c4
           try clear c5
           try clear c6
           try clear c6b0
           try clear c6b1
           try clear p6
           try clear c7
           try clear c7b0
           try clear c7b1
           try clear c9
           try clear c11
           try clear c12
           try clear c12b0
           try clear c12b1
           try clear c12b2
           try clear c13
           try clear c13b0
           try clear c13b1
           try clear c13b2
           try clear c14
           try clear c17
           try clear c20
           try clear c23
           try clear c26
           try clear c29
           try clear c32
           try clear p34
           try clear q34
           try clear hx34
           try clear c35
           try clear c36
           try clear c36b0
           try clear c37
           try clear c37b0
           try clear c38
           try clear c38b0
           try clear c39
           try clear c39b0
           try clear c40
           try clear c43
           try clear c46
           try clear c48
           try clear c48b0
           try clear c49
           try clear c49b0
           try clear c50
           try clear c50b0
           try clear c51
           try clear c51b0
           try clear c52
           try clear c55
           try clear c58
           try clear hcz15_0
           try clear hcz15_1
           try clear hcz15_2
           try clear hcz15_3
           try clear hcz15_4
           try clear hcz15_5
           try clear hcz15_6
           try clear hcz16_0
           try clear hcz16_1
           try clear hcz16_2
           try clear hcz16_3
           try clear hcz16_4
           try clear hcz16_5
           try clear hcz16_6
           try clear hcz18_0
           try clear hcz18_1
           try clear hcz18_2
           try clear hcz18_3
           try clear hcz18_4
           try clear hcz18_5
           try clear hcz18_6
           try clear hcz19_0
           try clear hcz19_1
           try clear hcz19_2
           try clear hcz19_3
           try clear hcz19_4
           try clear hcz19_5
           try clear hcz19_6
           try clear hcz21_0
           try clear hcz21_1
           try clear hcz21_2
           try clear hcz21_3
           try clear hcz21_4
           try clear hcz21_5
           try clear hcz21_6
           try clear hcz22_0
           try clear hcz22_1
           try clear hcz22_2
           try clear hcz22_3
           try clear hcz22_4
           try clear hcz22_5
           try clear hcz22_6
           try clear hcz24_0
           try clear hcz24_1
           try clear hcz24_2
           try clear hcz24_3
           try clear hcz24_4
           try clear hcz24_5
           try clear hcz24_6
           try clear hcz25_0
           try clear hcz25_1
           try clear hcz25_2
           try clear hcz25_3
           try clear hcz25_4
           try clear hcz25_5
           try clear hcz25_6
           try clear hcz27_0
           try clear hcz27_1
           try clear hcz27_2
           try clear hcz27_3
           try clear hcz27_4
           try clear hcz27_5
           try clear hcz27_6
           try clear hcz28_0
           try clear hcz28_1
           try clear hcz28_2
           try clear hcz28_3
           try clear hcz28_4
           try clear hcz28_5
           try clear hcz28_6
           try clear hcz30_0
           try clear hcz30_1
           try clear hcz30_2
           try clear hcz30_3
           try clear hcz30_4
           try clear hcz30_5
           try clear hcz30_6
           try clear hcz31_0
           try clear hcz31_1
           try clear hcz31_2
           try clear hcz31_3
           try clear hcz31_4
           try clear hcz31_5
           try clear hcz31_6
           try clear hcz33_0
           try clear hcz33_1
           try clear hcz33_2
           try clear hcz33_3
           try clear hcz33_4
           try clear hcz33_5
           try clear hcz33_6
           try clear hcz34_0
           try clear hcz34_1
           try clear hcz34_2
           try clear hcz34_3
           try clear hcz34_4
           try clear hcz34_5
           try clear hcz34_6
           try clear hcz41_0
           try clear hcz41_1
           try clear hcz41_2
           try clear hcz41_3
           try clear hcz41_4
           try clear hcz41_5
           try clear hcz41_6
           try clear hcz42_0
           try clear hcz42_1
           try clear hcz42_2
           try clear hcz42_3
           try clear hcz42_4
           try clear hcz42_5
           try clear hcz42_6
           try clear hcz44_0
           try clear hcz44_1
           try clear hcz44_2
           try clear hcz44_3
           try clear hcz44_4
           try clear hcz44_5
           try clear hcz44_6
           try clear hcz45_0
           try clear hcz45_1
           try clear hcz45_2
           try clear hcz45_3
           try clear hcz45_4
           try clear hcz45_5
           try clear hcz45_6
           try clear hcz47_0
           try clear hcz47_1
           try clear hcz47_2
           try clear hcz47_3
           try clear hcz47_4
           try clear hcz47_5
           try clear hcz47_6
           try clear hcz53_0
           try clear hcz53_1
           try clear hcz53_2
           try clear hcz53_3
           try clear hcz53_4
           try clear hcz53_5
           try clear hcz53_6
           try clear hcz54_0
           try clear hcz54_1
           try clear hcz54_2
           try clear hcz54_3
           try clear hcz54_4
           try clear hcz54_5
           try clear hcz54_6
           try clear hcz56_0
           try clear hcz56_1
           try clear hcz56_2
           try clear hcz56_3
           try clear hcz56_4
           try clear hcz56_5
           try clear hcz56_6
           try clear hcz57_0
           try clear hcz57_1
           try clear hcz57_2
           try clear hcz57_3
           try clear hcz57_4
           try clear hcz57_5
           try clear hcz57_6
           try clear hcz59_0
           try clear hcz59_1
           try clear hcz59_2
           try clear hcz59_3
           try clear hcz59_4
           try clear hcz59_5
           try clear hcz59_6
           try clear hfz15_0
           try clear hfz15_1
           try clear hfz15_2
           try clear hfz15_3
           try clear hfz15_4
           try clear hfz15_5
           try clear hfz15_6
           try clear hfz16_0
           try clear hfz16_1
           try clear hfz16_2
           try clear hfz16_3
           try clear hfz16_4
           try clear hfz16_5
           try clear hfz16_6
           try clear hfz18_0
           try clear hfz18_1
           try clear hfz18_2
           try clear hfz18_3
           try clear hfz18_4
           try clear hfz18_5
           try clear hfz18_6
           try clear hfz19_0
           try clear hfz19_1
           try clear hfz19_2
           try clear hfz19_3
           try clear hfz19_4
           try clear hfz19_5
           try clear hfz19_6
           try clear hfz21_0
           try clear hfz21_1
           try clear hfz21_2
           try clear hfz21_3
           try clear hfz21_4
           try clear hfz21_5
           try clear hfz21_6
           try clear hfz22_0
           try clear hfz22_1
           try clear hfz22_2
           try clear hfz22_3
           try clear hfz22_4
           try clear hfz22_5
           try clear hfz22_6
           try clear hfz24_0
           try clear hfz24_1
           try clear hfz24_2
           try clear hfz24_3
           try clear hfz24_4
           try clear hfz24_5
           try clear hfz24_6
           try clear hfz25_0
           try clear hfz25_1
           try clear hfz25_2
           try clear hfz25_3
           try clear hfz25_4
           try clear hfz25_5
           try clear hfz25_6
           try clear hfz27_0
           try clear hfz27_1
           try clear hfz27_2
           try clear hfz27_3
           try clear hfz27_4
           try clear hfz27_5
           try clear hfz27_6
           try clear hfz28_0
           try clear hfz28_1
           try clear hfz28_2
           try clear hfz28_3
           try clear hfz28_4
           try clear hfz28_5
           try clear hfz28_6
           try clear hfz30_0
           try clear hfz30_1
           try clear hfz30_2
           try clear hfz30_3
           try clear hfz30_4
           try clear hfz30_5
           try clear hfz30_6
           try clear hfz31_0
           try clear hfz31_1
           try clear hfz31_2
           try clear hfz31_3
           try clear hfz31_4
           try clear hfz31_5
           try clear hfz31_6
           try clear hfz33_0
           try clear hfz33_1
           try clear hfz33_2
           try clear hfz33_3
           try clear hfz33_4
           try clear hfz33_5
           try clear hfz33_6
           try clear hfz34_0
           try clear hfz34_1
           try clear hfz34_2
           try clear hfz34_3
           try clear hfz34_4
           try clear hfz34_5
           try clear hfz34_6
           try clear hfz41_0
           try clear hfz41_1
           try clear hfz41_2
           try clear hfz41_3
           try clear hfz41_4
           try clear hfz41_5
           try clear hfz41_6
           try clear hfz42_0
           try clear hfz42_1
           try clear hfz42_2
           try clear hfz42_3
           try clear hfz42_4
           try clear hfz42_5
           try clear hfz42_6
           try clear hfz44_0
           try clear hfz44_1
           try clear hfz44_2
           try clear hfz44_3
           try clear hfz44_4
           try clear hfz44_5
           try clear hfz44_6
           try clear hfz45_0
           try clear hfz45_1
           try clear hfz45_2
           try clear hfz45_3
           try clear hfz45_4
           try clear hfz45_5
           try clear hfz45_6
           try clear hfz47_0
           try clear hfz47_1
           try clear hfz47_2
           try clear hfz47_3
           try clear hfz47_4
           try clear hfz47_5
           try clear hfz47_6
           try clear hfz53_0
           try clear hfz53_1
           try clear hfz53_2
           try clear hfz53_3
           try clear hfz53_4
           try clear hfz53_5
           try clear hfz53_6
           try clear hfz54_0
           try clear hfz54_1
           try clear hfz54_2
           try clear hfz54_3
           try clear hfz54_4
           try clear hfz54_5
           try clear hfz54_6
           try clear hfz56_0
           try clear hfz56_1
           try clear hfz56_2
           try clear hfz56_3
           try clear hfz56_4
           try clear hfz56_5
           try clear hfz56_6
           try clear hfz57_0
           try clear hfz57_1
           try clear hfz57_2
           try clear hfz57_3
           try clear hfz57_4
           try clear hfz57_5
           try clear hfz57_6
           try clear hfz59_0
           try clear hfz59_1
           try clear hfz59_2
           try clear hfz59_3
           try clear hfz59_4
           try clear hfz59_5
           try clear hfz59_6
           try clear hx345_0
           try clear hx345_1
           try clear hx345_2
           try clear hx345_3
           try clear hx346_0
           try clear hx346_1
           try clear hx346_2
           try clear hx346_3
           try clear hx347_0
           try clear hx347_1
           try clear hx347_2
           try clear hx347_3
           try clear hx348_0
           try clear hx348_1
           try clear hx348_2
           try clear hx348_3
           try clear p2
           try clear p3
           try clear p34
           try clear p345
           try clear p346
           try clear p347
           try clear p348
           try clear p6
           try clear q3
           try clear q34
           try clear q345
           try clear q346
           try clear q347
           try clear q348
           obtain ⟨x7_4, rfl, HA, HK4, BK341, BK342, HB⟩ := hrel
           cases gk with
           | zero => exact absurd HA.out (by simp [canopyref3_Same.l2])
           | succ k4 =>
            have H := HA.out
            clear HA
            simp only [canopyref3_Same.l2] at H
            by_cases c60 : x7_4 < (l0_6.length : Int)
            ·rw [if_pos c60] at H
             have c60b0 : decide (x7_4 < (l0_6.length : Int)) = true := decide_eq_true c60
             clear c60
             by_cases c61 : 0 ≤ x7_4
             ·rw [if_pos c61] at H
              have c61b0 : decide (0 ≤ x7_4) = true := decide_eq_true c61
              clear c61
              by_cases c62 : x7_4 < (l1_6.length : Int)
              ·rw [if_pos c62] at H
               have c62b0 : decide (x7_4 < (l1_6.length : Int)) = true := decide_eq_true c62
               clear c62
               by_cases c63 : (!(((rd_T40 l0_6 x7_4).f0) == ((rd_T40 l1_6 x7_4).f0)) || (!(((rd_T40 l0_6 x7_4).f1) == ((rd_T40 l1_6 x7_4).f1)) || (!(((rd_T40 l0_6 x7_4).f2) == ((rd_T40 l1_6 x7_4).f2))))) = true
               ·rw [if_pos c63] at H
                have c63b0 : (!(((rd_T40 l0_6 x7_4).f0) == ((rd_T40 l1_6 x7_4).f0)) || (!(((rd_T40 l0_6 x7_4).f1) == ((rd_T40 l1_6 x7_4).f1)) || (!(((rd_T40 l0_6 x7_4).f2) == ((rd_T40 l1_6 x7_4).f2))))) = true := c63
                clear c63
                obtain rfl := Option.some.inj H
                have hnb64 := NB341_342.out
                have hnc64 := NB342_341.out
                have hcz65_0 : wr.cell? ⟨gb341, 0, none⟩ = some (.int .i64 a0_0) := (blk_cell BK341.out 0).trans rfl
                have hcz65_1 : wr.cell? ⟨gb341, 1, none⟩ = some (.int .i64 a0_1) := (blk_cell BK341.out 1).trans rfl
                have hcz65_2 : wr.cell? ⟨gb341, 2, none⟩ = some (.slice A0_2 l0_2.length c0_2) := (blk_cell BK341.out 2).trans rfl
                have hcz65_3 : wr.cell? ⟨gb341, 3, none⟩ = some (.slice A0_3 l0_3.length c0_3) := (blk_cell BK341.out 3).trans rfl
                have hcz65_4 : wr.cell? ⟨gb341, 4, none⟩ = some (.slice A0_4 l0_4.length c0_4) := (blk_cell BK341.out 4).trans rfl
                have hcz65_5 : wr.cell? ⟨gb341, 5, none⟩ = some (.slice A0_5 l0_5.length c0_5) := (blk_cell BK341.out 5).trans rfl
                have hcz65_6 : wr.cell? ⟨gb341, 6, none⟩ = some (.slice A0_6 l0_6.length c0_6) := (blk_cell BK341.out 6).trans rfl
                have hfz65_0 := blk_frozen BK341.out 0
                have hfz65_1 := blk_frozen BK341.out 1
                have hfz65_2 := blk_frozen BK341.out 2
                have hfz65_3 := blk_frozen BK341.out 3
                have hfz65_4 := blk_frozen BK341.out 4
                have hfz65_5 := blk_frozen BK341.out 5
                have hfz65_6 := blk_frozen BK341.out 6
                have p349 : 0 ≤ (x7_4 : Int) := of_decide_eq_true (by first | (with_reducible assumption) | assumption)
                have q349 : x7_4 < (l0_6.length : Int) := of_decide_eq_true (by first | (with_reducible assumption) | assumption)
                obtain ⟨ad349, e349, hx349_0, hx349_1, hx349_2⟩ := at_T40 HR0_6.out x7_4 p349 q349
                cases e349
                replace hx349_0 := (HB.out.cell (World.block_lt_of_cell? w _ hx349_0)).trans hx349_0
                replace hx349_1 := (HB.out.cell (World.block_lt_of_cell? w _ hx349_1)).trans hx349_1
                replace hx349_2 := (HB.out.cell (World.block_lt_of_cell? w _ hx349_2)).trans hx349_2
                replace p349 := eq_true p349
                replace q349 := eq_true q349
                have hcz66_0 : wr.cell? ⟨gb342, 0, none⟩ = some (.int .i64 a1_0) := (blk_cell BK342.out 0).trans rfl
                have hcz66_1 : wr.cell? ⟨gb342, 1, none⟩ = some (.int .i64 a1_1) := (blk_cell BK342.out 1).trans rfl
                have hcz66_2 : wr.cell? ⟨gb342, 2, none⟩ = some (.slice A1_2 l1_2.length c1_2) := (blk_cell BK342.out 2).trans rfl
                have hcz66_3 : wr.cell? ⟨gb342, 3, none⟩ = some (.slice A1_3 l1_3.length c1_3) := (blk_cell BK342.out 3).trans rfl
                have hcz66_4 : wr.cell? ⟨gb342, 4, none⟩ = some (.slice A1_4 l1_4.length c1_4) := (blk_cell BK342.out 4).trans rfl
                have hcz66_5 : wr.cell? ⟨gb342, 5, none⟩ = some (.slice A1_5 l1_5.length c1_5) := (blk_cell BK342.out 5).trans rfl
                have hcz66_6 : wr.cell? ⟨gb342, 6, none⟩ = some (.slice A1_6 l1_6.length c1_6) := (blk_cell BK342.out 6).trans rfl
                have hfz66_0 := blk_frozen BK342.out 0
                have hfz66_1 := blk_frozen BK342.out 1
                have hfz66_2 := blk_frozen BK342.out 2
                have hfz66_3 := blk_frozen BK342.out 3
                have hfz66_4 := blk_frozen BK342.out 4
                have hfz66_5 := blk_frozen BK342.out 5
                have hfz66_6 := blk_frozen BK342.out 6
                have p350 : 0 ≤ (x7_4 : Int) := of_decide_eq_true (by first | (with_reducible assumption) | assumption)
                have q350 : x7_4 < (l1_6.length : Int) := of_decide_eq_true (by first | (with_reducible assumption) | assumption)
                obtain ⟨ad350, e350, hx350_0, hx350_1, hx350_2⟩ := at_T40 HR1_6.out x7_4 p350 q350
                cases e350
                replace hx350_0 := (HB.out.cell (World.block_lt_of_cell? w _ hx350_0)).trans hx350_0
                replace hx350_1 := (HB.out.cell (World.block_lt_of_cell? w _ hx350_1)).trans hx350_1
                replace hx350_2 := (HB.out.cell (World.block_lt_of_cell? w _ hx350_2)).trans hx350_2
                replace p350 := eq_true p350
                replace q350 := eq_true q350
                go_wp2
                repeat (go_quiet (fail); try go_wp2)
                go_ret
                exact ⟨by first | rfl | (simp [errW_none, errW_some] <;> rfl) | (simp [*, errW_none, errW_some] <;> rfl), by repeat (first | (with_reducible first | exact HB.out | apply below_alloc | apply pw_below_drewN | apply below_drew1 | refine below_set ?_ GE341.out | refine below_set ?_ GE342.out) | exact HB.out)⟩
               ·rw [if_neg c63] at H
                have c63b0 : (!(((rd_T40 l0_6 x7_4).f0) == ((rd_T40 l1_6 x7_4).f0)) || (!(((rd_T40 l0_6 x7_4).f1) == ((rd_T40 l1_6 x7_4).f1)) || (!(((rd_T40 l0_6 x7_4).f2) == ((rd_T40 l1_6 x7_4).f2))))) = false := by simpa using c63
                clear c63
                have H' := Aside0.mk H
                clear H
                have hnb67 := NB341_342.out
                have hnc67 := NB342_341.out
                have hcz68_0 : wr.cell? ⟨gb341, 0, none⟩ = some (.int .i64 a0_0) := (blk_cell BK341.out 0).trans rfl
                have hcz68_1 : wr.cell? ⟨gb341, 1, none⟩ = some (.int .i64 a0_1) := (blk_cell BK341.out 1).trans rfl
                have hcz68_2 : wr.cell? ⟨gb341, 2, none⟩ = some (.slice A0_2 l0_2.length c0_2) := (blk_cell BK341.out 2).trans rfl
                have hcz68_3 : wr.cell? ⟨gb341, 3, none⟩ = some (.slice A0_3 l0_3.length c0_3) := (blk_cell BK341.out 3).trans rfl
                have hcz68_4 : wr.cell? ⟨gb341, 4, none⟩ = some (.slice A0_4 l0_4.length c0_4) := (blk_cell BK341.out 4).trans rfl
                have hcz68_5 : wr.cell? ⟨gb341, 5, none⟩ = some (.slice A0_5 l0_5.length c0_5) := (blk_cell BK341.out 5).trans rfl
                have hcz68_6 : wr.cell? ⟨gb341, 6, none⟩ = some (.slice A0_6 l0_6.length c0_6) := (blk_cell BK341.out 6).trans rfl
                have hfz68_0 := blk_frozen BK341.out 0
                have hfz68_1 := blk_frozen BK341.out 1
                have hfz68_2 := blk_frozen BK341.out 2
                have hfz68_3 := blk_frozen BK341.out 3
                have hfz68_4 := blk_frozen BK341.out 4
                have hfz68_5 := blk_frozen BK341.out 5
                have hfz68_6 := blk_frozen BK341.out 6
                have p349 : 0 ≤ (x7_4 : Int) := of_decide_eq_true (by first | (with_reducible assumption) | assumption)
                have q349 : x7_4 < (l0_6.length : Int) := of_decide_eq_true (by first | (with_reducible assumption) | assumption)
                obtain ⟨ad349, e349, hx349_0, hx349_1, hx349_2⟩ := at_T40 HR0_6.out x7_4 p349 q349
                cases e349
                replace hx349_0 := (HB.out.cell (World.block_lt_of_cell? w _ hx349_0)).trans hx349_0
                replace hx349_1 := (HB.out.cell (World.block_lt_of_cell? w _ hx349_1)).trans hx349_1
                replace hx349_2 := (HB.out.cell (World.block_lt_of_cell? w _ hx349_2)).trans hx349_2
                replace p349 := eq_true p349
                replace q349 := eq_true q349
                have hcz69_0 : wr.cell? ⟨gb342, 0, none⟩ = some (.int .i64 a1_0) := (blk_cell BK342.out 0).trans rfl
                have hcz69_1 : wr.cell? ⟨gb342, 1, none⟩ = some (.int .i64 a1_1) := (blk_cell BK342.out 1).trans rfl
                have hcz69_2 : wr.cell? ⟨gb342, 2, none⟩ = some (.slice A1_2 l1_2.length c1_2) := (blk_cell BK342.out 2).trans rfl
                have hcz69_3 : wr.cell? ⟨gb342, 3, none⟩ = some (.slice A1_3 l1_3.length c1_3) := (blk_cell BK342.out 3).trans rfl
                have hcz69_4 : wr.cell? ⟨gb342, 4, none⟩ = some (.slice A1_4 l1_4.length c1_4) := (blk_cell BK342.out 4).trans rfl
                have hcz69_5 : wr.cell? ⟨gb342, 5, none⟩ = some (.slice A1_5 l1_5.length c1_5) := (blk_cell BK342.out 5).trans rfl
                have hcz69_6 : wr.cell? ⟨gb342, 6, none⟩ = some (.slice A1_6 l1_6.length c1_6) := (blk_cell BK342.out 6).trans rfl
                have hfz69_0 := blk_frozen BK342.out 0
                have hfz69_1 := blk_frozen BK342.out 1
                have hfz69_2 := blk_frozen BK342.out 2
                have hfz69_3 := blk_frozen BK342.out 3
                have hfz69_4 := blk_frozen BK342.out 4
                have hfz69_5 := blk_frozen BK342.out 5
                have hfz69_6 := blk_frozen BK342.out 6
                have p350 : 0 ≤ (x7_4 : Int) := of_decide_eq_true (by first | (with_reducible assumption) | assumption)
                have q350 : x7_4 < (l1_6.length : Int) := of_decide_eq_true (by first | (with_reducible assumption) | assumption)
                obtain ⟨ad350, e350, hx350_0, hx350_1, hx350_2⟩ := at_T40 HR1_6.out x7_4 p350 q350
                cases e350
                replace hx350_0 := (HB.out.cell (World.block_lt_of_cell? w _ hx350_0)).trans hx350_0
                replace hx350_1 := (HB.out.cell (World.block_lt_of_cell? w _ hx350_1)).trans hx350_1
                replace hx350_2 := (HB.out.cell (World.block_lt_of_cell? w _ hx350_2)).trans hx350_2
                replace p350 := eq_true p350
                replace q350 := eq_true q350
                go_wp2
                repeat (go_quiet (fail); try go_wp2)
                go_roundg k4
                case measure => have := HJ2.out; have := HK2.out; have := HK3.out; have := HK4.out; omega
                case rel => exact ⟨(wrap64 (x7_4 + 1)), (by first | rfl | (simp; done) | (simp [*]; done)), H', ⟨by have := HJ2.out; have := HK2.out; have := HK3.out; have := HK4.out; omega⟩, ⟨by (with_reducible repeat (first | refine blk_drewN ?_ _ | refine blk_drew ?_ | refine blk_alloc ?_ _)); exact BK341.out⟩, ⟨by (with_reducible repeat (first | refine blk_drewN ?_ _ | refine blk_drew ?_ | refine blk_alloc ?_ _)); exact BK342.out⟩, ⟨by repeat (first | (with_reducible first | exact HB.out | apply below_alloc | apply pw_below_drewN | apply below_drew1 | refine below_set ?_ GE341.out | refine below_set ?_ GE342.out) | exact HB.out)⟩⟩
              ·rw [if_neg c62] at H
               exact absurd H (by simp)
             ·rw [if_neg c61] at H
              exact absurd H (by simp)
            ·rw [if_neg c60] at H
             have c60b0 : decide (x7_4 < (l0_6.length : Int)) = false := decide_eq_false c60
             clear c60
             obtain rfl := Option.some.inj H
             have hnb70 := NB341_342.out
             have hnc70 := NB342_341.out
             have hcz71_0 : wr.cell? ⟨gb341, 0, none⟩ = some (.int .i64 a0_0) := (blk_cell BK341.out 0).trans rfl
             have hcz71_1 : wr.cell? ⟨gb341, 1, none⟩ = some (.int .i64 a0_1) := (blk_cell BK341.out 1).trans rfl
             have hcz71_2 : wr.cell? ⟨gb341, 2, none⟩ = some (.slice A0_2 l0_2.length c0_2) := (blk_cell BK341.out 2).trans rfl
             have hcz71_3 : wr.cell? ⟨gb341, 3, none⟩ = some (.slice A0_3 l0_3.length c0_3) := (blk_cell BK341.out 3).trans rfl
             have hcz71_4 : wr.cell? ⟨gb341, 4, none⟩ = some (.slice A0_4 l0_4.length c0_4) := (blk_cell BK341.out 4).trans rfl
             have hcz71_5 : wr.cell? ⟨gb341, 5, none⟩ = some (.slice A0_5 l0_5.length c0_5) := (blk_cell BK341.out 5).trans rfl
             have hcz71_6 : wr.cell? ⟨gb341, 6, none⟩ = some (.slice A0_6 l0_6.length c0_6) := (blk_cell BK341.out 6).trans rfl
             have hfz71_0 := blk_frozen BK341.out 0
             have hfz71_1 := blk_frozen BK341.out 1
             have hfz71_2 := blk_frozen BK341.out 2
             have hfz71_3 := blk_frozen BK341.out 3
             have hfz71_4 := blk_frozen BK341.out 4
             have hfz71_5 := blk_frozen BK341.out 5
             have hfz71_6 := blk_frozen BK341.out 6
             go_wp2
             repeat (go_quiet (fail); try go_wp2)
             go_ret
             exact ⟨by first | rfl | (simp [errW_none, errW_some] <;> rfl) | (simp [*, errW_none, errW_some] <;> rfl), by repeat (first | (with_reducible first | exact HB.out | apply below_alloc | apply pw_below_drewN | apply below_drew1 | refine below_set ?_ GE341.out | refine below_set ?_ GE342.out) | exact HB.out)⟩
end Go.Proofs.YtejpijgfpbcibaaGreat.P
