/- Words and walks of this claim: LBounds. -/
import Derived.Test.YtejpijgfpbcibaaGreatQSKnown3
import Derived.Test.YtejpijgfpbcibaaGreatQP0Etc
set_option linter.unusedVariables false
set_option linter.unusedSimpArgs false
set_option linter.unnecessarySimpa false
namespace Go.Proofs.YtejpijgfpbcibaaGreat.P
open Go.RowKit Go.Sort Go.Shelf Go.Proofs.YtejpijgfpbcibaaGreatW.PrintWords Go.Proofs.YtejpijgfpbcibaaGreatW.PrintLast Go.Proofs.YtejpijgfpbcibaaGreatW.PrintMore Go.Proofs.YtejpijgfpbcibaaGreat.M
theorem within5 (a : Int) : ∃ t : Int, canopylaw3_within.f a 5 = some t ∧ (t = 0 ∨ t = 1 ∨ t = 2 ∨ t = 3 ∨ t = 4) := by
 unfold canopylaw3_within.f
 rw [if_neg (by decide)]
 have h1 := Int.tmod_lt_of_pos a (show (0 : Int) < 5 by decide)
 have h2 := Int.lt_tmod_of_pos a (show (0 : Int) < 5 by decide)
 split
 ·refine ⟨_, rfl, ?_⟩
  unfold wrap64
  omega
 ·exact ⟨_, rfl, by omega⟩
theorem bounds1 {t : Int} (h : t = 0 ∨ t = 1 ∨ t = 2 ∨ t = 3 ∨ t = 4) : ∃ c, auto_Check.f S7 (wrap64 (198 + t)) 1 [wrap64 (wrap64 (198 + t) - 1)] [] [] [] [] = some c ∧ ((c == 0) == decide (wrap64 (198 + t) ≤ 200)) = true := by
 rcases h with rfl | rfl | rfl | rfl | rfl
 ·exact ⟨0, by kernel_rfl, by kernel_rfl⟩
 ·exact ⟨0, by kernel_rfl, by kernel_rfl⟩
 ·exact ⟨0, by kernel_rfl, by kernel_rfl⟩
 ·exact ⟨9, by kernel_rfl, by kernel_rfl⟩
 ·exact ⟨9, by kernel_rfl, by kernel_rfl⟩
theorem bounds2 {t : Int} (h : t = 0 ∨ t = 1 ∨ t = 2 ∨ t = 3 ∨ t = 4) : ∃ c, auto_Check.f S7 1 (wrap64 (9998 + t)) [] [] [⟨0, 0, 0, wrap64 (9998 + t)⟩] [] [] = some c ∧ ((c == 0) == decide (wrap64 (9998 + t) ≤ 10000)) = true := by
 rcases h with rfl | rfl | rfl | rfl | rfl
 ·exact ⟨0, by kernel_rfl, by kernel_rfl⟩
 ·exact ⟨0, by kernel_rfl, by kernel_rfl⟩
 ·exact ⟨0, by kernel_rfl, by kernel_rfl⟩
 ·exact ⟨9, by kernel_rfl, by kernel_rfl⟩
 ·exact ⟨9, by kernel_rfl, by kernel_rfl⟩
theorem bounds3 : auto_Check.f S7 (-1) 0 [] [] [] [] [] = some 9 := by kernel_rfl
theorem bounds4 : auto_Check.f S7 0 (-1) [] [] [] [] [] = some 9 := by kernel_rfl
set_option maxHeartbeats 8000000 in
set_option maxRecDepth 100000 in
theorem bounds_walk (a0 a1 : Int) (w : World) :
 Calls Tryz.prog 9 #[.int .i64 a0, .int .i64 a1] w fun e w' => e = .returned (.bool true) ∧ Below w.heap.size w w' := by
 obtain ⟨t, ht, h0⟩ := within5 a0
 obtain ⟨u, hu, h1⟩ := within5 a1
 obtain ⟨c1, hc1, e1⟩ := bounds1 h0
 obtain ⟨c2, hc2, e2⟩ := bounds2 h1
 have HT := Aside0.mk (And.intro ht (And.intro hu (And.intro hc1 (And.intro hc2 (And.intro e1 e2)))))
 clear ht hu hc1 hc2 e1 e2 h0 h1
 go_enter Tryz.func9, Tryz.ntmps9
 go_wp2_with fail
 refine (canopylaw3_known.calls true _ rfl).mono ?_
 rintro e w1 ⟨rfl, hb1⟩
 have HB1 := Aside0.mk hb1
 clear hb1
 go_wp2_with fail
 refine (canopylaw1_Syms.calls 0 none 0 [] S7 _ (none_row _ _) (Nat.le_refl _) syms_none).mono ?_
 rintro e w2 ⟨v1, rfl, hr1, hb2⟩
 obtain ⟨AS, cS, eS, lS, gS⟩ := Kd.R_reads hr1
 replace eS : v1 = .slice AS 3 cS := eS
 subst eS
 have HS := Aside0.mk gS
 have LS : Aside0 (3 ≤ cS) := ⟨lS⟩
 have HB2 := Aside0.mk (below_then HB1.out HB1.out.size hb2)
 clear hr1 hb2 gS lS HB1
 go_wp2_with fail
 refine (canopylaw3_within.calls a0 5 t _ HT.out.1).mono ?_
 rintro e w3 ⟨rfl, hd3⟩
 have HB3 := Aside0.mk (below_then HB2.out HB2.out.size hd3.below)
 have HS3 := Aside0.mk (Kd.C_below HS.out hd3.below)
 clear hd3 HB2 HS
 go_wp2_with fail
 refine (canopylaw3_within.calls a1 5 u _ HT.out.2.1).mono ?_
 rintro e w4 ⟨rfl, hd4⟩
 have HB4 := Aside0.mk (below_then HB3.out HB3.out.size hd4.below)
 have HS4 := Aside0.mk (Kd.C_below HS3.out hd4.below)
 clear hd4 HB3 HS3
 obtain ⟨p, hp⟩ : ∃ p : Int, p = wrap64 (198 + t) := ⟨_, rfl⟩
 obtain ⟨q, hq⟩ : ∃ q : Int, q = wrap64 (9998 + u) := ⟨_, rfl⟩
 rw [← hp, ← hq] at HT
 have HPQ := Aside0.mk (And.intro hp hq)
 go_upto_region 5 with (fail)
 rw [← hp, ← hq]
 clear hp hq
 go_upto_region 6 with (fail)
 have HBx : Aside0 (Below w.heap.size w ((((w4.alloc (.cells #[.int .i64 (wrap64 (p - 1))] 3)).alloc (.cells #[.int .i64 0, .int .i64 0, .int .i64 0, .int .i64 q] 36)).alloc (.cells #[.int .i64 p, .int .i64 1, .slice (some ⟨w4.heap.size, 0, none⟩) 1 1, .slice none 0 0, .slice none 0 0, .slice none 0 0, .slice none 0 0] 30)).alloc (.cells #[.int .i64 1, .int .i64 q, .slice none 0 0, .slice none 0 0, .slice (some ⟨w4.heap.size + 1, 0, none⟩) 1 1, .slice none 0 0, .slice none 0 0] 30))) := ⟨by repeat (first | exact HB4.out | apply below_alloc)⟩
 have HSx : Aside0 (Kd.C k51 ((((w4.alloc (.cells #[.int .i64 (wrap64 (p - 1))] 3)).alloc (.cells #[.int .i64 0, .int .i64 0, .int .i64 0, .int .i64 q] 36)).alloc (.cells #[.int .i64 p, .int .i64 1, .slice (some ⟨w4.heap.size, 0, none⟩) 1 1, .slice none 0 0, .slice none 0 0, .slice none 0 0, .slice none 0 0] 30)).alloc (.cells #[.int .i64 1, .int .i64 q, .slice none 0 0, .slice none 0 0, .slice (some ⟨w4.heap.size + 1, 0, none⟩) 1 1, .slice none 0 0, .slice none 0 0] 30)) AS 3 S7) := ⟨Kd.C_below HS4.out (by repeat (first | exact Below.refl _ _ | apply below_alloc))⟩
 have HX1 : Aside0 (Kd.C (Kd.int .i64) ((((w4.alloc (.cells #[.int .i64 (wrap64 (p - 1))] 3)).alloc (.cells #[.int .i64 0, .int .i64 0, .int .i64 0, .int .i64 q] 36)).alloc (.cells #[.int .i64 p, .int .i64 1, .slice (some ⟨w4.heap.size, 0, none⟩) 1 1, .slice none 0 0, .slice none 0 0, .slice none 0 0, .slice none 0 0] 30)).alloc (.cells #[.int .i64 1, .int .i64 q, .slice none 0 0, .slice none 0 0, .slice (some ⟨w4.heap.size + 1, 0, none⟩) 1 1, .slice none 0 0, .slice none 0 0] 30)) (some ⟨w4.heap.size, 0, none⟩) 1 [wrap64 (p - 1)]) := ⟨reads_laid (t := 3) (fun x => [Value.int .i64 x]) [wrap64 (p - 1)] (fun _ _ => rfl) (by simp) (blk_old (blk_old (blk_old (blk_newAt (w := w4) (n := w4.heap.size) _ rfl) _) _) _)⟩
 have HX2 : Aside0 (Kd.C k36 ((((w4.alloc (.cells #[.int .i64 (wrap64 (p - 1))] 3)).alloc (.cells #[.int .i64 0, .int .i64 0, .int .i64 0, .int .i64 q] 36)).alloc (.cells #[.int .i64 p, .int .i64 1, .slice (some ⟨w4.heap.size, 0, none⟩) 1 1, .slice none 0 0, .slice none 0 0, .slice none 0 0, .slice none 0 0] 30)).alloc (.cells #[.int .i64 1, .int .i64 q, .slice none 0 0, .slice none 0 0, .slice (some ⟨w4.heap.size + 1, 0, none⟩) 1 1, .slice none 0 0, .slice none 0 0] 30)) (some ⟨w4.heap.size + 1, 0, none⟩) 1 [⟨0, 0, 0, q⟩]) := ⟨reads_laid (t := 36) (fun x : TOpen => [Value.int .i64 x.f0, .int .i64 x.f1, .int .i64 x.f2, .int .i64 x.f3]) [⟨0, 0, 0, q⟩] (fun w x => k36_mk w x) (by simp) (blk_old (blk_old (blk_newAt _ (by simp only [size_alloc])) _) _)⟩
 have HY1 : Aside0 (((((w4.alloc (.cells #[.int .i64 (wrap64 (p - 1))] 3)).alloc (.cells #[.int .i64 0, .int .i64 0, .int .i64 0, .int .i64 q] 36)).alloc (.cells #[.int .i64 p, .int .i64 1, .slice (some ⟨w4.heap.size, 0, none⟩) 1 1, .slice none 0 0, .slice none 0 0, .slice none 0 0, .slice none 0 0] 30)).alloc (.cells #[.int .i64 1, .int .i64 q, .slice none 0 0, .slice none 0 0, .slice (some ⟨w4.heap.size + 1, 0, none⟩) 1 1, .slice none 0 0, .slice none 0 0] 30)).heap[w4.heap.size + 1 + 1]? = some (.cells #[.int .i64 p, .int .i64 1, .slice (some ⟨w4.heap.size, 0, none⟩) 1 1, .slice none 0 0, .slice none 0 0, .slice none 0 0, .slice none 0 0] 30 (0, 0))) := ⟨blk_old (blk_newAt _ (by simp only [size_alloc])) _⟩
 have HY2 : Aside0 (((((w4.alloc (.cells #[.int .i64 (wrap64 (p - 1))] 3)).alloc (.cells #[.int .i64 0, .int .i64 0, .int .i64 0, .int .i64 q] 36)).alloc (.cells #[.int .i64 p, .int .i64 1, .slice (some ⟨w4.heap.size, 0, none⟩) 1 1, .slice none 0 0, .slice none 0 0, .slice none 0 0, .slice none 0 0] 30)).alloc (.cells #[.int .i64 1, .int .i64 q, .slice none 0 0, .slice none 0 0, .slice (some ⟨w4.heap.size + 1, 0, none⟩) 1 1, .slice none 0 0, .slice none 0 0] 30)).heap[w4.heap.size + 1 + 1 + 1]? = some (.cells #[.int .i64 1, .int .i64 q, .slice none 0 0, .slice none 0 0, .slice (some ⟨w4.heap.size + 1, 0, none⟩) 1 1, .slice none 0 0, .slice none 0 0] 30 (0, 0))) := ⟨blk_newAt _ (by simp only [size_alloc])⟩
 generalize ((((w4.alloc (.cells #[.int .i64 (wrap64 (p - 1))] 3)).alloc (.cells #[.int .i64 0, .int .i64 0, .int .i64 0, .int .i64 q] 36)).alloc (.cells #[.int .i64 p, .int .i64 1, .slice (some ⟨w4.heap.size, 0, none⟩) 1 1, .slice none 0 0, .slice none 0 0, .slice none 0 0, .slice none 0 0] 30)).alloc (.cells #[.int .i64 1, .int .i64 q, .slice none 0 0, .slice none 0 0, .slice (some ⟨w4.heap.size + 1, 0, none⟩) 1 1, .slice none 0 0, .slice none 0 0] 30)) = wq at HBx HSx HX1 HX2 HY1 HY2 ⊢
 obtain ⟨p0, hp0⟩ : ∃ x, x = w4.heap.size := ⟨_, rfl⟩
 obtain ⟨p1, hp1⟩ : ∃ x, x = w4.heap.size + 1 := ⟨_, rfl⟩
 obtain ⟨p2, hp2⟩ : ∃ x, x = w4.heap.size + 1 + 1 := ⟨_, rfl⟩
 obtain ⟨p3, hp3⟩ : ∃ x, x = w4.heap.size + 1 + 1 + 1 := ⟨_, rfl⟩
 rw [← hp3, ← hp2, ← hp1, ← hp0]
 rw [← hp3, ← hp1] at HY2
 rw [← hp2, ← hp0] at HY1
 rw [← hp1] at HX2
 rw [← hp0] at HX1
 clear hp0 hp1 hp2 hp3 HB4 HS4
 obtain ⟨a0, a1, a2, a3, a4, a5, a6, _⟩ := auto_cells HY1.out
 go_wp2_with fail
 refine (auto_Check.calls AS cS S7 p 1 (some ⟨p0, 0, none⟩) 1 [wrap64 (p - 1)] none 0 [] none 0 [] none 0 [] none 0 [] c1 _ HSx.out LS.out HX1.out (Nat.le_refl _) (none_row _ _) (Nat.le_refl _) (none_row _ _) (Nat.le_refl _) (none_row _ _) (Nat.le_refl _) (none_row _ _) (Nat.le_refl _) HT.out.2.2.1).mono ?_
 rintro e w5 ⟨rfl, hb5⟩
 have HB5 := Aside0.mk (below_then HBx.out HBx.out.size hb5)
 have HS5 := Aside0.mk (Kd.C_below HSx.out hb5)
 have HX5 := Aside0.mk (Kd.C_below HX2.out hb5)
 have HY5 := Aside0.mk (blk_below HY2.out hb5)
 have t1 : ((c1 == 0) == decide (p ≤ 200)) = true := HT.out.2.2.2.2.1
 clear hb5 a0 a1 a2 a3 a4 a5 a6 HBx HSx HX1 HX2 HY1 HY2
 obtain ⟨b0, b1, b2, b3, b4, b5, b6, _⟩ := auto_cells HY5.out
 go_wp2_with fail
 refine (auto_Check.calls AS cS S7 1 q none 0 [] none 0 [] (some ⟨p1, 0, none⟩) 1 [⟨0, 0, 0, q⟩] none 0 [] none 0 [] c2 _ HS5.out LS.out (none_row _ _) (Nat.le_refl _) (none_row _ _) (Nat.le_refl _) HX5.out (Nat.le_refl _) (none_row _ _) (Nat.le_refl _) (none_row _ _) (Nat.le_refl _) HT.out.2.2.2.1).mono ?_
 rintro e w6 ⟨rfl, hb6⟩
 have HB6 := Aside0.mk (below_then HB5.out HB5.out.size hb6)
 have HS6 := Aside0.mk (Kd.C_below HS5.out hb6)
 have t2 : ((c2 == 0) == decide (q ≤ 10000)) = true := HT.out.2.2.2.2.2
 clear hb6 b0 b1 b2 b3 b4 b5 b6 HB5 HS5 HX5 HY5
 go_wp2_with fail
 refine (auto_Check.calls AS cS S7 (-1) 0 none 0 [] none 0 [] none 0 [] none 0 [] none 0 [] 9 _ HS6.out LS.out (none_row _ _) (Nat.le_refl _) (none_row _ _) (Nat.le_refl _) (none_row _ _) (Nat.le_refl _) (none_row _ _) (Nat.le_refl _) (none_row _ _) (Nat.le_refl _) bounds3).mono ?_
 rintro e w7 ⟨rfl, hb7⟩
 have HB7 := Aside0.mk (below_then HB6.out HB6.out.size hb7)
 have HS7 := Aside0.mk (Kd.C_below HS6.out hb7)
 clear hb7 HB6 HS6
 go_wp2_with fail
 refine (auto_Check.calls AS cS S7 0 (-1) none 0 [] none 0 [] none 0 [] none 0 [] none 0 [] 9 _ HS7.out LS.out (none_row _ _) (Nat.le_refl _) (none_row _ _) (Nat.le_refl _) (none_row _ _) (Nat.le_refl _) (none_row _ _) (Nat.le_refl _) (none_row _ _) (Nat.le_refl _) bounds4).mono ?_
 rintro e w8 ⟨rfl, hb8⟩
 have HB8 := Aside0.mk (below_then HB7.out HB7.out.size hb8)
 clear hb8 HB7 HS7
 go_wp2
 go_ret
 exact ⟨rfl, HB8.out⟩
def canopylaw3_AutoBounds.Pure : Prop := True
theorem canopylaw3_AutoBounds.walk (P : canopylaw3_AutoBounds.Pure) (a0 : Int) (a1 : Int) (w : World) (w0 : (Lit.int .i64 a0).wf = true) (w1 : (Lit.int .i64 a1).wf = true) :
 Calls Tryz.prog 9 #[.int .i64 a0, .int .i64 a1] w fun e w' => e = .returned (.bool true) ∧ Below w.heap.size w w' := bounds_walk a0 a1 w
end Go.Proofs.YtejpijgfpbcibaaGreat.P
