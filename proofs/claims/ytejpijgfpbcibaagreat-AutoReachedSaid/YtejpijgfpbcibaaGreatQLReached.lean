/- Words and walks of this claim: LReached. -/
import Derived.Test.YtejpijgfpbcibaaGreatQUReach
import Derived.Test.YtejpijgfpbcibaaGreatQSKnown3
import Derived.Test.YtejpijgfpbcibaaGreatQSRefCheck
set_option linter.unusedVariables false
set_option linter.unusedSimpArgs false
set_option linter.unnecessarySimpa false
namespace Go.Proofs.YtejpijgfpbcibaaGreat.P
open Go.RowKit Go.Sort Go.Shelf Go.Proofs.YtejpijgfpbcibaaGreatW.PrintWords Go.Proofs.YtejpijgfpbcibaaGreatW.PrintLast Go.Proofs.YtejpijgfpbcibaaGreatW.PrintMore Go.Proofs.YtejpijgfpbcibaaGreat.M
def setK {α : Type} (key : α → Int) (l : List Bool) (r : α) : List Bool := l.set (key r).toNat true
theorem setK_len {α : Type} (key : α → Int) : ∀ (m : List α) (l : List Bool), (m.foldl (setK key) l).length = l.length
 | [], l => rfl
 | r :: m, l => by rw [List.foldl_cons, setK_len key m, setK, List.length_set]
theorem setK_tt {α : Type} (key : α → Int) : ∀ (m : List α) (l : List Bool) (q : Nat), tt l q → tt (m.foldl (setK key) l) q
 | [], l, q, h => h
 | r :: m, l, q, h => setK_tt key m _ q (tt_set.2 (.inl h))
theorem setK_in {α : Type} (key : α → Int) : ∀ (m : List α) (l : List Bool) (r : α), r ∈ m → (key r).toNat < l.length → tt (m.foldl (setK key) l) (key r).toNat
 | [], l, r, h, _ => by cases h
 | s :: m, l, r, h, hl => by
  rw [List.foldl_cons]
  rcases List.mem_cons.1 h with rfl | h
  ·exact setK_tt key m _ _ (tt_set.2 (.inr ⟨rfl, hl⟩))
  ·exact setK_in key m _ r h (by rw [setK, List.length_set]; exact hl)
def idK (x : Int) : Int := x
def oK2 (r : TOpen) : Int := r.f2
def oK3 (r : TOpen) : Int := r.f3
def cK (r : TClose) : Int := r.f3
def pK (r : TInner) : Int := r.f2
theorem reach_at {l : List S51} {n g : Int} {i f : List Int} {o : List TOpen} {c : List TClose} {p : List TInner} {n0 g0 : Int} {I F : List Int} {O : List TOpen} {C : List TClose} {P : List TInner} (h : Left l i f o c p n0 g0 (n, g, I, F, O, C, P)) (x : Int) (h0 : 0 ≤ x) (h1 : x < n) :
 rdOf false (P.foldl (setK pK) (C.foldl (setK cK) (O.foldl (setK oK2) (I.foldl (setK idK) (List.replicate n.toNat false))))) x = true := by
 show tt _ x.toNat
 have hl : x.toNat < (List.replicate n.toNat false).length := by rw [List.length_replicate]; omega
 rcases h.at_ x h0 h1 with h2 | ⟨r, h2, e⟩ | ⟨r, h2, e⟩ | ⟨r, h2, e⟩
 ·exact setK_tt _ _ _ _ (setK_tt _ _ _ _ (setK_tt _ _ _ _ (setK_in idK I _ x h2 hl)))
 ·have e2 : oK2 r = x := e
  rw [← e2] at hl ⊢
  exact setK_tt _ _ _ _ (setK_tt _ _ _ _ (setK_in oK2 O _ r h2 (by rw [setK_len]; exact hl)))
 ·have e2 : cK r = x := e
  rw [← e2] at hl ⊢
  exact setK_tt _ _ _ _ (setK_in cK C _ r h2 (by rw [setK_len, setK_len]; exact hl))
 ·have e2 : pK r = x := e
  rw [← e2] at hl ⊢
  exact setK_in pK P _ r h2 (by rw [setK_len, setK_len, setK_len]; exact hl)
theorem reach_up {l : List S51} {n g : Int} {i f : List Int} {o : List TOpen} {c : List TClose} {p : List TInner} {n0 g0 : Int} {I F : List Int} {O : List TOpen} {C : List TClose} {P : List TInner} (h : Left l i f o c p n0 g0 (n, g, I, F, O, C, P)) (x : Int) (h0 : 1 ≤ x) (h1 : x ≤ g) :
 rdOf false (O.foldl (setK oK3) (List.replicate (g + 1).toNat false)) x = true := by
 show tt _ x.toNat
 obtain ⟨r, h2, e⟩ := h.up x h0 h1
 have e2 : oK3 r = x := e
 rw [← e2]
 exact setK_in oK3 O _ r h2 (by rw [List.length_replicate, e2]; omega)
structure AtR (wb w : World) (bs ns cs bm nm cm : Nat) (at_ up : List Bool) : Prop where
 b : Below wb.heap.size wb w
 s : Kd.R Kd.bool 4 w wb.heap.size (fun k => some k = (Value.slice (some ⟨bs, 0, none⟩) ns cs).ownBlock) (.slice (some ⟨bs, 0, none⟩) ns cs) at_
 m : Kd.R Kd.bool 4 w wb.heap.size (fun k => some k = (Value.slice (some ⟨bm, 0, none⟩) nm cm).ownBlock) (.slice (some ⟨bm, 0, none⟩) nm cm) up
 ne : bs ≠ bm
section
variable {wb w w' : World} {bs ns cs bm nm cm : Nat} {at_ up : List Bool}
theorem AtR.below (h : AtR wb w bs ns cs bm nm cm at_ up) (hb : Below w.heap.size w w') : AtR wb w' bs ns cs bm nm cm at_ up := ⟨below_then h.b h.b.size hb, Kd.R_below h.s hb, Kd.R_below h.m hb, h.ne⟩
theorem AtR.putS (h : AtR wb w bs ns cs bm nm cm at_ up) (k : Int) : AtR wb (w.setCell ⟨bs, k.toNat, none⟩ (.bool true)) bs ns cs bm nm cm (at_.set k.toNat true) up :=
 ⟨h.b.setCell (Kd.R_base h.s bs rfl) _, Kd.R_putn h.s k true, Kd.R_far h.m (fun q hq e => h.ne ((by simpa [Value.ownBlock] using hq : q = bm) ▸ e).symm) _, h.ne⟩
theorem AtR.putM (h : AtR wb w bs ns cs bm nm cm at_ up) (k : Int) : AtR wb (w.setCell ⟨bm, k.toNat, none⟩ (.bool true)) bs ns cs bm nm cm at_ (up.set k.toNat true) :=
 ⟨h.b.setCell (Kd.R_base h.m bm rfl) _, Kd.R_far h.s (fun q hq e => h.ne ((by simpa [Value.ownBlock] using hq : q = bs) ▸ e)) _, Kd.R_putn h.m k true, h.ne⟩
end
def canopylaw3_AutoReached.Pure : Prop := True
set_option maxHeartbeats 16000000 in
set_option maxRecDepth 100000 in
theorem reached_walk (a0 a1 : Int) (A2 : Option Addr) (c2 : Nat) (ns_ : List Int) (w : World) (hr2 : Kd.C (Kd.int .i64) w A2 ns_.length ns_) (hc2 : ns_.length ≤ c2) (hm2 : ns_.length ≤ maxLen) :
 Calls Tryz.prog 10 #[.int .i64 a0, .int .i64 a1, .slice A2 ns_.length c2] w fun e w' => e = .returned (.bool true) ∧ Below w.heap.size w w' := by
 obtain ⟨S, hS, hOk⟩ : ∃ S, canopylaw1_Syms.f a0 ns_ = some S ∧ symOk S := ⟨_, syms_eq a0 ns_ hm2, symsL_ok a0 ns_⟩
 have hmade := made_ok hOk a1 ns_ (most := 6) (by decide) (by decide)
 have hlen := (mkAll_inv hOk (N := makeN a1 6) (G := makeG a1) (by have := makeN_in a1 (most := 6) (by decide); omega) (by have := makeG_in a1; omega) ns_).2
 have HF := Aside0.mk (And.intro hS (And.intro hOk hmade))
 have HI2 := Aside0.mk (And.intro hr2 hc2)
 have HLEN := Aside0.mk hlen
 clear hS hOk hmade hr2 hc2 hm2 hlen
 go_enter Tryz.func10, Tryz.ntmps10
 go_wp2_with fail
 refine (canopylaw3_known.calls true _ rfl).mono ?_
 rintro e w1 ⟨rfl, hb1⟩
 have HB1 := Aside0.mk hb1
 clear hb1
 go_wp2_with fail
 refine (canopylaw1_Syms.calls a0 A2 c2 ns_ S _ (Kd.C_below HI2.out.1 HB1.out) HI2.out.2 HF.out.1).mono ?_
 rintro e w2 ⟨v1, rfl, hr1, hb2⟩
 obtain ⟨AS, cS, eS, lS, gS⟩ := Kd.R_reads hr1
 subst eS
 have HS := Aside0.mk gS
 have LS : Aside0 (S.length ≤ cS) := ⟨lS⟩
 have HB2 := Aside0.mk (below_then HB1.out HB1.out.size hb2)
 clear hr1 hb2 gS lS HB1
 go_wp2_with fail
 refine (make_own AS cS S a1 A2 c2 ns_ 6 _ HS.out LS.out (Kd.C_below HI2.out.1 HB2.out) HF.out.2.1 (by decide) (by decide)).mono ?_
 rintro e w3 ⟨v2, v3, v4, v5, v6, rfl, hv, hb3⟩
 obtain ⟨st, hst⟩ : ∃ st, st = mkAll S (makeN a1 6) (makeG a1) ns_ := ⟨_, rfl⟩
 rw [← hst] at HF HLEN hv
 obtain ⟨N, hN⟩ : ∃ N, N = makeN a1 6 := ⟨_, rfl⟩
 obtain ⟨G, hG⟩ : ∃ G, G = makeG a1 := ⟨_, rfl⟩
 rw [← hN, ← hG] at HF hv ⊢
 have HV : Aside0 (OutV w3 w2.heap.size v2 v3 v4 v5 v6 (mkI st) st.f st.o st.c st.n) := ⟨hv⟩
 have HB3 := Aside0.mk (below_then HB2.out HB2.out.size hb3)
 have HS3 := Aside0.mk (Kd.C_below HS.out hb3)
 clear hst hN hG hv hb3 HB2 HS
 obtain ⟨i, hi⟩ : ∃ i, i = mkI st := ⟨_, rfl⟩
 have HLI : Aside0 (i.length ≤ 25 ∧ st.f.length ≤ 25 ∧ st.o.length ≤ 25 ∧ st.c.length ≤ 25 ∧ st.n.length ≤ 25 ∧ S.length ≤ 7) := ⟨by have h1 := mkI_len HLEN.out; rw [← hi] at h1; have h2 := HLEN.out; unfold MkLen at h2; exact ⟨h1, by omega, by omega, by omega, by omega, HF.out.2.1.2.1⟩⟩
 rw [← hi] at HF HV
 clear hi HLEN
 have q2 := HV.out.r2
 have q3 := HV.out.r3
 have q4 := HV.out.r4
 have q5 := HV.out.r5
 have q6 := HV.out.r6
 obtain ⟨Z2, z2, rfl⟩ := Kd.R_slice q2
 obtain ⟨Z3, z3, rfl⟩ := Kd.R_slice q3
 obtain ⟨Z4, z4, rfl⟩ := Kd.R_slice q4
 obtain ⟨Z5, z5, rfl⟩ := Kd.R_slice q5
 obtain ⟨Z6, z6, rfl⟩ := Kd.R_slice q6
 clear q2 q3 q4 q5 q6
 have hleft := trim_left (MayBe.of HF.out.2.2)
 have htrim : auto_Trim.f S N G i st.f st.o st.c st.n = some (trimV (trimS N G i st.o st.c st.n) i st.f st.o st.c st.n) := if_pos HF.out.2.2
 obtain ⟨v, hv⟩ : ∃ v, v = trimV (trimS N G i st.o st.c st.n) i st.f st.o st.c st.n := ⟨_, rfl⟩
 rw [← hv] at hleft htrim
 clear hv
 obtain ⟨n, g, l2, l3, l4, l5, l6⟩ := v
 have HL := Aside0.mk hleft
 have HT := Aside0.mk htrim
 clear hleft htrim
 go_wp2_with fail
 refine (auto_Trim.calls AS cS S N G Z2 z2 i Z3 z3 st.f Z4 z4 st.o Z5 z5 st.c Z6 z6 st.n n g l2 l3 l4 l5 l6 _ HS3.out LS.out (Kd.R_reads' HV.out.r2).2.2 (Kd.R_reads' HV.out.r2).2.1 (Kd.R_reads' HV.out.r3).2.2 (Kd.R_reads' HV.out.r3).2.1 (Kd.R_reads' HV.out.r4).2.2 (Kd.R_reads' HV.out.r4).2.1 (Kd.R_reads' HV.out.r5).2.2 (Kd.R_reads' HV.out.r5).2.1 (Kd.R_reads' HV.out.r6).2.2 (Kd.R_reads' HV.out.r6).2.1 HT.out).mono ?_
 rintro e w4 ⟨u2, u3, u4, u5, u6, rfl, g2, g3, g4, g5, g6, hb4⟩
 obtain ⟨Y2, y2, rfl⟩ := Kd.V_slice g2
 obtain ⟨Y3, y3, rfl⟩ := Kd.V_slice g3
 obtain ⟨Y4, y4, rfl⟩ := Kd.V_slice g4
 obtain ⟨Y5, y5, rfl⟩ := Kd.V_slice g5
 obtain ⟨Y6, y6, rfl⟩ := Kd.V_slice g6
 have HW := Aside0.mk (below_then HB3.out HB3.out.size hb4)
 have HSb := Aside0.mk (Kd.C_below HS3.out hb4)
 have H2 := Aside0.mk (And.intro (Kd.V_reads' g2).2.2 (Kd.V_reads' g2).2.1)
 have H3 := Aside0.mk (And.intro (Kd.V_reads' g3).2.2 (Kd.V_reads' g3).2.1)
 have H4 := Aside0.mk (And.intro (Kd.V_reads' g4).2.2 (Kd.V_reads' g4).2.1)
 have H5 := Aside0.mk (And.intro (Kd.V_reads' g5).2.2 (Kd.V_reads' g5).2.1)
 have H6 := Aside0.mk (And.intro (Kd.V_reads' g6).2.2 (Kd.V_reads' g6).2.1)
 clear g2 g3 g4 g5 g6 hb4 HB3 HS3 HV HT
 have HMB : Aside0 (MayBe S n g l2 l3 l4 l5 l6) := ⟨HL.out.may⟩
 have HLN : Aside0 (l2.length ≤ 25 ∧ l3.length ≤ 25 ∧ l4.length ≤ 25 ∧ l5.length ≤ 25 ∧ l6.length ≤ 25) := ⟨by have h1 := HL.out.li; have h2 := HL.out.lf; have h3 := HL.out.lo; have h4 := HL.out.lc; have h5 := HL.out.lp; have h6 := HLI.out; exact ⟨by show l2.length ≤ 25; exact Nat.le_trans h1 h6.1, Nat.le_trans h2 h6.2.1, Nat.le_trans h3 h6.2.2.1, Nat.le_trans h4 h6.2.2.2.1, Nat.le_trans h5 h6.2.2.2.2.1⟩⟩
 have HCK : Aside0 (canopyref3_Check.f S n g l2 l3 l4 l5 l6 = some 0) := ⟨HMB.out.check (by have := HLI.out; omega) (by have := HLN.out; omega) (by have := HLN.out; omega)⟩
 go_upto_region 5 with (fail)
 have HA0 : Aside0 ((w4.alloc (.cells #[.int .i64 n, .int .i64 g, .slice Y2 l2.length y2, .slice Y3 l3.length y3, .slice Y4 l4.length y4, .slice Y5 l5.length y5, .slice Y6 l6.length y6] 30)).heap[w4.heap.size]? = some (.cells #[.int .i64 n, .int .i64 g, .slice Y2 l2.length y2, .slice Y3 l3.length y3, .slice Y4 l4.length y4, .slice Y5 l5.length y5, .slice Y6 l6.length y6] 30 (0, 0))) := ⟨blk_newAt _ rfl⟩
 have HWb : Aside0 (Below w4.heap.size w4 (w4.alloc (.cells #[.int .i64 n, .int .i64 g, .slice Y2 l2.length y2, .slice Y3 l3.length y3, .slice Y4 l4.length y4, .slice Y5 l5.length y5, .slice Y6 l6.length y6] 30))) := ⟨below_alloc (Below.refl _ _) _⟩
 obtain ⟨wq, hwq⟩ : ∃ wq : World, wq = w4.alloc (.cells #[.int .i64 n, .int .i64 g, .slice Y2 l2.length y2, .slice Y3 l3.length y3, .slice Y4 l4.length y4, .slice Y5 l5.length y5, .slice Y6 l6.length y6] 30) := ⟨_, rfl⟩
 obtain ⟨go, hgo⟩ : ∃ go, go = w4.heap.size := ⟨_, rfl⟩
 rw [← hgo] at HA0 ⊢
 rw [← hwq] at HA0 HWb ⊢
 clear hwq hgo
 obtain ⟨b0, b1, b2, b3, b4, b5, b6, _⟩ := auto_cells HA0.out
 go_wp2_with fail
 refine (canopyref3_Check.calls AS cS S n g Y2 y2 l2 Y3 y3 l3 Y4 y4 l4 Y5 y5 l5 Y6 y6 l6 0 _ (Kd.C_below HSb.out HWb.out) LS.out (Kd.C_below H2.out.1 HWb.out) H2.out.2 (Kd.C_below H3.out.1 HWb.out) H3.out.2 (Kd.C_below H4.out.1 HWb.out) H4.out.2 (Kd.C_below H5.out.1 HWb.out) H5.out.2 (Kd.C_below H6.out.1 HWb.out) H6.out.2 HCK.out).mono ?_
 rintro e wb ⟨rfl, hb5⟩
 have hbb := below_then HWb.out HWb.out.size hb5
 have HA := Aside0.mk (blk_below HA0.out hb5)
 have HWW := Aside0.mk (below_then HW.out HW.out.size hbb)
 have C2 := Aside0.mk (Kd.C_below H2.out.1 hbb)
 have C3 := Aside0.mk (Kd.C_below H3.out.1 hbb)
 have C4 := Aside0.mk (Kd.C_below H4.out.1 hbb)
 have C5 := Aside0.mk (Kd.C_below H5.out.1 hbb)
 have C6 := Aside0.mk (Kd.C_below H6.out.1 hbb)
 clear hb5 hbb HA0 HWb HW HSb H2 H3 H4 H5 H6 b0 b1 b2 b3 b4 b5 b6
 try clear wq
 go_upto_region 7 with (fail)
 refine start_ (n := 9) (S := fun w' => w'.cell? ⟨go, 0, none⟩ = some (.int .i64 n) ∧ w'.cell? ⟨go, 1, none⟩ = some (.int .i64 g)) (ds := []) (pm 0 9) (by kernel_rfl) rfl rfl ⟨(blk_cell (blk_drew HA.out) 0).trans rfl, (blk_cell (blk_drew HA.out) 1).trans rfl⟩ (fun hHeld => ?_)
 have HAn := Aside0.mk (blk_drew HA.out)
 have HBn : Aside0 (Below wb.heap.size wb wb.drew) := ⟨below_drew (Below.refl _ _)⟩
 generalize wb.drew = wd at HAn HBn hHeld ⊢
 iterate 2 (first | (refine pn_ (v := ?_) (a' := ?_) rfl (rfl (a := some _)) (by kernel_rfl) (fun _ _ _ h => h) (Or.inl ⟨by rfl, ?_⟩) ?_ ?_; rotate_left; (intro w'; go_simp; with_reducible rfl); rotate_left; (simp only [Act.put, List.setIfInBounds_toArray, List.set_cons_zero, List.set_cons_succ, i64_w, i32_w]; rfl)) | (refine tn_ (v := ?_) (a' := ?_) rfl (rfl (a := some _)) (by kernel_rfl) (fun _ _ _ h => h) (Or.inl ⟨by rfl, ?_⟩) hHeld ?_ ?_; rotate_left; (intro w' hS_; obtain ⟨s0, s1⟩ := hS_; go_simp; with_reducible rfl); rotate_left; (simp only [Act.put, List.setIfInBounds_toArray, List.set_cons_zero, List.set_cons_succ, i64_w, i32_w]; rfl)))
 refine po_ 3 (v := ?_) (a' := ?_) rfl (rfl (a := some _)) (by kernel_rfl) (fun _ _ _ h => h) (Or.inl ⟨by rfl, ?_⟩) ?_ ?_; rotate_left; (intro w'; go_simp; with_reducible rfl); rotate_left; (simp only [Act.put, List.setIfInBounds_toArray, List.set_cons_zero, List.set_cons_succ, i64_w, i32_w]; rfl)
 refine to_ 4 (v := ?_) (a' := ?_) rfl (rfl (a := some _)) (by kernel_rfl) (fun _ _ _ h => h) (Or.inl ⟨by rfl, ?_⟩) hHeld ?_ ?_; rotate_left; (intro w' hS_; obtain ⟨s0, s1⟩ := hS_; go_simp; with_reducible rfl); rotate_left; (simp only [Act.put, List.setIfInBounds_toArray, List.set_cons_zero, List.set_cons_succ, i64_w, i32_w]; rfl)
 refine po_ 5 (v := ?_) (a' := ?_) rfl (rfl (a := some _)) (by kernel_rfl) (fun _ _ _ h => h) (Or.inl ⟨by rfl, ?_⟩) ?_ ?_; rotate_left; (intro w'; go_simp; with_reducible rfl); rotate_left; (simp only [Act.put, List.setIfInBounds_toArray, List.set_cons_zero, List.set_cons_succ, i64_w, i32_w]; rfl)
 have HG1 : Aside0 ((wrap64 (g + 1)) = g + 1) := ⟨by have := HMB.out.hg; unfold wrap64; omega⟩
 have HNG : Aside0 (0 ≤ n ∧ n ≤ 200 ∧ 0 ≤ g ∧ g ≤ 10000) := ⟨by have h1 := HMB.out.hg; have h2 := HMB.out.hn; omega⟩
 refine join_ (σ := Value × Value) 1 #[true, true, true, true, true, true, true, true, false] (fun s_ => [(34, s_.1), (38, s_.2), (9, s_.1)]) (fun s_ w' => Two wb wd w' go go (.cells #[.int .i64 n, .int .i64 g, .slice Y2 l2.length y2, .slice Y3 l3.length y3, .slice Y4 l4.length y4, .slice Y5 l5.length y5, .slice Y6 l6.length y6] 30 (0, 0)) (.cells #[.int .i64 n, .int .i64 g, .slice Y2 l2.length y2, .slice Y3 l3.length y3, .slice Y4 l4.length y4, .slice Y5 l5.length y5, .slice Y6 l6.length y6] 30 (0, 0)) s_.1 s_.2 n.toNat (g + 1).toNat) ?_ ?_
 rotate_left
 ·intro hCont
  have hCX := Aside0.mk hCont
  clear hCont
  refine two_ (i := 2) (j := 6) (Ni := some 34) (Nj := some 38) #[true, true, true, true, true, true, false, false, false] #[true, true, false, true, true, true, true, false, false] rfl rfl rfl rfl (by kernel_rfl) (by decide) (by decide) (fun K hK => ?_) (fun K hK => ?_)
  ·skip
   refine Kd.R_make_step Kd.bool wb.heap.size 4 (w0 := wb) rfl (N := 34) rfl 56 (.tmp 33) (.tmp 33) rfl n rfl rfl Tryz.underlying56 (.bool false) 1 infoBool rfl (by decide) (by decide) false (ok := fun _ => True) (okp := fun _ => True) rfl (fun _ hk => hk) trivial (by have := HNG.out; have := HG1.out; omega) (by have := HNG.out; have := HG1.out; omega) HBn.out HBn.out.size ?_
   intro va wa hra hba hga hat
   obtain ⟨x, hx, hxl⟩ := hat
   have HRa := Aside0.mk (Kd.R_tight rfl hra)
   have HBa := Aside0.mk hba
   have HAa := Aside0.mk (blk_grown HAn.out hga nen)
   have HXa := Aside0.mk (And.intro hx (Kd.R_lt hra x hx))
   clear hra hba hga hx hxl
   refine hK.out _ _ ⟨(blk_cell HAa.out 0).trans rfl, (blk_cell HAa.out 1).trans rfl⟩ (fun hHeld => ?_)
   clear hK K
   refine norm_ (a' := ?_) ?_ ?_
   rotate_left
   ·show Act.put _ (some 34) _ = _
    simp only [Act.put, List.setIfInBounds_toArray, List.set_cons_zero, List.set_cons_succ, i64_w, i32_w]
    rfl
   refine po_ 7 (v := ?_) (a' := ?_) rfl (rfl (a := some _)) (by kernel_rfl) (fun _ _ _ h => h) (Or.inl ⟨by rfl, ?_⟩) ?_ ?_; rotate_left; (intro w'; go_simp; with_reducible rfl); rotate_left; (simp only [Act.put, List.setIfInBounds_toArray, List.set_cons_zero, List.set_cons_succ, i64_w, i32_w]; rfl)
   refine one_ (i := 6) (N := (some 38)) #[true, true, true, true, true, true, true, true, false] rfl rfl (by kernel_rfl) (by decide) (fun K hK => ?_)
   refine Kd.R_make_step Kd.bool wb.heap.size 4 (w0 := wb) rfl (N := 38) rfl 56 (.tmp 37) (.tmp 37) rfl (wrap64 (g + 1)) rfl rfl Tryz.underlying56 (.bool false) 1 infoBool rfl (by decide) (by decide) false (ok := fun _ => True) (okp := fun _ => True) rfl (fun _ hk => hk) trivial (by have := HNG.out; have := HG1.out; omega) (by have := HNG.out; have := HG1.out; omega) HBa.out HBa.out.size ?_
   intro vb wb2 hrb hbb hgb hat
   obtain ⟨y, hy, hyl⟩ := hat
   have HXY : Aside0 (x ≠ y) := ⟨by have := HXa.out.2; omega⟩
   have HRb := Aside0.mk (Kd.R_tight rfl hrb)
   have HRa2 := Aside0.mk (Kd.R_grown HRa.out hgb (fun k hk e => nen e))
   have HAb := Aside0.mk (blk_grown HAa.out hgb nen)
   have HBb := Aside0.mk hbb
   have HYb := Aside0.mk hy
   clear hrb hbb hgb hy hyl
   refine hK.out _ _ ⟨(blk_cell HAb.out 0).trans rfl, (blk_cell HAb.out 1).trans rfl⟩ (fun hHeld => ?_)
   clear hK K
   refine norm_ (a' := ?_) ?_ ?_
   rotate_left
   ·show Act.put _ (some 38) _ = _
    simp only [Act.put, List.setIfInBounds_toArray, List.set_cons_zero, List.set_cons_succ, i64_w, i32_w]
    rfl
   exact norm_ (by simp only [putAll, Act.put, List.setIfInBounds_toArray, List.set_cons_zero, List.set_cons_succ]) (hCX.out (va, vb) _ ⟨HBb.out, HAb.out, HAb.out, HRa2.out, by have h := HRb.out; rw [HG1.out] at h; exact h, x, y, HXa.out.1, HYb.out, HXY.out⟩)
  ·skip
   refine Kd.R_make_step Kd.bool wb.heap.size 4 (w0 := wb) rfl (N := 38) rfl 56 (.tmp 37) (.tmp 37) rfl (wrap64 (g + 1)) rfl rfl Tryz.underlying56 (.bool false) 1 infoBool rfl (by decide) (by decide) false (ok := fun _ => True) (okp := fun _ => True) rfl (fun _ hk => hk) trivial (by have := HNG.out; have := HG1.out; omega) (by have := HNG.out; have := HG1.out; omega) HBn.out HBn.out.size ?_
   intro va wa hra hba hga hat
   obtain ⟨x, hx, hxl⟩ := hat
   have HRa := Aside0.mk (Kd.R_tight rfl hra)
   have HBa := Aside0.mk hba
   have HAa := Aside0.mk (blk_grown HAn.out hga nen)
   have HXa := Aside0.mk (And.intro hx (Kd.R_lt hra x hx))
   clear hra hba hga hx hxl
   refine hK.out _ _ ⟨(blk_cell HAa.out 0).trans rfl, (blk_cell HAa.out 1).trans rfl⟩ (fun hHeld => ?_)
   clear hK K
   refine norm_ (a' := ?_) ?_ ?_
   rotate_left
   ·show Act.put _ (some 38) _ = _
    simp only [Act.put, List.setIfInBounds_toArray, List.set_cons_zero, List.set_cons_succ, i64_w, i32_w]
    rfl
   refine one_ (i := 2) (N := (some 34)) #[true, true, true, true, true, true, true, false, false] rfl rfl (by kernel_rfl) (by decide) (fun K hK => ?_)
   refine Kd.R_make_step Kd.bool wb.heap.size 4 (w0 := wb) rfl (N := 34) rfl 56 (.tmp 33) (.tmp 33) rfl n rfl rfl Tryz.underlying56 (.bool false) 1 infoBool rfl (by decide) (by decide) false (ok := fun _ => True) (okp := fun _ => True) rfl (fun _ hk => hk) trivial (by have := HNG.out; have := HG1.out; omega) (by have := HNG.out; have := HG1.out; omega) HBa.out HBa.out.size ?_
   intro vb wb2 hrb hbb hgb hat
   obtain ⟨y, hy, hyl⟩ := hat
   have HXY : Aside0 (x ≠ y) := ⟨by have := HXa.out.2; omega⟩
   have HRb := Aside0.mk (Kd.R_tight rfl hrb)
   have HRa2 := Aside0.mk (Kd.R_grown HRa.out hgb (fun k hk e => nen e))
   have HAb := Aside0.mk (blk_grown HAa.out hgb nen)
   have HBb := Aside0.mk hbb
   have HYb := Aside0.mk hy
   clear hrb hbb hgb hy hyl
   refine hK.out _ _ ⟨(blk_cell HAb.out 0).trans rfl, (blk_cell HAb.out 1).trans rfl⟩ (fun hHeld => ?_)
   clear hK K
   refine norm_ (a' := ?_) ?_ ?_
   rotate_left
   ·show Act.put _ (some 34) _ = _
    simp only [Act.put, List.setIfInBounds_toArray, List.set_cons_zero, List.set_cons_succ, i64_w, i32_w]
    rfl
   refine po_ 7 (v := ?_) (a' := ?_) rfl (rfl (a := some _)) (by kernel_rfl) (fun _ _ _ h => h) (Or.inl ⟨by rfl, ?_⟩) ?_ ?_; rotate_left; (intro w'; go_simp; with_reducible rfl); rotate_left; (simp only [Act.put, List.setIfInBounds_toArray, List.set_cons_zero, List.set_cons_succ, i64_w, i32_w]; rfl)
   refine re_ #[true, true, true, true, true, true, true, true, false] (by kernel_rfl) ?_
   exact norm_ (by simp only [putAll, Act.put, List.setIfInBounds_toArray, List.set_cons_zero, List.set_cons_succ]) (hCX.out (vb, va) _ ⟨HBb.out, HAb.out, HAb.out, HRb.out, by have h := HRa2.out; rw [HG1.out] at h; exact h, y, x, HYb.out, HXa.out.1, Ne.symm HXY.out⟩)
 rintro ⟨vs, vm⟩ w5 ⟨hb3, _, _, hs3, hm3, bs, bm, hbs, hbm, hne⟩
 obtain ⟨ns, hns⟩ : ∃ ns, ns = n.toNat := ⟨_, rfl⟩
 obtain ⟨nm, hnm⟩ : ∃ nm, nm = (g + 1).toNat := ⟨_, rfl⟩
 rw [← hns] at hs3
 rw [← hnm] at hm3
 obtain ⟨cs, rfl⟩ := row_form hs3 List.length_replicate hbs
 obtain ⟨cm, rfl⟩ := row_form hm3 List.length_replicate hbm
 have HE : Aside0 (AtR wb w5 bs ns cs bm nm cm (List.replicate ns false) (List.replicate nm false)) := ⟨⟨hb3, hs3, hm3, hne⟩⟩
 have HNS := Aside0.mk (And.intro hns hnm)
 clear hb3 hs3 hm3 hbs hbm hne hns hnm HAn HBn
 refine norm_ (a' := ?_) ?_ ?_
 rotate_left
 ·simp only [putAll, Act.put, List.setIfInBounds_toArray, List.set_cons_zero, List.set_cons_succ, i64_w, i32_w]
  rfl
 refine re_ (pm 8 1) (by kernel_rfl) ?_
 refine pn_ (v := ?_) (a' := ?_) rfl (rfl (a := some _)) (by kernel_rfl) (fun _ _ _ h => h) (Or.inl ⟨by rfl, ?_⟩) ?_ ?_; rotate_left; (intro w'; go_simp; with_reducible rfl); rotate_left; (simp only [Act.put, List.setIfInBounds_toArray, List.set_cons_zero, List.set_cons_succ, i64_w, i32_w]; rfl)
 refine done_ (by kernel_rfl) ?_
 obtain ⟨wq, hwq⟩ : ∃ wq : World, wq = w5 := ⟨_, rfl⟩
 rw [← hwq] at HE ⊢
 clear hwq
 have HNN : Aside0 ((ns : Int) = n ∧ (nm : Int) = g + 1) := ⟨by have := HNS.out; have := HNG.out; omega⟩
 have b2 := (blk_cell (blk_below HA.out HE.out.b) 2).trans (show (#[.int .i64 n, .int .i64 g, .slice Y2 l2.length y2, .slice Y3 l3.length y3, .slice Y4 l4.length y4, .slice Y5 l5.length y5, .slice Y6 l6.length y6] : Array Value)[2]? = some (.slice Y2 l2.length y2) from rfl)
 go_wp2
 clear b2
 go_loopg [11] l2.length (fun gk v11 w' => ∃ i_ : Nat, v11 = .int .i64 (i_ : Int) ∧ Aside0 (i_ ≤ l2.length ∧ l2.length - i_ ≤ gk) ∧ Aside0 (AtR wb w' bs ns cs bm nm cm ((l2.take i_).foldl (setK idK) (List.replicate ns false)) (List.replicate nm false)))
 case atStart => exact ⟨0, rfl, ⟨by omega, by omega⟩, HE⟩
 case round =>
  clear HE
  obtain ⟨i_, rfl, Hi, HE⟩ := hrel
  try clear wq
  obtain ⟨wq, rfl⟩ : ∃ wq : World, wq = wr := ⟨_, rfl⟩
  have b2 := (blk_cell (blk_below HA.out HE.out.b) 2).trans (show (#[.int .i64 n, .int .i64 g, .slice Y2 l2.length y2, .slice Y3 l3.length y3, .slice Y4 l4.length y4, .slice Y5 l5.length y5, .slice Y6 l6.length y6] : Array Value)[2]? = some (.slice Y2 l2.length y2) from rfl)
  by_cases hlt : i_ < l2.length
  ·have HLT := Aside0.mk hlt
   obtain ⟨ad, eA, cx⟩ := int_at (Kd.C_below C2.out HE.out.b) i_ hlt
   have HIN := HMB.out.hi l2[i_] (List.getElem_mem hlt)
   have HN : Aside0 (((l2.take (i_ + 1)).foldl (setK idK) (List.replicate ns false)) = (((l2.take i_).foldl (setK idK) (List.replicate ns false))).set (l2[i_]).toNat true) := ⟨foldl_next (setK idK) _ l2 i_ hlt⟩
   generalize l2[i_] = x at cx HN HIN
   generalize ((l2.take i_).foldl (setK idK) (List.replicate ns false)) = at_ at HN HE
   have t1 := eq_true (show (i_ : Int) < (l2.length : Int) by omega)
   have t2 := eq_true (show (0 : Int) ≤ (i_ : Int) by omega)
   have hxn : x < (ns : Int) := by have := HNN.out; omega
   have t4 := eq_true HIN.1
   have t5 := eq_true hxn
   obtain ⟨y1_, y2_⟩ := Kd.R_celln false HE.out.s x HIN.1 hxn
   subst eA
   clear hlt HIN hxn
   go_wp2
   go_roundg (l2.length - (i_ + 1))
   case measure => have := Hi.out; have := HLT.out; omega
   case rel => exact ⟨i_ + 1, by first | rfl | rw [show wrap64 ((i_ : Int) + 1) = ((i_ + 1 : Nat) : Int) by have := HLT.out; have := HLN.out; unfold wrap64; omega], ⟨HLT.out, Nat.le_refl _⟩, ⟨by rw [HN.out]; exact HE.out.putS x⟩⟩
  ·have e4 : l2.take i_ = l2 := List.take_of_length_le (by omega)
   rw [e4] at HE
   have t1 := eq_false (show ¬ (i_ : Int) < (l2.length : Int) by omega)
   clear hlt e4 Hi
   go_upto_region 12 with (fail)
   clear b2 t1
   have t1 : True := trivial
   have b4 := (blk_cell (blk_below HA.out HE.out.b) 4).trans (show (#[.int .i64 n, .int .i64 g, .slice Y2 l2.length y2, .slice Y3 l3.length y3, .slice Y4 l4.length y4, .slice Y5 l5.length y5, .slice Y6 l6.length y6] : Array Value)[4]? = some (.slice Y4 l4.length y4) from rfl)
   go_wp2
   clear b4 t1
   go_loopg [12] l4.length (fun gk v12 w' => ∃ i_ : Nat, v12 = .int .i64 (i_ : Int) ∧ Aside0 (i_ ≤ l4.length ∧ l4.length - i_ ≤ gk) ∧ Aside0 (AtR wb w' bs ns cs bm nm cm ((l4.take i_).foldl (setK oK2) (l2.foldl (setK idK) (List.replicate ns false))) ((l4.take i_).foldl (setK oK3) (List.replicate nm false))))
   case atStart => exact ⟨0, rfl, ⟨by omega, by omega⟩, HE⟩
   case round =>
    clear HE
    obtain ⟨i_, rfl, Hi, HE⟩ := hrel
    try clear wq
    obtain ⟨wq, rfl⟩ : ∃ wq : World, wq = wr := ⟨_, rfl⟩
    have b4 := (blk_cell (blk_below HA.out HE.out.b) 4).trans (show (#[.int .i64 n, .int .i64 g, .slice Y2 l2.length y2, .slice Y3 l3.length y3, .slice Y4 l4.length y4, .slice Y5 l5.length y5, .slice Y6 l6.length y6] : Array Value)[4]? = some (.slice Y4 l4.length y4) from rfl)
    by_cases hlt : i_ < l4.length
    ·have HLT := Aside0.mk hlt
     obtain ⟨ad, eA, k0, k1, k2, k3⟩ := at_T36 (Kd.C_below C4.out HE.out.b) (i_ : Int) (by omega) (by omega)
     have hrd : rd_T36 l4 (i_ : Int) = l4[i_] := by unfold rd_T36; rw [Int.toNat_natCast, List.getD_eq_getElem?_getD, List.getElem?_eq_getElem hlt]; rfl
     rw [hrd, Int.toNat_natCast] at k0 k1 k2 k3
     have HIN0 := HMB.out.ho l4[i_] (List.getElem_mem hlt)
     have HN : Aside0 (((l4.take (i_ + 1)).foldl (setK oK2) (l2.foldl (setK idK) (List.replicate ns false))) = (((l4.take i_).foldl (setK oK2) (l2.foldl (setK idK) (List.replicate ns false)))).set (oK2 l4[i_]).toNat true) := ⟨foldl_next (setK oK2) _ l4 i_ hlt⟩
     have HN2 : Aside0 (((l4.take (i_ + 1)).foldl (setK oK3) (List.replicate nm false)) = (((l4.take i_).foldl (setK oK3) (List.replicate nm false))).set (oK3 l4[i_]).toNat true) := ⟨foldl_next (setK oK3) _ l4 i_ hlt⟩
     generalize l4[i_] = x_ at HN HIN0 HN2 k0 k1 k2 k3
     obtain ⟨x0, x1, x2, x3⟩ := x_
     have HIN : 0 ≤ x2 ∧ x2 < n := HIN0.2.1
     have HIM : 0 ≤ x3 ∧ x3 < (nm : Int) := by have h1 : (1 : Int) ≤ x3 := HIN0.2.2.2.1; have h3 : x3 ≤ g := HIN0.2.2.2.2; have h2 := HNN.out; omega
     change Aside0 (_ = (_ : List Bool).set (x2).toNat true) at HN
     change Aside0 (_ = (_ : List Bool).set (x3).toNat true) at HN2
     clear HIN0 hrd
     generalize ((l4.take i_).foldl (setK oK2) (l2.foldl (setK idK) (List.replicate ns false))) = at_ at HN HE
     generalize ((l4.take i_).foldl (setK oK3) (List.replicate nm false)) = up at HN2 HE
     have t1 := eq_true (show (i_ : Int) < (l4.length : Int) by omega)
     have t2 := eq_true (show (0 : Int) ≤ (i_ : Int) by omega)
     have hxn : x2 < (ns : Int) := by have := HNN.out; omega
     have t4 := eq_true HIN.1
     have t5 := eq_true hxn
     obtain ⟨y1_, y2_⟩ := Kd.R_celln false HE.out.s x2 HIN.1 hxn
     subst eA
     clear hlt HIN hxn
     have t6 := eq_true HIM.1
     have t7 := eq_true HIM.2
     have HKM := Aside0.mk HIM
     clear HIM y1_ y2_
     go_upto_region 15 with (fail)
     refine start_ (n := 18) (S := fun w' => w'.cell? ⟨go, 4, none⟩ = some (.slice (some ad) l4.length y4) ∧ w'.cell? ⟨(ad.add (i_ * 4)).block, (ad.add (i_ * 4)).off + 2, none⟩ = some (.int .i64 x2) ∧ w'.cell? ⟨(ad.add (i_ * 4)).block, (ad.add (i_ * 4)).off + 3, none⟩ = some (.int .i64 x3)) (ds := [15, 17]) (pm 0 18) (by kernel_rfl) rfl rfl ⟨b4, k2, k3⟩ (fun hHeld => ?_)
     have HE1 := Aside0.mk (HE.out.below (below_drew (Below.refl _ _)))
     clear HE b4 k0 k1 k2 k3
     have HE := HE1
     clear HE1
     obtain ⟨wd, hwd⟩ : ∃ wd : World, wd = wq.drew := ⟨_, rfl⟩
     rw [← hwd] at HE hHeld ⊢
     clear hwd
     try clear wq
     obtain ⟨wq, rfl⟩ : ∃ wq : World, wq = wd := ⟨_, rfl⟩
     iterate 15 (first | (refine pn_ (v := ?_) (a' := ?_) rfl (rfl (a := some _)) (by kernel_rfl) (fun _ _ _ h => h) (Or.inl ⟨by rfl, ?_⟩) ?_ ?_; rotate_left; (intro w'; go_simp; with_reducible rfl); rotate_left; (simp only [Act.put, List.setIfInBounds_toArray, List.set_cons_zero, List.set_cons_succ, i64_w, i32_w]; rfl)) | (refine tn_ (v := ?_) (a' := ?_) rfl (rfl (a := some _)) (by kernel_rfl) (fun _ _ _ h => h) (Or.inl ⟨by rfl, ?_⟩) hHeld ?_ ?_; rotate_left; (intro w' hS_; obtain ⟨s0, s1, s2⟩ := hS_; go_simp; with_reducible rfl); rotate_left; (simp only [Act.put, List.setIfInBounds_toArray, List.set_cons_zero, List.set_cons_succ, i64_w, i32_w]; rfl)))
     refine last_ (i := 15) (N := none) (pm 16 2) rfl rfl (by kernel_rfl) (by decide) (fun K hK => ?_)
     obtain ⟨y1_, y2_⟩ := Kd.R_celln false HE.out.s x2 (of_eq_true t4) (of_eq_true t5)
     refine Go.Proofs.YtejpijgfpbcibaaGreat.M.step_skip (w1 := wq.setCell ⟨bs, x2.toNat, none⟩ (.bool true)) rfl rfl (by go_simp) ?_
     clear y1_ y2_ hHeld
     have HE1 := Aside0.mk (HE.out.putS x2)
     clear HE
     have HE := HE1
     clear HE1
     refine hK.out _ _ ?_
     clear hK K
     obtain ⟨wd, hwd⟩ : ∃ wd : World, wd = wq.setCell ⟨bs, x2.toNat, none⟩ (.bool true) := ⟨_, rfl⟩
     rw [← hwd] at HE ⊢
     clear hwd
     try clear wq
     obtain ⟨wq, rfl⟩ : ∃ wq : World, wq = wd := ⟨_, rfl⟩
     refine pn_ (v := ?_) (a' := ?_) rfl (rfl (a := some _)) (by kernel_rfl) (fun _ _ _ h => h) (Or.inl ⟨by rfl, ?_⟩) ?_ ?_; rotate_left; (intro w'; go_simp; with_reducible rfl); rotate_left; (simp only [Act.put, List.setIfInBounds_toArray, List.set_cons_zero, List.set_cons_succ, i64_w, i32_w]; rfl)
     refine last_ (i := 17) (N := none) (pm 18 0) rfl rfl (by kernel_rfl) (by decide) (fun K hK => ?_)
     obtain ⟨y1_, y2_⟩ := Kd.R_celln false HE.out.m x3 (of_eq_true t6) (of_eq_true t7)
     refine Go.Proofs.YtejpijgfpbcibaaGreat.M.step_skip (w1 := wq.setCell ⟨bm, x3.toNat, none⟩ (.bool true)) rfl rfl (by go_simp) ?_
     clear y1_ y2_
     have HE1 := Aside0.mk (HE.out.putM x3)
     clear HE
     have HE := HE1
     clear HE1
     refine hK.out _ _ ?_
     clear hK K
     obtain ⟨wd, hwd⟩ : ∃ wd : World, wd = wq.setCell ⟨bm, x3.toNat, none⟩ (.bool true) := ⟨_, rfl⟩
     rw [← hwd] at HE ⊢
     clear hwd
     try clear wq
     obtain ⟨wq, rfl⟩ : ∃ wq : World, wq = wd := ⟨_, rfl⟩
     refine done_ (by kernel_rfl) ?_
     clear t1 t2 t4 t5 t6 t7
     go_wp2
     go_roundg (l4.length - (i_ + 1))
     case measure => have := Hi.out; have := HLT.out; omega
     case rel => exact ⟨i_ + 1, by first | rfl | rw [show wrap64 ((i_ : Int) + 1) = ((i_ + 1 : Nat) : Int) by have := HLT.out; have := HLN.out; unfold wrap64; omega], ⟨HLT.out, Nat.le_refl _⟩, ⟨by rw [HN.out, HN2.out]; exact HE.out⟩⟩
    ·have e4 : l4.take i_ = l4 := List.take_of_length_le (by omega)
     rw [e4] at HE
     have t1 := eq_false (show ¬ (i_ : Int) < (l4.length : Int) by omega)
     clear hlt e4 Hi
     go_upto_region 16 with (fail)
     clear b4 t1
     have t1 : True := trivial
     have b5 := (blk_cell (blk_below HA.out HE.out.b) 5).trans (show (#[.int .i64 n, .int .i64 g, .slice Y2 l2.length y2, .slice Y3 l3.length y3, .slice Y4 l4.length y4, .slice Y5 l5.length y5, .slice Y6 l6.length y6] : Array Value)[5]? = some (.slice Y5 l5.length y5) from rfl)
     go_wp2
     clear b5 t1
     go_loopg [13] l5.length (fun gk v13 w' => ∃ i_ : Nat, v13 = .int .i64 (i_ : Int) ∧ Aside0 (i_ ≤ l5.length ∧ l5.length - i_ ≤ gk) ∧ Aside0 (AtR wb w' bs ns cs bm nm cm ((l5.take i_).foldl (setK cK) (l4.foldl (setK oK2) (l2.foldl (setK idK) (List.replicate ns false)))) (l4.foldl (setK oK3) (List.replicate nm false))))
     case atStart => exact ⟨0, rfl, ⟨by omega, by omega⟩, HE⟩
     case round =>
      clear HE
      obtain ⟨i_, rfl, Hi, HE⟩ := hrel
      try clear wq
      obtain ⟨wq, rfl⟩ : ∃ wq : World, wq = wr := ⟨_, rfl⟩
      have b5 := (blk_cell (blk_below HA.out HE.out.b) 5).trans (show (#[.int .i64 n, .int .i64 g, .slice Y2 l2.length y2, .slice Y3 l3.length y3, .slice Y4 l4.length y4, .slice Y5 l5.length y5, .slice Y6 l6.length y6] : Array Value)[5]? = some (.slice Y5 l5.length y5) from rfl)
      by_cases hlt : i_ < l5.length
      ·have HLT := Aside0.mk hlt
       obtain ⟨ad, eA, k0, k1, k2, k3⟩ := at_T38 (Kd.C_below C5.out HE.out.b) (i_ : Int) (by omega) (by omega)
       have hrd : rd_T38 l5 (i_ : Int) = l5[i_] := by unfold rd_T38; rw [Int.toNat_natCast, List.getD_eq_getElem?_getD, List.getElem?_eq_getElem hlt]; rfl
       rw [hrd, Int.toNat_natCast] at k0 k1 k2 k3
       have HIN0 := HMB.out.hc l5[i_] (List.getElem_mem hlt)
       have HN : Aside0 (((l5.take (i_ + 1)).foldl (setK cK) (l4.foldl (setK oK2) (l2.foldl (setK idK) (List.replicate ns false)))) = (((l5.take i_).foldl (setK cK) (l4.foldl (setK oK2) (l2.foldl (setK idK) (List.replicate ns false))))).set (cK l5[i_]).toNat true) := ⟨foldl_next (setK cK) _ l5 i_ hlt⟩
       generalize l5[i_] = x_ at HN HIN0 k0 k1 k2 k3
       obtain ⟨x0, x1, x2, x3⟩ := x_
       have HIN : 0 ≤ x3 ∧ x3 < n := HIN0.2.1
       change Aside0 (_ = (_ : List Bool).set (x3).toNat true) at HN
       clear HIN0 hrd
       generalize ((l5.take i_).foldl (setK cK) (l4.foldl (setK oK2) (l2.foldl (setK idK) (List.replicate ns false)))) = at_ at HN HE
       have t1 := eq_true (show (i_ : Int) < (l5.length : Int) by omega)
       have t2 := eq_true (show (0 : Int) ≤ (i_ : Int) by omega)
       have hxn : x3 < (ns : Int) := by have := HNN.out; omega
       have t4 := eq_true HIN.1
       have t5 := eq_true hxn
       obtain ⟨y1_, y2_⟩ := Kd.R_celln false HE.out.s x3 HIN.1 hxn
       subst eA
       clear hlt HIN hxn
       go_wp2
       go_roundg (l5.length - (i_ + 1))
       case measure => have := Hi.out; have := HLT.out; omega
       case rel => exact ⟨i_ + 1, by first | rfl | rw [show wrap64 ((i_ : Int) + 1) = ((i_ + 1 : Nat) : Int) by have := HLT.out; have := HLN.out; unfold wrap64; omega], ⟨HLT.out, Nat.le_refl _⟩, ⟨by rw [HN.out]; exact HE.out.putS x3⟩⟩
      ·have e4 : l5.take i_ = l5 := List.take_of_length_le (by omega)
       rw [e4] at HE
       have t1 := eq_false (show ¬ (i_ : Int) < (l5.length : Int) by omega)
       clear hlt e4 Hi
       go_upto_region 20 with (fail)
       clear b5 t1
       have t1 : True := trivial
       have b6 := (blk_cell (blk_below HA.out HE.out.b) 6).trans (show (#[.int .i64 n, .int .i64 g, .slice Y2 l2.length y2, .slice Y3 l3.length y3, .slice Y4 l4.length y4, .slice Y5 l5.length y5, .slice Y6 l6.length y6] : Array Value)[6]? = some (.slice Y6 l6.length y6) from rfl)
       go_wp2
       clear b6 t1
       go_loopg [14] l6.length (fun gk v14 w' => ∃ i_ : Nat, v14 = .int .i64 (i_ : Int) ∧ Aside0 (i_ ≤ l6.length ∧ l6.length - i_ ≤ gk) ∧ Aside0 (AtR wb w' bs ns cs bm nm cm ((l6.take i_).foldl (setK pK) (l5.foldl (setK cK) (l4.foldl (setK oK2) (l2.foldl (setK idK) (List.replicate ns false))))) (l4.foldl (setK oK3) (List.replicate nm false))))
       case atStart => exact ⟨0, rfl, ⟨by omega, by omega⟩, HE⟩
       case round =>
        clear HE
        obtain ⟨i_, rfl, Hi, HE⟩ := hrel
        try clear wq
        obtain ⟨wq, rfl⟩ : ∃ wq : World, wq = wr := ⟨_, rfl⟩
        have b6 := (blk_cell (blk_below HA.out HE.out.b) 6).trans (show (#[.int .i64 n, .int .i64 g, .slice Y2 l2.length y2, .slice Y3 l3.length y3, .slice Y4 l4.length y4, .slice Y5 l5.length y5, .slice Y6 l6.length y6] : Array Value)[6]? = some (.slice Y6 l6.length y6) from rfl)
        by_cases hlt : i_ < l6.length
        ·have HLT := Aside0.mk hlt
         obtain ⟨ad, eA, k0, k1, k2⟩ := at_T40 (Kd.C_below C6.out HE.out.b) (i_ : Int) (by omega) (by omega)
         have hrd : rd_T40 l6 (i_ : Int) = l6[i_] := by unfold rd_T40; rw [Int.toNat_natCast, List.getD_eq_getElem?_getD, List.getElem?_eq_getElem hlt]; rfl
         rw [hrd, Int.toNat_natCast] at k0 k1 k2
         have HIN0 := HMB.out.hp l6[i_] (List.getElem_mem hlt)
         have HN : Aside0 (((l6.take (i_ + 1)).foldl (setK pK) (l5.foldl (setK cK) (l4.foldl (setK oK2) (l2.foldl (setK idK) (List.replicate ns false))))) = (((l6.take i_).foldl (setK pK) (l5.foldl (setK cK) (l4.foldl (setK oK2) (l2.foldl (setK idK) (List.replicate ns false)))))).set (pK l6[i_]).toNat true) := ⟨foldl_next (setK pK) _ l6 i_ hlt⟩
         generalize l6[i_] = x_ at HN HIN0 k0 k1 k2
         obtain ⟨x0, x1, x2⟩ := x_
         have HIN : 0 ≤ x2 ∧ x2 < n := HIN0.2.1
         change Aside0 (_ = (_ : List Bool).set (x2).toNat true) at HN
         clear HIN0 hrd
         generalize ((l6.take i_).foldl (setK pK) (l5.foldl (setK cK) (l4.foldl (setK oK2) (l2.foldl (setK idK) (List.replicate ns false))))) = at_ at HN HE
         have t1 := eq_true (show (i_ : Int) < (l6.length : Int) by omega)
         have t2 := eq_true (show (0 : Int) ≤ (i_ : Int) by omega)
         have hxn : x2 < (ns : Int) := by have := HNN.out; omega
         have t4 := eq_true HIN.1
         have t5 := eq_true hxn
         obtain ⟨y1_, y2_⟩ := Kd.R_celln false HE.out.s x2 HIN.1 hxn
         subst eA
         clear hlt HIN hxn
         go_wp2
         go_roundg (l6.length - (i_ + 1))
         case measure => have := Hi.out; have := HLT.out; omega
         case rel => exact ⟨i_ + 1, by first | rfl | rw [show wrap64 ((i_ : Int) + 1) = ((i_ + 1 : Nat) : Int) by have := HLT.out; have := HLN.out; unfold wrap64; omega], ⟨HLT.out, Nat.le_refl _⟩, ⟨by rw [HN.out]; exact HE.out.putS x2⟩⟩
        ·have e4 : l6.take i_ = l6 := List.take_of_length_le (by omega)
         rw [e4] at HE
         have t1 := eq_false (show ¬ (i_ : Int) < (l6.length : Int) by omega)
         clear hlt e4 Hi
         go_upto_region 24 with (fail)
         clear b6 t1
         have t1 : True := trivial
         have HAT : Aside0 (∀ x : Int, 0 ≤ x → x < n → rdOf false (l6.foldl (setK pK) (l5.foldl (setK cK) (l4.foldl (setK oK2) (l2.foldl (setK idK) (List.replicate ns false))))) x = true) := ⟨by rw [HNS.out.1]; exact reach_at HL.out⟩
         have HUP : Aside0 (∀ x : Int, 1 ≤ x → x ≤ g → rdOf false (l4.foldl (setK oK3) (List.replicate nm false)) x = true) := ⟨by rw [HNS.out.2]; exact reach_up HL.out⟩
         generalize (l6.foldl (setK pK) (l5.foldl (setK cK) (l4.foldl (setK oK2) (l2.foldl (setK idK) (List.replicate ns false))))) = at_ at HE HAT
         generalize (l4.foldl (setK oK3) (List.replicate nm false)) = up at HE HUP
         have b0 := (blk_cell (blk_below HA.out HE.out.b) 0).trans (show (#[.int .i64 n, .int .i64 g, .slice Y2 l2.length y2, .slice Y3 l3.length y3, .slice Y4 l4.length y4, .slice Y5 l5.length y5, .slice Y6 l6.length y6] : Array Value)[0]? = some (.int .i64 n) from rfl)
         go_wp2
         clear b0 t1
         go_loopg [15] 20000 (fun gk v15 w' => ∃ i_ : Nat, v15 = .int .i64 (i_ : Int) ∧ Aside0 (0 ≤ i_ ∧ (i_ : Int) ≤ n ∧ 20000 - i_ ≤ gk) ∧ Aside0 (AtR wb w' bs ns cs bm nm cm at_ up))
         case atStart => exact ⟨0, rfl, ⟨by have := HNG.out; omega, by have := HNG.out; omega, by omega⟩, HE⟩
         case round =>
          clear HE
          obtain ⟨i_, rfl, Hi, HE⟩ := hrel
          try clear wq
          obtain ⟨wq, rfl⟩ : ∃ wq : World, wq = wr := ⟨_, rfl⟩
          have b0 := (blk_cell (blk_below HA.out HE.out.b) 0).trans (show (#[.int .i64 n, .int .i64 g, .slice Y2 l2.length y2, .slice Y3 l3.length y3, .slice Y4 l4.length y4, .slice Y5 l5.length y5, .slice Y6 l6.length y6] : Array Value)[0]? = some (.int .i64 n) from rfl)
          by_cases hlt : (i_ : Int) < n
          ·have HLT := Aside0.mk hlt
           have hf := HAT.out (i_ : Int) (by omega) hlt
           obtain ⟨y1_, y2_⟩ := Kd.R_celln false HE.out.s (i_ : Int) (by omega) (by have := HNN.out; have := HLT.out; omega)
           rw [hf] at y1_
           rw [Int.toNat_natCast] at y1_ y2_
           have t1 := eq_true hlt
           have t2 := eq_true (show (0 : Int) ≤ (i_ : Int) by omega)
           have t3 := eq_true (show (i_ : Int) < (ns : Int) by have := HNN.out; have := HLT.out; omega)
           clear hlt hf
           go_wp2
           go_roundg (20000 - (i_ + 1))
           case measure => have := Hi.out; have := HLT.out; have := HNG.out; omega
           case rel => exact ⟨i_ + 1, by first | rfl | rw [show wrap64 ((i_ : Int) + 1) = ((i_ + 1 : Nat) : Int) by have := HLT.out; have := HNG.out; unfold wrap64; omega], ⟨by omega, by have := HLT.out; omega, Nat.le_refl _⟩, HE⟩
          ·have t1 := eq_false hlt
           clear hlt Hi
           go_upto_region 29 with (fail)
           clear b0 t1
           have t1 : True := trivial
           have b1 := (blk_cell (blk_below HA.out HE.out.b) 1).trans (show (#[.int .i64 n, .int .i64 g, .slice Y2 l2.length y2, .slice Y3 l3.length y3, .slice Y4 l4.length y4, .slice Y5 l5.length y5, .slice Y6 l6.length y6] : Array Value)[1]? = some (.int .i64 g) from rfl)
           go_wp2
           clear b1 t1
           go_loopg [16] 20000 (fun gk v16 w' => ∃ i_ : Nat, v16 = .int .i64 (i_ : Int) ∧ Aside0 (1 ≤ i_ ∧ (i_ : Int) ≤ g + 1 ∧ 20000 - i_ ≤ gk) ∧ Aside0 (AtR wb w' bs ns cs bm nm cm at_ up))
           case atStart => exact ⟨1, rfl, ⟨by have := HNG.out; omega, by have := HNG.out; omega, by omega⟩, HE⟩
           case round =>
            clear HE
            obtain ⟨i_, rfl, Hi, HE⟩ := hrel
            try clear wq
            obtain ⟨wq, rfl⟩ : ∃ wq : World, wq = wr := ⟨_, rfl⟩
            have b1 := (blk_cell (blk_below HA.out HE.out.b) 1).trans (show (#[.int .i64 n, .int .i64 g, .slice Y2 l2.length y2, .slice Y3 l3.length y3, .slice Y4 l4.length y4, .slice Y5 l5.length y5, .slice Y6 l6.length y6] : Array Value)[1]? = some (.int .i64 g) from rfl)
            by_cases hlt : (i_ : Int) ≤ g
            ·have HLT := Aside0.mk hlt
             have hf := HUP.out (i_ : Int) (by have := Hi.out; omega) hlt
             obtain ⟨y1_, y2_⟩ := Kd.R_celln false HE.out.m (i_ : Int) (by omega) (by have := HNN.out; have := HLT.out; omega)
             rw [hf] at y1_
             rw [Int.toNat_natCast] at y1_ y2_
             have t1 := eq_true hlt
             have t2 := eq_true (show (0 : Int) ≤ (i_ : Int) by omega)
             have t3 := eq_true (show (i_ : Int) < (nm : Int) by have := HNN.out; have := HLT.out; omega)
             clear hlt hf
             go_wp2
             go_roundg (20000 - (i_ + 1))
             case measure => have := Hi.out; have := HLT.out; have := HNG.out; omega
             case rel => exact ⟨i_ + 1, by first | rfl | rw [show wrap64 ((i_ : Int) + 1) = ((i_ + 1 : Nat) : Int) by have := HLT.out; have := HNG.out; unfold wrap64; omega], ⟨by omega, by have := HLT.out; omega, Nat.le_refl _⟩, HE⟩
            ·have t1 := eq_false hlt
             clear hlt Hi
             skip
             have HBE := Aside0.mk (below_then HWW.out HWW.out.size HE.out.b)
             go_wp2
             go_ret
             exact ⟨rfl, HBE.out⟩
theorem canopylaw3_AutoReached.walk (P : canopylaw3_AutoReached.Pure) (a0 : Int) (a1 : Int) (a2 : Option Addr) (len2 cap2 : Nat) (z2 : List Int) (w : World) (w0 : (Lit.int .i64 a0).wf = true) (w1 : (Lit.int .i64 a1).wf = true) (w2 : (a2 = none ∧ len2 = 0 ∧ cap2 = 0 ∧ z2 = []) ∨ ∃ x, a2 = some x ∧ len2 ≤ cap2 ∧ cap2 ≤ maxLen ∧ z2.length = cap2 ∧ (∀ i, i < z2.length → w.cell? (x.add i) = some (.int .i64 (z2.getD i 0))) ∧ ∀ n ∈ z2, (Lit.int .i64 n).wf = true) (y2 : len2 * 8 ≤ 140737488351232) :
 Calls Tryz.prog 10 #[.int .i64 a0, .int .i64 a1, .slice a2 len2 cap2] w fun e w' => e = .returned (.bool true) ∧ Below w.heap.size w w' := by
 obtain ⟨l2, rfl, hr2, hm2, hw2, hc2⟩ := ReadsInt.ofRowC w2
 exact reached_walk a0 a1 _ _ l2 w (Kd.C_of_reads (d := (0 : Int)) (h1 := fun _ => rfl) hr2) hc2 hm2
end Go.Proofs.YtejpijgfpbcibaaGreat.P
