/- Words and walks of this claim: LChecks. -/
import Derived.Test.YtejpijgfpbcibaaGreatQMAuto
import Derived.Test.YtejpijgfpbcibaaGreatQSKnown3
import Derived.Test.YtejpijgfpbcibaaGreatQSRefCheck
import Derived.Deep.CutBlock
set_option linter.unusedVariables false
set_option linter.unusedSimpArgs false
set_option linter.unnecessarySimpa false
namespace Go.Proofs.YtejpijgfpbcibaaGreat.P
open Go.RowKit Go.Sort Go.Shelf Go.Proofs.YtejpijgfpbcibaaGreatW.PrintWords Go.Proofs.YtejpijgfpbcibaaGreatW.PrintLast Go.Proofs.YtejpijgfpbcibaaGreatW.PrintMore Go.Proofs.YtejpijgfpbcibaaGreat.M
theorem within_lt0 {a n : Int} (hn : 0 < n) (hn2 : n < 1000) : ∃ t : Int, canopylaw3_within.f a n = some t ∧ 0 ≤ t ∧ t < n := ⟨a % n, within3_eq hn (by omega), Int.emod_nonneg _ (by omega), Int.emod_lt_of_pos _ hn⟩
theorem check_some (l : List SSym) (N G : Int) {r2 r3 : List Int} {r4 : List TOpen} {r5 : List TClose} {r6 : List TInner} (h : l.length ≤ 1000 ∧ r2.length ≤ 1000 ∧ r3.length ≤ 1000 ∧ r4.length ≤ 1000 ∧ r5.length ≤ 1000 ∧ r6.length ≤ 1000) : ∃ c, auto_Check.f l N G r2 r3 r4 r5 r6 = some c := by
 unfold auto_Check.f
 rw [if_pos (by omega)]
 exact ⟨_, rfl⟩
def canopylaw3_AutoChecks.Pure : Prop := True
set_option maxHeartbeats 16000000 in
set_option maxRecDepth 100000 in
theorem checks_walk (a0 a1 : Int) (A2 : Option Addr) (c2 : Nat) (ns : List Int) (a3 a4 a5 : Int) (w : World) (hr2 : Kd.C (Kd.int .i64) w A2 ns.length ns) (hc2 : ns.length ≤ c2) (hm2 : ns.length ≤ maxLen) :
 Calls Tryz.prog 3 #[.int .i64 a0, .int .i64 a1, .slice A2 ns.length c2, .int .i64 a3, .int .i64 a4, .int .i64 a5] w fun e w' => e = .returned (.bool true) ∧ Below w.heap.size w w' := by
 obtain ⟨S, hS, hOk⟩ : ∃ S, canopylaw1_Syms.f a0 ns = some S ∧ symOk S := ⟨_, syms_eq a0 ns hm2, symsL_ok a0 ns⟩
 have hmade := made_ok hOk a1 ns (most := 4) (by decide) (by decide)
 have hlen := (mkAll_inv hOk (N := makeN a1 4) (G := makeG a1) (by have := makeN_in a1 (most := 4) (by decide); omega) (by have := makeG_in a1; omega) ns).2
 have HF := Aside0.mk (And.intro hS (And.intro hOk hmade))
 have HI2 := Aside0.mk (And.intro hr2 hc2)
 have HLEN := Aside0.mk hlen
 clear hS hOk hmade hr2 hc2 hm2 hlen
 go_enter Tryz.func3, Tryz.ntmps3
 go_wp2_with fail
 refine (canopylaw3_known.calls true _ rfl).mono ?_
 rintro e w1 ⟨rfl, hb1⟩
 have HB1 := Aside0.mk hb1
 clear hb1
 go_wp2_with fail
 refine (canopylaw1_Syms.calls a0 A2 c2 ns S _ (Kd.C_below HI2.out.1 HB1.out) HI2.out.2 HF.out.1).mono ?_
 rintro e w2 ⟨v1, rfl, hr1, hb2⟩
 obtain ⟨AS, cS, eS, lS, gS⟩ := Kd.R_reads hr1
 subst eS
 have HS := Aside0.mk gS
 have LS : Aside0 (S.length ≤ cS) := ⟨lS⟩
 have HB2 := Aside0.mk (below_then HB1.out HB1.out.size hb2)
 clear hr1 hb2 gS lS HB1
 go_wp2_with fail
 refine (make_own AS cS S a1 A2 c2 ns 4 _ HS.out LS.out (Kd.C_below HI2.out.1 HB2.out) HF.out.2.1 (by decide) (by decide)).mono ?_
 rintro e w3 ⟨v2, v3, v4, v5, v6, rfl, hv, hb3⟩
 obtain ⟨st, hst⟩ : ∃ st, st = mkAll S (makeN a1 4) (makeG a1) ns := ⟨_, rfl⟩
 rw [← hst] at HF HLEN hv
 obtain ⟨N, hN⟩ : ∃ N, N = makeN a1 4 := ⟨_, rfl⟩
 obtain ⟨G, hG⟩ : ∃ G, G = makeG a1 := ⟨_, rfl⟩
 rw [← hN, ← hG] at HF hv ⊢
 have HO : Aside0 (OutR (w3.alloc (.cells #[.int .i64 N, .int .i64 G, v2, v3, v4, v5, v6] 30)) w2 w3.heap.size (.int .i64 N) (.int .i64 G) v2 v3 v4 v5 v6 (mkI st) st.f st.o st.c st.n) := ⟨OutR.of_V hv hb3 _ _⟩
 clear hst hN hG hv hb3
 obtain ⟨i, hi⟩ : ∃ i, i = mkI st := ⟨_, rfl⟩
 have HLI : Aside0 (i.length ≤ 25 ∧ st.f.length ≤ 25 ∧ st.o.length ≤ 25 ∧ st.c.length ≤ 25 ∧ st.n.length ≤ 25 ∧ S.length ≤ 7) := ⟨by have h1 := mkI_len HLEN.out; rw [← hi] at h1; have h2 := HLEN.out; unfold MkLen at h2; exact ⟨h1, by omega, by omega, by omega, by omega, HF.out.2.1.2.1⟩⟩
 rw [← hi] at HF HO
 clear hi HLEN
 have q2 := HO.out.r2
 have q3 := HO.out.r3
 have q4 := HO.out.r4
 have q5 := HO.out.r5
 have q6 := HO.out.r6
 obtain ⟨Z2, z2, rfl⟩ := Kd.R_slice q2
 obtain ⟨Z3, z3, rfl⟩ := Kd.R_slice q3
 obtain ⟨Z4, z4, rfl⟩ := Kd.R_slice q4
 obtain ⟨Z5, z5, rfl⟩ := Kd.R_slice q5
 obtain ⟨Z6, z6, rfl⟩ := Kd.R_slice q6
 clear q2 q3 q4 q5 q6
 go_upto_region 5 with (fail)
 obtain ⟨wq, hwq⟩ : ∃ wq : World, wq = w3.alloc (.cells #[.int .i64 N, .int .i64 G, .slice Z2 i.length z2, .slice Z3 st.f.length z3, .slice Z4 st.o.length z4, .slice Z5 st.c.length z5, .slice Z6 st.n.length z6] 30) := ⟨_, rfl⟩
 obtain ⟨go, hgo⟩ : ∃ go, go = w3.heap.size := ⟨_, rfl⟩
 rw [← hwq, ← hgo] at HO ⊢
 clear hwq hgo
 obtain ⟨b0, b1, b2, b3, b4, b5, b6, _⟩ := auto_cells HO.out.t
 go_wp2_with fail
 refine (auto_Check.calls AS cS S N G Z2 z2 i Z3 z3 st.f Z4 z4 st.o Z5 z5 st.c Z6 z6 st.n 0 _ (Kd.C_below HS.out HO.out.b) LS.out (Kd.R_reads' HO.out.r2).2.2 (Kd.R_reads' HO.out.r2).2.1 (Kd.R_reads' HO.out.r3).2.2 (Kd.R_reads' HO.out.r3).2.1 (Kd.R_reads' HO.out.r4).2.2 (Kd.R_reads' HO.out.r4).2.1 (Kd.R_reads' HO.out.r5).2.2 (Kd.R_reads' HO.out.r5).2.1 (Kd.R_reads' HO.out.r6).2.2 (Kd.R_reads' HO.out.r6).2.1 HF.out.2.2).mono ?_
 rintro e w5 ⟨rfl, hb5⟩
 have HO1 := Aside0.mk (HO.out.below hb5)
 clear HO hb5 b0 b1 b2 b3 b4 b5 b6
 have HO := HO1
 clear HO1
 try clear wq
 obtain ⟨wq, rfl⟩ : ∃ wq : World, wq = w5 := ⟨_, rfl⟩
 go_upto_region 7 with (fail)
 obtain ⟨v2, hv2⟩ : ∃ v : Value, v = .slice Z2 i.length z2 := ⟨_, rfl⟩
 obtain ⟨v3, hv3⟩ : ∃ v : Value, v = .slice Z3 st.f.length z3 := ⟨_, rfl⟩
 obtain ⟨v4, hv4⟩ : ∃ v : Value, v = .slice Z4 st.o.length z4 := ⟨_, rfl⟩
 obtain ⟨v5, hv5⟩ : ∃ v : Value, v = .slice Z5 st.c.length z5 := ⟨_, rfl⟩
 obtain ⟨v6, hv6⟩ : ∃ v : Value, v = .slice Z6 st.n.length z6 := ⟨_, rfl⟩
 rw [← hv2, ← hv3, ← hv4, ← hv5, ← hv6] at HO
 clear hv2 hv3 hv4 hv5 hv6
 obtain ⟨t, ht, t0, t1⟩ := within_lt0 (a := a5) (n := 11) (by decide) (by decide)
 have HTI := Aside0.mk (And.intro ht (And.intro t0 t1))
 clear ht t0 t1
 go_cut [15] (fun v15 wc => ∃ x : Int, v15 = .int .i64 x ∧ Aside0 (OutR wc w2 go (.int .i64 N) (.int .i64 G) v2 v3 v4 v5 v6 i st.f st.o st.c st.n))
 case first =>
  go_wp2_with fail
  refine (canopylaw3_within.calls a5 11 t _ HTI.out.1).mono ?_
  rintro e w6 ⟨rfl, hd⟩
  have HX : Aside0 (Kd.C (Kd.int .i64) w6 (some ⟨wq.heap.size, 0, none⟩) 11 [-1, 0, 1, 2, 3, 4, 200, 201, 10000, 10001, a5]) := ⟨Kd.C_below (reads_laid (t := 3) (fun x => [Value.int .i64 x]) [-1, 0, 1, 2, 3, 4, 200, 201, 10000, 10001, a5] (fun _ _ => rfl) (by simp) (blk_newAt _ rfl)) hd.below⟩
  have HO1 : Aside0 (OutR w6 w2 go (.int .i64 N) (.int .i64 G) v2 v3 v4 v5 v6 i st.f st.o st.c st.n) := ⟨(HO.out.below (below_alloc (Below.refl _ _) (.cells #[.int .i64 (-1), .int .i64 0, .int .i64 1, .int .i64 2, .int .i64 3, .int .i64 4, .int .i64 200, .int .i64 201, .int .i64 10000, .int .i64 10001, .int .i64 a5] 3))).below hd.below⟩
  clear hd
  obtain ⟨AL, hAL⟩ : ∃ AL : Option Addr, AL = some ⟨wq.heap.size, 0, none⟩ := ⟨_, rfl⟩
  rw [← hAL] at HX ⊢
  clear hAL HO
  obtain ⟨xs, hxs⟩ : ∃ xs : List Int, xs = [-1, 0, 1, 2, 3, 4, 200, 201, 10000, 10001, a5] := ⟨_, rfl⟩
  have hxl : xs.length = 11 := by rw [hxs]; rfl
  rw [← hxs] at HX
  clear hxs
  obtain ⟨tn, htn⟩ : ∃ tn : Nat, t = (tn : Int) := ⟨t.toNat, by have := HTI.out.2.1; omega⟩
  subst htn
  rw [← hxl] at HX
  obtain ⟨ad, eA, cx⟩ := int_at HX.out tn (by have := HTI.out.2.2; omega)
  generalize xs[tn]'(by have := HTI.out.2.2; omega) = x at cx
  subst eA
  have s1 := eq_true (show (0 : Int) ≤ (tn : Int) by omega)
  have s2 := eq_true (show (tn : Int) < 11 by have := HTI.out.2.2; omega)
  have s3 := eq_true (show ((tn : Int) < ((11 : Nat) : Int)) by have := HTI.out.2.2; omega)
  go_wp2
  go_meet
  case rel => exact ⟨x, rfl, HO1⟩
 case rest =>
  obtain ⟨x, rfl, HOc⟩ := hcut
  clear HO
  have HO := HOc
  clear HOc
  try clear wq
  obtain ⟨wq, rfl⟩ : ∃ wq : World, wq = wc := ⟨_, rfl⟩
  obtain ⟨d, hd, d0, d1⟩ := within_lt0 (a := a3) (n := 12) (by decide) (by decide)
  have HD := Aside0.mk (And.intro d0 d1)
  go_wp2_with fail
  refine (canopylaw3_within.calls a3 12 d _ hd).mono ?_
  rintro e w6 ⟨rfl, hd6⟩
  have HO1 := Aside0.mk (HO.out.below hd6.below)
  clear HO hd6 hd d0 d1
  have HO := HO1
  clear HO1
  try clear wq
  obtain ⟨wq, rfl⟩ : ∃ wq : World, wq = w6 := ⟨_, rfl⟩
  go_upto_block 0 with (fail)
  go_cut [] (fun wc => ∃ (n g : Int) (u2 u3 u4 u5 u6 : Value) (r2 r3 : List Int) (r4 : List TOpen) (r5 : List TClose) (r6 : List TInner), Aside0 (OutR wc w2 go (.int .i64 n) (.int .i64 g) u2 u3 u4 u5 u6 r2 r3 r4 r5 r6) ∧ Aside0 (r2.length ≤ 26 ∧ r3.length ≤ 26 ∧ r4.length ≤ 26 ∧ r5.length ≤ 26 ∧ r6.length ≤ 26))
  case first =>
   have hc : d = 0 ∨ d = 1 ∨ d = 2 ∨ d = 3 ∨ d = 4 ∨ d = 5 ∨ d = 6 ∨ d = 7 ∨ d = 8 ∨ d = 9 ∨ d = 10 ∨ d = 11 := by have := HD.out; omega
   clear HD
   rcases hc with rfl | rfl | rfl | rfl | rfl | rfl | rfl | rfl | rfl | rfl | rfl | rfl
   ·skip
    have b0 := (blk_cell HO.out.t 0).trans (show (#[.int .i64 N, .int .i64 G, v2, v3, v4, v5, v6] : Array Value)[0]? = some (.int .i64 N) from rfl)
    have f1 := blk_frozen HO.out.t 0
    have HO1 := Aside0.mk (HO.out.setN (.int .i64 x))
    go_wp2
    go_meet
    case rel => exact ⟨_, _, _, _, _, _, _, _, _, _, _, _, HO1, ⟨by have := HLI.out; (try simp only [List.length_append, List.length_cons, List.length_nil]); omega⟩⟩
   ·skip
    have b1 := (blk_cell HO.out.t 1).trans (show (#[.int .i64 N, .int .i64 G, v2, v3, v4, v5, v6] : Array Value)[1]? = some (.int .i64 G) from rfl)
    have f1 := blk_frozen HO.out.t 1
    have HO1 := Aside0.mk (HO.out.setG (.int .i64 x))
    go_wp2
    go_meet
    case rel => exact ⟨_, _, _, _, _, _, _, _, _, _, _, _, HO1, ⟨by have := HLI.out; (try simp only [List.length_append, List.length_cons, List.length_nil]); omega⟩⟩
   ·skip
    have b2 := (blk_cell HO.out.t 2).trans (show (#[.int .i64 N, .int .i64 G, v2, v3, v4, v5, v6] : Array Value)[2]? = some (v2) from rfl)
    go_wp2_with ((with_reducible refine gate_builtin (b := .append) (xs := #[.tmp 48, .tmp 50]) rfl ?_); at_builtin; go_loud (refine Kd.R_append (Kd.int .i64) (w0 := w2) w2.heap.size rfl (.tmp 48) (.tmp 50) 22 3 (.int .i64 0) 8 rfl Tryz.underlying22 infoInt rfl (by decide) (by decide) v2 i (x) [.int .i64 x] (fun k => some k = (v2 : Value).ownBlock ∨ wq.heap.size ≤ k) (fun _ => False) rfl rfl rfl (fun _ h => h.elim) (fun k h => .inr h) (Kd.R_mono HO.out.r2 (fun k h => .inl h)) HO.out.b HO.out.b.size ?ql ?_); (case ql => have := HLI.out; omega); intro v1 w7 hr1 hb1 hg1 hat1; obtain ⟨A1, m1, k1, rfl⟩ := slice3 hr1; have HO1 := Aside0.mk (HO.out.app2 hr1 hb1 hg1 hat1); have HT1 := Aside0.mk (blk_grown HO.out.t hg1 (Kd.R_ne HO.out.r2 HO.out.t (by decide))); have hc2 := (blk_cell HT1.out 2).trans (show (#[Value.int .i64 N, .int .i64 G, v2, v3, v4, v5, v6] : Array Value)[2]? = some v2 from rfl); have hf2 := blk_frozen HT1.out 2; clear hr1 hb1 hg1 hat1)
    go_wp2
    go_meet
    case rel => exact ⟨_, _, _, _, _, _, _, _, _, _, _, _, HO1, ⟨by have := HLI.out; (try simp only [List.length_append, List.length_cons, List.length_nil]); omega⟩⟩
   ·skip
    have b3 := (blk_cell HO.out.t 3).trans (show (#[.int .i64 N, .int .i64 G, v2, v3, v4, v5, v6] : Array Value)[3]? = some (v3) from rfl)
    go_wp2_with ((with_reducible refine gate_builtin (b := .append) (xs := #[.tmp 56, .tmp 58]) rfl ?_); at_builtin; go_loud (refine Kd.R_append (Kd.int .i64) (w0 := w2) w2.heap.size rfl (.tmp 56) (.tmp 58) 22 3 (.int .i64 0) 8 rfl Tryz.underlying22 infoInt rfl (by decide) (by decide) v3 st.f (x) [.int .i64 x] (fun k => some k = (v3 : Value).ownBlock ∨ wq.heap.size ≤ k) (fun _ => False) rfl rfl rfl (fun _ h => h.elim) (fun k h => .inr h) (Kd.R_mono HO.out.r3 (fun k h => .inl h)) HO.out.b HO.out.b.size ?ql ?_); (case ql => have := HLI.out; omega); intro v1 w7 hr1 hb1 hg1 hat1; obtain ⟨A1, m1, k1, rfl⟩ := slice3 hr1; have HO1 := Aside0.mk (HO.out.app3 hr1 hb1 hg1 hat1); have HT1 := Aside0.mk (blk_grown HO.out.t hg1 (Kd.R_ne HO.out.r3 HO.out.t (by decide))); have hc2 := (blk_cell HT1.out 3).trans (show (#[Value.int .i64 N, .int .i64 G, v2, v3, v4, v5, v6] : Array Value)[3]? = some v3 from rfl); have hf2 := blk_frozen HT1.out 3; clear hr1 hb1 hg1 hat1)
    go_wp2
    go_meet
    case rel => exact ⟨_, _, _, _, _, _, _, _, _, _, _, _, HO1, ⟨by have := HLI.out; (try simp only [List.length_append, List.length_cons, List.length_nil]); omega⟩⟩
   ·skip
    obtain ⟨y0, hy0, _, _⟩ := within_lt0 (a := a4) (n := 5) (by decide) (by decide)
    have HY0 := Aside0.mk hy0
    clear hy0
    obtain ⟨y1, hy1, _, _⟩ := within_lt0 (a := wrap64 (Int.tdiv a4 5)) (n := 8) (by decide) (by decide)
    have HY1 := Aside0.mk hy1
    clear hy1
    obtain ⟨y2, hy2, _, _⟩ := within_lt0 (a := wrap64 (Int.tdiv a4 40)) (n := 5) (by decide) (by decide)
    have HY2 := Aside0.mk hy2
    clear hy2
    go_upto_region 18 with (fail)
    refine start_ (n := 16) (S := fun w' => w'.cell? ⟨go, 4, none⟩ = some v4) (ds := [15]) (pm 0 16) (by kernel_rfl) rfl rfl ((blk_cell (blk_drew HO.out.t) 4).trans rfl) (fun hHeld => ?_)
    have HO1 := Aside0.mk (HO.out.below (below_drew (Below.refl _ _)))
    clear HO
    have HO := HO1
    clear HO1
    obtain ⟨wd, hwd⟩ : ∃ wd : World, wd = wq.drew := ⟨_, rfl⟩
    rw [← hwd] at HO hHeld ⊢
    clear hwd
    try clear wq
    obtain ⟨wq, rfl⟩ : ∃ wq : World, wq = wd := ⟨_, rfl⟩
    iterate 3 (first | (refine pn_ (v := ?_) (a' := ?_) rfl (rfl (a := some _)) (by kernel_rfl) (fun _ _ _ h => h) (Or.inl ⟨by rfl, ?_⟩) ?_ ?_; rotate_left; (intro w'; go_simp; with_reducible rfl); rotate_left; (simp only [Act.put, List.setIfInBounds_toArray, List.set_cons_zero, List.set_cons_succ, i64_w, i32_w]; rfl)) | (refine tn_ (v := ?_) (a' := ?_) rfl (rfl (a := some _)) (by kernel_rfl) (fun _ _ _ h => h) (Or.inl ⟨by rfl, ?_⟩) hHeld ?_ ?_; rotate_left; (intro w' hS_; have s0 := hS_; go_simp; with_reducible rfl); rotate_left; (simp only [Act.put, List.setIfInBounds_toArray, List.set_cons_zero, List.set_cons_succ, i64_w, i32_w]; rfl)))
    refine po_ 4 (v := ?_) (a' := ?_) rfl (rfl (a := some _)) (by kernel_rfl) (fun _ _ _ h => h) (Or.inl ⟨by rfl, ?_⟩) ?_ ?_; rotate_left; (intro w'; go_simp; with_reducible rfl); rotate_left; (simp only [Act.put, List.setIfInBounds_toArray, List.set_cons_zero, List.set_cons_succ, i64_w, i32_w]; rfl)
    refine po_ 5 (v := ?_) (a' := ?_) rfl (rfl (a := some _)) (by kernel_rfl) (fun _ _ _ h => h) (Or.inl ⟨by rfl, ?_⟩) ?_ ?_; rotate_left; (intro w'; go_simp; with_reducible rfl); rotate_left; (simp only [Act.put, List.setIfInBounds_toArray, List.set_cons_zero, List.set_cons_succ, i64_w, i32_w]; rfl)
    refine po_ 7 (v := ?_) (a' := ?_) rfl (rfl (a := some _)) (by kernel_rfl) (fun _ _ _ h => h) (Or.inl ⟨by rfl, ?_⟩) ?_ ?_; rotate_left; (intro w'; go_simp; with_reducible rfl); rotate_left; (simp only [Act.put, List.setIfInBounds_toArray, List.set_cons_zero, List.set_cons_succ, i64_w, i32_w]; rfl)
    refine po_ 8 (v := ?_) (a' := ?_) rfl (rfl (a := some _)) (by kernel_rfl) (fun _ _ _ h => h) (Or.inl ⟨by rfl, ?_⟩) ?_ ?_; rotate_left; (intro w'; go_simp; with_reducible rfl); rotate_left; (simp only [Act.put, List.setIfInBounds_toArray, List.set_cons_zero, List.set_cons_succ, i64_w, i32_w]; rfl)
    refine po_ 10 (v := ?_) (a' := ?_) rfl (rfl (a := some _)) (by kernel_rfl) (fun _ _ _ h => h) (Or.inl ⟨by rfl, ?_⟩) ?_ ?_; rotate_left; (intro w'; go_simp; with_reducible rfl); rotate_left; (simp only [Act.put, List.setIfInBounds_toArray, List.set_cons_zero, List.set_cons_succ, i64_w, i32_w]; rfl)
    refine one_ (i := 3) (N := (some 66)) #[true, true, true, true, true, true, false, true, true, false, true, false, false, false, false, false] rfl rfl (by kernel_rfl) (by decide) (fun K hK => ?_)
    refine goes_ Tryz.func16 (by kernel_rfl) rfl #[.int .i64 (a4), .int .i64 5] rfl rfl rfl (by (try simp only [List.map_toArray, List.map_cons, List.map_nil]); rfl) ?_
    refine (canopylaw3_within.calls (a4) 5 y0 _ HY0.out).mono ?_
    rintro e we ⟨rfl, hd⟩
    have HO1 := Aside0.mk (HO.out.below hd.below)
    clear HO hd
    have HO := HO1
    clear HO1
    refine ⟨_, rfl, ?_⟩
    clear hHeld
    refine hK.out _ _ ((blk_cell HO.out.t 4).trans rfl) (fun hHeld => ?_)
    clear hK K
    obtain ⟨wq, rfl⟩ : ∃ wq : World, wq = we := ⟨_, rfl⟩
    refine norm_ (a' := ?_) ?_ ?_
    rotate_left
    ·show Act.put _ (some 66) _ = _
     simp only [Act.put, List.setIfInBounds_toArray, List.set_cons_zero, List.set_cons_succ, i64_w, i32_w]
     rfl
    refine one_ (i := 6) (N := (some 69)) #[true, true, true, true, true, true, true, true, true, false, true, false, false, false, false, false] rfl rfl (by kernel_rfl) (by decide) (fun K hK => ?_)
    refine goes_ Tryz.func16 (by kernel_rfl) rfl #[.int .i64 (wrap64 (Int.tdiv a4 5)), .int .i64 8] rfl rfl rfl (by (try simp only [List.map_toArray, List.map_cons, List.map_nil]); rfl) ?_
    refine (canopylaw3_within.calls (wrap64 (Int.tdiv a4 5)) 8 y1 _ HY1.out).mono ?_
    rintro e we ⟨rfl, hd⟩
    have HO1 := Aside0.mk (HO.out.below hd.below)
    clear HO hd
    have HO := HO1
    clear HO1
    refine ⟨_, rfl, ?_⟩
    clear hHeld
    refine hK.out _ _ ((blk_cell HO.out.t 4).trans rfl) (fun hHeld => ?_)
    clear hK K
    obtain ⟨wq, rfl⟩ : ∃ wq : World, wq = we := ⟨_, rfl⟩
    refine norm_ (a' := ?_) ?_ ?_
    rotate_left
    ·show Act.put _ (some 69) _ = _
     simp only [Act.put, List.setIfInBounds_toArray, List.set_cons_zero, List.set_cons_succ, i64_w, i32_w]
     rfl
    refine one_ (i := 9) (N := (some 72)) (pm 11 5) rfl rfl (by kernel_rfl) (by decide) (fun K hK => ?_)
    refine goes_ Tryz.func16 (by kernel_rfl) rfl #[.int .i64 (wrap64 (Int.tdiv a4 40)), .int .i64 5] rfl rfl rfl (by (try simp only [List.map_toArray, List.map_cons, List.map_nil]); rfl) ?_
    refine (canopylaw3_within.calls (wrap64 (Int.tdiv a4 40)) 5 y2 _ HY2.out).mono ?_
    rintro e we ⟨rfl, hd⟩
    have HO1 := Aside0.mk (HO.out.below hd.below)
    clear HO hd
    have HO := HO1
    clear HO1
    refine ⟨_, rfl, ?_⟩
    clear hHeld
    refine hK.out _ _ ((blk_cell HO.out.t 4).trans rfl) (fun hHeld => ?_)
    clear hK K
    obtain ⟨wq, rfl⟩ : ∃ wq : World, wq = we := ⟨_, rfl⟩
    refine norm_ (a' := ?_) ?_ ?_
    rotate_left
    ·show Act.put _ (some 72) _ = _
     simp only [Act.put, List.setIfInBounds_toArray, List.set_cons_zero, List.set_cons_succ, i64_w, i32_w]
     rfl
    refine pn_ (v := ?_) (a' := ?_) rfl (rfl (a := some _)) (by kernel_rfl) (fun _ _ _ h => h) (Or.inl ⟨by rfl, ?_⟩) ?_ ?_; rotate_left; (intro w'; go_simp; with_reducible rfl); rotate_left; (simp only [Act.put, List.setIfInBounds_toArray, List.set_cons_zero, List.set_cons_succ, i64_w, i32_w]; rfl)
    refine one_ (i := 12) (N := (some 75)) (pm 13 3) rfl rfl (by kernel_rfl) (by decide) (fun K hK => ?_)
    refine step_run (v := .slice (some ⟨wq.heap.size, 0, none⟩) 1 1) (w1 := wq.alloc (.cells #[.int .i64 y0, .int .i64 y1, .int .i64 y2, .int .i64 x] 36)) rfl (by go_simp) ?_
    clear hHeld
    refine hK.out _ _ ((blk_cell (blk_old HO.out.t (.cells #[.int .i64 y0, .int .i64 y1, .int .i64 y2, .int .i64 x] 36)) 4).trans rfl) (fun hHeld => ?_)
    clear hK K
    refine norm_ (a' := ?_) ?_ ?_
    rotate_left
    ·show Act.put _ (some 75) _ = _
     simp only [Act.put, List.setIfInBounds_toArray, List.set_cons_zero, List.set_cons_succ, i64_w, i32_w]
     rfl
    refine one_ (i := 13) (N := (some 76)) (pm 14 2) rfl rfl (by kernel_rfl) (by decide) (fun K hK => ?_)
    refine Kd.R_append_step k36 (w0 := w2) w2.heap.size rfl (.tmp 64) (.tmp 75) 26 36 (.agg #[.int .i64 0, .int .i64 0, .int .i64 0, .int .i64 0]) 32 rfl Tryz.underlying26 infoOpen rfl (by decide) (by decide) v4 st.o (⟨ y0,  y1,  y2,  x⟩) [.int .i64 y0, .int .i64 y1, .int .i64 y2, .int .i64 x] (fun k => some k = (v4 : Value).ownBlock ∨ wq.heap.size ≤ k) (fun _ => False) rfl rfl (k36_mkM _ _ _ _) (fun _ h => h.elim) (fun k h => .inr h) (Kd.R_mono HO.out.r4 (fun k h => .inl h)) HO.out.b HO.out.b.size ?ql ?_
    case ql => have := HLI.out; omega
    intro v1 w7 hr1 hb1 hg1 hat1
    obtain ⟨A1, m1, k1, rfl⟩ := slice3 hr1
    have HO1 := Aside0.mk (HO.out.app4 hr1 hb1 hg1 hat1)
    have HT1 := Aside0.mk (blk_grown HO.out.t hg1 (Kd.R_ne HO.out.r4 HO.out.t (by decide)))
    clear hr1 hb1 hg1 hat1 HO
    clear hHeld
    refine hK.out _ _ ((blk_cell HT1.out 4).trans rfl) (fun hHeld => ?_)
    clear hK K
    refine norm_ (a' := ?_) ?_ ?_
    rotate_left
    ·show Act.put _ (some 76) _ = _
     simp only [Act.put, List.setIfInBounds_toArray, List.set_cons_zero, List.set_cons_succ, i64_w, i32_w]
     rfl
    refine pn_ (v := ?_) (a' := ?_) rfl (rfl (a := some _)) (by kernel_rfl) (fun _ _ _ h => h) (Or.inl ⟨by rfl, ?_⟩) ?_ ?_; rotate_left; (intro w'; go_simp; with_reducible rfl); rotate_left; (simp only [Act.put, List.setIfInBounds_toArray, List.set_cons_zero, List.set_cons_succ, i64_w, i32_w]; rfl)
    refine last_ (i := 15) (N := none) (pm 16 0) rfl rfl (by kernel_rfl) (by decide) (fun K hK => ?_)
    have hc2 := (blk_cell HT1.out 4).trans (show (#[Value.int .i64 N, .int .i64 G, v2, v3, v4, v5, v6] : Array Value)[4]? = some v4 from rfl)
    have hf2 := blk_frozen HT1.out 4
    refine Go.Proofs.YtejpijgfpbcibaaGreat.M.step_skip (w1 := w7.setCell ⟨go, 4, none⟩ (.slice A1 m1 k1)) rfl rfl (by go_simp) ?_
    clear hc2 hf2 HT1 hHeld
    refine hK.out _ _ ?_
    clear hK K
    refine done_ (by kernel_rfl) ?_
    go_wp2
    go_meet
    case rel => exact ⟨_, _, _, _, _, _, _, _, _, _, _, _, HO1, ⟨by have := HLI.out; (try simp only [List.length_append, List.length_cons, List.length_nil]); omega⟩⟩
   ·skip
    have b4 := (blk_cell HO.out.t 4).trans (show (#[.int .i64 N, .int .i64 G, v2, v3, v4, v5, v6] : Array Value)[4]? = some (v4) from rfl)
    go_wp2_with ((with_reducible refine gate_builtin (b := .append) (xs := #[.tmp 81, .tmp 84]) rfl ?_); at_builtin; go_loud (refine Kd.R_append k36 (w0 := w2) w2.heap.size rfl (.tmp 81) (.tmp 84) 26 36 (.agg #[.int .i64 0, .int .i64 0, .int .i64 0, .int .i64 0]) 32 rfl Tryz.underlying26 infoOpen rfl (by decide) (by decide) v4 st.o (⟨x, 0, 0, 1⟩) [.int .i64 x, .int .i64 0, .int .i64 0, .int .i64 1] (fun k => some k = (v4 : Value).ownBlock ∨ wq.heap.size ≤ k) (fun _ => False) rfl rfl (k36_mkM _ _ _ _) (fun _ h => h.elim) (fun k h => .inr h) (Kd.R_mono HO.out.r4 (fun k h => .inl h)) HO.out.b HO.out.b.size ?ql ?_); (case ql => have := HLI.out; omega); intro v1 w7 hr1 hb1 hg1 hat1; obtain ⟨A1, m1, k1, rfl⟩ := slice3 hr1; have HO1 := Aside0.mk (HO.out.app4 hr1 hb1 hg1 hat1); have HT1 := Aside0.mk (blk_grown HO.out.t hg1 (Kd.R_ne HO.out.r4 HO.out.t (by decide))); have hc2 := (blk_cell HT1.out 4).trans (show (#[Value.int .i64 N, .int .i64 G, v2, v3, v4, v5, v6] : Array Value)[4]? = some v4 from rfl); have hf2 := blk_frozen HT1.out 4; clear hr1 hb1 hg1 hat1)
    go_wp2
    go_meet
    case rel => exact ⟨_, _, _, _, _, _, _, _, _, _, _, _, HO1, ⟨by have := HLI.out; (try simp only [List.length_append, List.length_cons, List.length_nil]); omega⟩⟩
   ·skip
    obtain ⟨y0, hy0, _, _⟩ := within_lt0 (a := a4) (n := 5) (by decide) (by decide)
    have HY0 := Aside0.mk hy0
    clear hy0
    obtain ⟨y1, hy1, _, _⟩ := within_lt0 (a := wrap64 (Int.tdiv a4 5)) (n := 8) (by decide) (by decide)
    have HY1 := Aside0.mk hy1
    clear hy1
    obtain ⟨y3, hy3, _, _⟩ := within_lt0 (a := wrap64 (Int.tdiv a4 40)) (n := 5) (by decide) (by decide)
    have HY3 := Aside0.mk hy3
    clear hy3
    go_upto_region 22 with (fail)
    refine start_ (n := 16) (S := fun w' => w'.cell? ⟨go, 5, none⟩ = some v5) (ds := [15]) (pm 0 16) (by kernel_rfl) rfl rfl ((blk_cell (blk_drew HO.out.t) 5).trans rfl) (fun hHeld => ?_)
    have HO1 := Aside0.mk (HO.out.below (below_drew (Below.refl _ _)))
    clear HO
    have HO := HO1
    clear HO1
    obtain ⟨wd, hwd⟩ : ∃ wd : World, wd = wq.drew := ⟨_, rfl⟩
    rw [← hwd] at HO hHeld ⊢
    clear hwd
    try clear wq
    obtain ⟨wq, rfl⟩ : ∃ wq : World, wq = wd := ⟨_, rfl⟩
    iterate 3 (first | (refine pn_ (v := ?_) (a' := ?_) rfl (rfl (a := some _)) (by kernel_rfl) (fun _ _ _ h => h) (Or.inl ⟨by rfl, ?_⟩) ?_ ?_; rotate_left; (intro w'; go_simp; with_reducible rfl); rotate_left; (simp only [Act.put, List.setIfInBounds_toArray, List.set_cons_zero, List.set_cons_succ, i64_w, i32_w]; rfl)) | (refine tn_ (v := ?_) (a' := ?_) rfl (rfl (a := some _)) (by kernel_rfl) (fun _ _ _ h => h) (Or.inl ⟨by rfl, ?_⟩) hHeld ?_ ?_; rotate_left; (intro w' hS_; have s0 := hS_; go_simp; with_reducible rfl); rotate_left; (simp only [Act.put, List.setIfInBounds_toArray, List.set_cons_zero, List.set_cons_succ, i64_w, i32_w]; rfl)))
    refine po_ 4 (v := ?_) (a' := ?_) rfl (rfl (a := some _)) (by kernel_rfl) (fun _ _ _ h => h) (Or.inl ⟨by rfl, ?_⟩) ?_ ?_; rotate_left; (intro w'; go_simp; with_reducible rfl); rotate_left; (simp only [Act.put, List.setIfInBounds_toArray, List.set_cons_zero, List.set_cons_succ, i64_w, i32_w]; rfl)
    refine po_ 5 (v := ?_) (a' := ?_) rfl (rfl (a := some _)) (by kernel_rfl) (fun _ _ _ h => h) (Or.inl ⟨by rfl, ?_⟩) ?_ ?_; rotate_left; (intro w'; go_simp; with_reducible rfl); rotate_left; (simp only [Act.put, List.setIfInBounds_toArray, List.set_cons_zero, List.set_cons_succ, i64_w, i32_w]; rfl)
    refine po_ 7 (v := ?_) (a' := ?_) rfl (rfl (a := some _)) (by kernel_rfl) (fun _ _ _ h => h) (Or.inl ⟨by rfl, ?_⟩) ?_ ?_; rotate_left; (intro w'; go_simp; with_reducible rfl); rotate_left; (simp only [Act.put, List.setIfInBounds_toArray, List.set_cons_zero, List.set_cons_succ, i64_w, i32_w]; rfl)
    refine po_ 8 (v := ?_) (a' := ?_) rfl (rfl (a := some _)) (by kernel_rfl) (fun _ _ _ h => h) (Or.inl ⟨by rfl, ?_⟩) ?_ ?_; rotate_left; (intro w'; go_simp; with_reducible rfl); rotate_left; (simp only [Act.put, List.setIfInBounds_toArray, List.set_cons_zero, List.set_cons_succ, i64_w, i32_w]; rfl)
    refine po_ 10 (v := ?_) (a' := ?_) rfl (rfl (a := some _)) (by kernel_rfl) (fun _ _ _ h => h) (Or.inl ⟨by rfl, ?_⟩) ?_ ?_; rotate_left; (intro w'; go_simp; with_reducible rfl); rotate_left; (simp only [Act.put, List.setIfInBounds_toArray, List.set_cons_zero, List.set_cons_succ, i64_w, i32_w]; rfl)
    refine one_ (i := 3) (N := (some 92)) #[true, true, true, true, true, true, false, true, true, false, true, false, false, false, false, false] rfl rfl (by kernel_rfl) (by decide) (fun K hK => ?_)
    refine goes_ Tryz.func16 (by kernel_rfl) rfl #[.int .i64 (a4), .int .i64 5] rfl rfl rfl (by (try simp only [List.map_toArray, List.map_cons, List.map_nil]); rfl) ?_
    refine (canopylaw3_within.calls (a4) 5 y0 _ HY0.out).mono ?_
    rintro e we ⟨rfl, hd⟩
    have HO1 := Aside0.mk (HO.out.below hd.below)
    clear HO hd
    have HO := HO1
    clear HO1
    refine ⟨_, rfl, ?_⟩
    clear hHeld
    refine hK.out _ _ ((blk_cell HO.out.t 5).trans rfl) (fun hHeld => ?_)
    clear hK K
    obtain ⟨wq, rfl⟩ : ∃ wq : World, wq = we := ⟨_, rfl⟩
    refine norm_ (a' := ?_) ?_ ?_
    rotate_left
    ·show Act.put _ (some 92) _ = _
     simp only [Act.put, List.setIfInBounds_toArray, List.set_cons_zero, List.set_cons_succ, i64_w, i32_w]
     rfl
    refine one_ (i := 6) (N := (some 95)) #[true, true, true, true, true, true, true, true, true, false, true, false, false, false, false, false] rfl rfl (by kernel_rfl) (by decide) (fun K hK => ?_)
    refine goes_ Tryz.func16 (by kernel_rfl) rfl #[.int .i64 (wrap64 (Int.tdiv a4 5)), .int .i64 8] rfl rfl rfl (by (try simp only [List.map_toArray, List.map_cons, List.map_nil]); rfl) ?_
    refine (canopylaw3_within.calls (wrap64 (Int.tdiv a4 5)) 8 y1 _ HY1.out).mono ?_
    rintro e we ⟨rfl, hd⟩
    have HO1 := Aside0.mk (HO.out.below hd.below)
    clear HO hd
    have HO := HO1
    clear HO1
    refine ⟨_, rfl, ?_⟩
    clear hHeld
    refine hK.out _ _ ((blk_cell HO.out.t 5).trans rfl) (fun hHeld => ?_)
    clear hK K
    obtain ⟨wq, rfl⟩ : ∃ wq : World, wq = we := ⟨_, rfl⟩
    refine norm_ (a' := ?_) ?_ ?_
    rotate_left
    ·show Act.put _ (some 95) _ = _
     simp only [Act.put, List.setIfInBounds_toArray, List.set_cons_zero, List.set_cons_succ, i64_w, i32_w]
     rfl
    refine one_ (i := 9) (N := (some 98)) (pm 11 5) rfl rfl (by kernel_rfl) (by decide) (fun K hK => ?_)
    refine goes_ Tryz.func16 (by kernel_rfl) rfl #[.int .i64 (wrap64 (Int.tdiv a4 40)), .int .i64 5] rfl rfl rfl (by (try simp only [List.map_toArray, List.map_cons, List.map_nil]); rfl) ?_
    refine (canopylaw3_within.calls (wrap64 (Int.tdiv a4 40)) 5 y3 _ HY3.out).mono ?_
    rintro e we ⟨rfl, hd⟩
    have HO1 := Aside0.mk (HO.out.below hd.below)
    clear HO hd
    have HO := HO1
    clear HO1
    refine ⟨_, rfl, ?_⟩
    clear hHeld
    refine hK.out _ _ ((blk_cell HO.out.t 5).trans rfl) (fun hHeld => ?_)
    clear hK K
    obtain ⟨wq, rfl⟩ : ∃ wq : World, wq = we := ⟨_, rfl⟩
    refine norm_ (a' := ?_) ?_ ?_
    rotate_left
    ·show Act.put _ (some 98) _ = _
     simp only [Act.put, List.setIfInBounds_toArray, List.set_cons_zero, List.set_cons_succ, i64_w, i32_w]
     rfl
    refine pn_ (v := ?_) (a' := ?_) rfl (rfl (a := some _)) (by kernel_rfl) (fun _ _ _ h => h) (Or.inl ⟨by rfl, ?_⟩) ?_ ?_; rotate_left; (intro w'; go_simp; with_reducible rfl); rotate_left; (simp only [Act.put, List.setIfInBounds_toArray, List.set_cons_zero, List.set_cons_succ, i64_w, i32_w]; rfl)
    refine one_ (i := 12) (N := (some 101)) (pm 13 3) rfl rfl (by kernel_rfl) (by decide) (fun K hK => ?_)
    refine step_run (v := .slice (some ⟨wq.heap.size, 0, none⟩) 1 1) (w1 := wq.alloc (.cells #[.int .i64 y0, .int .i64 y1, .int .i64 x, .int .i64 y3] 38)) rfl (by go_simp) ?_
    clear hHeld
    refine hK.out _ _ ((blk_cell (blk_old HO.out.t (.cells #[.int .i64 y0, .int .i64 y1, .int .i64 x, .int .i64 y3] 38)) 5).trans rfl) (fun hHeld => ?_)
    clear hK K
    refine norm_ (a' := ?_) ?_ ?_
    rotate_left
    ·show Act.put _ (some 101) _ = _
     simp only [Act.put, List.setIfInBounds_toArray, List.set_cons_zero, List.set_cons_succ, i64_w, i32_w]
     rfl
    refine one_ (i := 13) (N := (some 102)) (pm 14 2) rfl rfl (by kernel_rfl) (by decide) (fun K hK => ?_)
    refine Kd.R_append_step k38 (w0 := w2) w2.heap.size rfl (.tmp 90) (.tmp 101) 27 38 (.agg #[.int .i64 0, .int .i64 0, .int .i64 0, .int .i64 0]) 32 rfl Tryz.underlying27 infoClose rfl (by decide) (by decide) v5 st.c (⟨ y0,  y1,  x,  y3⟩) [.int .i64 y0, .int .i64 y1, .int .i64 x, .int .i64 y3] (fun k => some k = (v5 : Value).ownBlock ∨ wq.heap.size ≤ k) (fun _ => False) rfl rfl (k38_mkM _ _ _ _) (fun _ h => h.elim) (fun k h => .inr h) (Kd.R_mono HO.out.r5 (fun k h => .inl h)) HO.out.b HO.out.b.size ?ql ?_
    case ql => have := HLI.out; omega
    intro v1 w7 hr1 hb1 hg1 hat1
    obtain ⟨A1, m1, k1, rfl⟩ := slice3 hr1
    have HO1 := Aside0.mk (HO.out.app5 hr1 hb1 hg1 hat1)
    have HT1 := Aside0.mk (blk_grown HO.out.t hg1 (Kd.R_ne HO.out.r5 HO.out.t (by decide)))
    clear hr1 hb1 hg1 hat1 HO
    clear hHeld
    refine hK.out _ _ ((blk_cell HT1.out 5).trans rfl) (fun hHeld => ?_)
    clear hK K
    refine norm_ (a' := ?_) ?_ ?_
    rotate_left
    ·show Act.put _ (some 102) _ = _
     simp only [Act.put, List.setIfInBounds_toArray, List.set_cons_zero, List.set_cons_succ, i64_w, i32_w]
     rfl
    refine pn_ (v := ?_) (a' := ?_) rfl (rfl (a := some _)) (by kernel_rfl) (fun _ _ _ h => h) (Or.inl ⟨by rfl, ?_⟩) ?_ ?_; rotate_left; (intro w'; go_simp; with_reducible rfl); rotate_left; (simp only [Act.put, List.setIfInBounds_toArray, List.set_cons_zero, List.set_cons_succ, i64_w, i32_w]; rfl)
    refine last_ (i := 15) (N := none) (pm 16 0) rfl rfl (by kernel_rfl) (by decide) (fun K hK => ?_)
    have hc2 := (blk_cell HT1.out 5).trans (show (#[Value.int .i64 N, .int .i64 G, v2, v3, v4, v5, v6] : Array Value)[5]? = some v5 from rfl)
    have hf2 := blk_frozen HT1.out 5
    refine Go.Proofs.YtejpijgfpbcibaaGreat.M.step_skip (w1 := w7.setCell ⟨go, 5, none⟩ (.slice A1 m1 k1)) rfl rfl (by go_simp) ?_
    clear hc2 hf2 HT1 hHeld
    refine hK.out _ _ ?_
    clear hK K
    refine done_ (by kernel_rfl) ?_
    go_wp2
    go_meet
    case rel => exact ⟨_, _, _, _, _, _, _, _, _, _, _, _, HO1, ⟨by have := HLI.out; (try simp only [List.length_append, List.length_cons, List.length_nil]); omega⟩⟩
   ·skip
    obtain ⟨y3, hy3, _, _⟩ := within_lt0 (a := a4) (n := 5) (by decide) (by decide)
    have HY3 := Aside0.mk hy3
    clear hy3
    go_upto_region 24 with (fail)
    refine start_ (n := 10) (S := fun w' => w'.cell? ⟨go, 5, none⟩ = some v5) (ds := [9]) (pm 0 10) (by kernel_rfl) rfl rfl ((blk_cell (blk_drew HO.out.t) 5).trans rfl) (fun hHeld => ?_)
    have HO1 := Aside0.mk (HO.out.below (below_drew (Below.refl _ _)))
    clear HO
    have HO := HO1
    clear HO1
    obtain ⟨wd, hwd⟩ : ∃ wd : World, wd = wq.drew := ⟨_, rfl⟩
    rw [← hwd] at HO hHeld ⊢
    clear hwd
    try clear wq
    obtain ⟨wq, rfl⟩ : ∃ wq : World, wq = wd := ⟨_, rfl⟩
    iterate 4 (first | (refine pn_ (v := ?_) (a' := ?_) rfl (rfl (a := some _)) (by kernel_rfl) (fun _ _ _ h => h) (Or.inl ⟨by rfl, ?_⟩) ?_ ?_; rotate_left; (intro w'; go_simp; with_reducible rfl); rotate_left; (simp only [Act.put, List.setIfInBounds_toArray, List.set_cons_zero, List.set_cons_succ, i64_w, i32_w]; rfl)) | (refine tn_ (v := ?_) (a' := ?_) rfl (rfl (a := some _)) (by kernel_rfl) (fun _ _ _ h => h) (Or.inl ⟨by rfl, ?_⟩) hHeld ?_ ?_; rotate_left; (intro w' hS_; have s0 := hS_; go_simp; with_reducible rfl); rotate_left; (simp only [Act.put, List.setIfInBounds_toArray, List.set_cons_zero, List.set_cons_succ, i64_w, i32_w]; rfl)))
    refine one_ (i := 4) (N := (some 110)) (pm 5 5) rfl rfl (by kernel_rfl) (by decide) (fun K hK => ?_)
    refine goes_ Tryz.func16 (by kernel_rfl) rfl #[.int .i64 (a4), .int .i64 5] rfl rfl rfl (by (try simp only [List.map_toArray, List.map_cons, List.map_nil]); rfl) ?_
    refine (canopylaw3_within.calls (a4) 5 y3 _ HY3.out).mono ?_
    rintro e we ⟨rfl, hd⟩
    have HO1 := Aside0.mk (HO.out.below hd.below)
    clear HO hd
    have HO := HO1
    clear HO1
    refine ⟨_, rfl, ?_⟩
    clear hHeld
    refine hK.out _ _ ((blk_cell HO.out.t 5).trans rfl) (fun hHeld => ?_)
    clear hK K
    obtain ⟨wq, rfl⟩ : ∃ wq : World, wq = we := ⟨_, rfl⟩
    refine norm_ (a' := ?_) ?_ ?_
    rotate_left
    ·show Act.put _ (some 110) _ = _
     simp only [Act.put, List.setIfInBounds_toArray, List.set_cons_zero, List.set_cons_succ, i64_w, i32_w]
     rfl
    refine pn_ (v := ?_) (a' := ?_) rfl (rfl (a := some _)) (by kernel_rfl) (fun _ _ _ h => h) (Or.inl ⟨by rfl, ?_⟩) ?_ ?_; rotate_left; (intro w'; go_simp; with_reducible rfl); rotate_left; (simp only [Act.put, List.setIfInBounds_toArray, List.set_cons_zero, List.set_cons_succ, i64_w, i32_w]; rfl)
    refine one_ (i := 6) (N := (some 112)) (pm 7 3) rfl rfl (by kernel_rfl) (by decide) (fun K hK => ?_)
    refine step_run (v := .slice (some ⟨wq.heap.size, 0, none⟩) 1 1) (w1 := wq.alloc (.cells #[.int .i64 0, .int .i64 x, .int .i64 0, .int .i64 y3] 38)) rfl (by go_simp) ?_
    clear hHeld
    refine hK.out _ _ ((blk_cell (blk_old HO.out.t (.cells #[.int .i64 0, .int .i64 x, .int .i64 0, .int .i64 y3] 38)) 5).trans rfl) (fun hHeld => ?_)
    clear hK K
    refine norm_ (a' := ?_) ?_ ?_
    rotate_left
    ·show Act.put _ (some 112) _ = _
     simp only [Act.put, List.setIfInBounds_toArray, List.set_cons_zero, List.set_cons_succ, i64_w, i32_w]
     rfl
    refine one_ (i := 7) (N := (some 113)) (pm 8 2) rfl rfl (by kernel_rfl) (by decide) (fun K hK => ?_)
    refine Kd.R_append_step k38 (w0 := w2) w2.heap.size rfl (.tmp 107) (.tmp 112) 27 38 (.agg #[.int .i64 0, .int .i64 0, .int .i64 0, .int .i64 0]) 32 rfl Tryz.underlying27 infoClose rfl (by decide) (by decide) v5 st.c (⟨ 0,  x,  0,  y3⟩) [.int .i64 0, .int .i64 x, .int .i64 0, .int .i64 y3] (fun k => some k = (v5 : Value).ownBlock ∨ wq.heap.size ≤ k) (fun _ => False) rfl rfl (k38_mkM _ _ _ _) (fun _ h => h.elim) (fun k h => .inr h) (Kd.R_mono HO.out.r5 (fun k h => .inl h)) HO.out.b HO.out.b.size ?ql ?_
    case ql => have := HLI.out; omega
    intro v1 w7 hr1 hb1 hg1 hat1
    obtain ⟨A1, m1, k1, rfl⟩ := slice3 hr1
    have HO1 := Aside0.mk (HO.out.app5 hr1 hb1 hg1 hat1)
    have HT1 := Aside0.mk (blk_grown HO.out.t hg1 (Kd.R_ne HO.out.r5 HO.out.t (by decide)))
    clear hr1 hb1 hg1 hat1 HO
    clear hHeld
    refine hK.out _ _ ((blk_cell HT1.out 5).trans rfl) (fun hHeld => ?_)
    clear hK K
    refine norm_ (a' := ?_) ?_ ?_
    rotate_left
    ·show Act.put _ (some 113) _ = _
     simp only [Act.put, List.setIfInBounds_toArray, List.set_cons_zero, List.set_cons_succ, i64_w, i32_w]
     rfl
    refine pn_ (v := ?_) (a' := ?_) rfl (rfl (a := some _)) (by kernel_rfl) (fun _ _ _ h => h) (Or.inl ⟨by rfl, ?_⟩) ?_ ?_; rotate_left; (intro w'; go_simp; with_reducible rfl); rotate_left; (simp only [Act.put, List.setIfInBounds_toArray, List.set_cons_zero, List.set_cons_succ, i64_w, i32_w]; rfl)
    refine last_ (i := 9) (N := none) (pm 10 0) rfl rfl (by kernel_rfl) (by decide) (fun K hK => ?_)
    have hc2 := (blk_cell HT1.out 5).trans (show (#[Value.int .i64 N, .int .i64 G, v2, v3, v4, v5, v6] : Array Value)[5]? = some v5 from rfl)
    have hf2 := blk_frozen HT1.out 5
    refine Go.Proofs.YtejpijgfpbcibaaGreat.M.step_skip (w1 := w7.setCell ⟨go, 5, none⟩ (.slice A1 m1 k1)) rfl rfl (by go_simp) ?_
    clear hc2 hf2 HT1 hHeld
    refine hK.out _ _ ?_
    clear hK K
    refine done_ (by kernel_rfl) ?_
    go_wp2
    go_meet
    case rel => exact ⟨_, _, _, _, _, _, _, _, _, _, _, _, HO1, ⟨by have := HLI.out; (try simp only [List.length_append, List.length_cons, List.length_nil]); omega⟩⟩
   ·skip
    obtain ⟨y0, hy0, _, _⟩ := within_lt0 (a := a4) (n := 5) (by decide) (by decide)
    have HY0 := Aside0.mk hy0
    clear hy0
    go_upto_region 26 with (fail)
    refine start_ (n := 10) (S := fun w' => w'.cell? ⟨go, 6, none⟩ = some v6) (ds := [9]) (pm 0 10) (by kernel_rfl) rfl rfl ((blk_cell (blk_drew HO.out.t) 6).trans rfl) (fun hHeld => ?_)
    have HO1 := Aside0.mk (HO.out.below (below_drew (Below.refl _ _)))
    clear HO
    have HO := HO1
    clear HO1
    obtain ⟨wd, hwd⟩ : ∃ wd : World, wd = wq.drew := ⟨_, rfl⟩
    rw [← hwd] at HO hHeld ⊢
    clear hwd
    try clear wq
    obtain ⟨wq, rfl⟩ : ∃ wq : World, wq = wd := ⟨_, rfl⟩
    iterate 3 (first | (refine pn_ (v := ?_) (a' := ?_) rfl (rfl (a := some _)) (by kernel_rfl) (fun _ _ _ h => h) (Or.inl ⟨by rfl, ?_⟩) ?_ ?_; rotate_left; (intro w'; go_simp; with_reducible rfl); rotate_left; (simp only [Act.put, List.setIfInBounds_toArray, List.set_cons_zero, List.set_cons_succ, i64_w, i32_w]; rfl)) | (refine tn_ (v := ?_) (a' := ?_) rfl (rfl (a := some _)) (by kernel_rfl) (fun _ _ _ h => h) (Or.inl ⟨by rfl, ?_⟩) hHeld ?_ ?_; rotate_left; (intro w' hS_; have s0 := hS_; go_simp; with_reducible rfl); rotate_left; (simp only [Act.put, List.setIfInBounds_toArray, List.set_cons_zero, List.set_cons_succ, i64_w, i32_w]; rfl)))
    refine po_ 4 (v := ?_) (a' := ?_) rfl (rfl (a := some _)) (by kernel_rfl) (fun _ _ _ h => h) (Or.inl ⟨by rfl, ?_⟩) ?_ ?_; rotate_left; (intro w'; go_simp; with_reducible rfl); rotate_left; (simp only [Act.put, List.setIfInBounds_toArray, List.set_cons_zero, List.set_cons_succ, i64_w, i32_w]; rfl)
    refine one_ (i := 3) (N := (some 120)) (pm 5 5) rfl rfl (by kernel_rfl) (by decide) (fun K hK => ?_)
    refine goes_ Tryz.func16 (by kernel_rfl) rfl #[.int .i64 (a4), .int .i64 5] rfl rfl rfl (by (try simp only [List.map_toArray, List.map_cons, List.map_nil]); rfl) ?_
    refine (canopylaw3_within.calls (a4) 5 y0 _ HY0.out).mono ?_
    rintro e we ⟨rfl, hd⟩
    have HO1 := Aside0.mk (HO.out.below hd.below)
    clear HO hd
    have HO := HO1
    clear HO1
    refine ⟨_, rfl, ?_⟩
    clear hHeld
    refine hK.out _ _ ((blk_cell HO.out.t 6).trans rfl) (fun hHeld => ?_)
    clear hK K
    obtain ⟨wq, rfl⟩ : ∃ wq : World, wq = we := ⟨_, rfl⟩
    refine norm_ (a' := ?_) ?_ ?_
    rotate_left
    ·show Act.put _ (some 120) _ = _
     simp only [Act.put, List.setIfInBounds_toArray, List.set_cons_zero, List.set_cons_succ, i64_w, i32_w]
     rfl
    refine pn_ (v := ?_) (a' := ?_) rfl (rfl (a := some _)) (by kernel_rfl) (fun _ _ _ h => h) (Or.inl ⟨by rfl, ?_⟩) ?_ ?_; rotate_left; (intro w'; go_simp; with_reducible rfl); rotate_left; (simp only [Act.put, List.setIfInBounds_toArray, List.set_cons_zero, List.set_cons_succ, i64_w, i32_w]; rfl)
    refine one_ (i := 6) (N := (some 123)) (pm 7 3) rfl rfl (by kernel_rfl) (by decide) (fun K hK => ?_)
    refine step_run (v := .slice (some ⟨wq.heap.size, 0, none⟩) 1 1) (w1 := wq.alloc (.cells #[.int .i64 y0, .int .i64 x, .int .i64 0] 40)) rfl (by go_simp) ?_
    clear hHeld
    refine hK.out _ _ ((blk_cell (blk_old HO.out.t (.cells #[.int .i64 y0, .int .i64 x, .int .i64 0] 40)) 6).trans rfl) (fun hHeld => ?_)
    clear hK K
    refine norm_ (a' := ?_) ?_ ?_
    rotate_left
    ·show Act.put _ (some 123) _ = _
     simp only [Act.put, List.setIfInBounds_toArray, List.set_cons_zero, List.set_cons_succ, i64_w, i32_w]
     rfl
    refine one_ (i := 7) (N := (some 124)) (pm 8 2) rfl rfl (by kernel_rfl) (by decide) (fun K hK => ?_)
    refine Kd.R_append_step k40 (w0 := w2) w2.heap.size rfl (.tmp 118) (.tmp 123) 28 40 (.agg #[.int .i64 0, .int .i64 0, .int .i64 0]) 24 rfl Tryz.underlying28 infoInner rfl (by decide) (by decide) v6 st.n (⟨ y0,  x,  0⟩) [.int .i64 y0, .int .i64 x, .int .i64 0] (fun k => some k = (v6 : Value).ownBlock ∨ wq.heap.size ≤ k) (fun _ => False) rfl rfl (k40_mkM _ _ _ _) (fun _ h => h.elim) (fun k h => .inr h) (Kd.R_mono HO.out.r6 (fun k h => .inl h)) HO.out.b HO.out.b.size ?ql ?_
    case ql => have := HLI.out; omega
    intro v1 w7 hr1 hb1 hg1 hat1
    obtain ⟨A1, m1, k1, rfl⟩ := slice3 hr1
    have HO1 := Aside0.mk (HO.out.app6 hr1 hb1 hg1 hat1)
    have HT1 := Aside0.mk (blk_grown HO.out.t hg1 (Kd.R_ne HO.out.r6 HO.out.t (by decide)))
    clear hr1 hb1 hg1 hat1 HO
    clear hHeld
    refine hK.out _ _ ((blk_cell HT1.out 6).trans rfl) (fun hHeld => ?_)
    clear hK K
    refine norm_ (a' := ?_) ?_ ?_
    rotate_left
    ·show Act.put _ (some 124) _ = _
     simp only [Act.put, List.setIfInBounds_toArray, List.set_cons_zero, List.set_cons_succ, i64_w, i32_w]
     rfl
    refine pn_ (v := ?_) (a' := ?_) rfl (rfl (a := some _)) (by kernel_rfl) (fun _ _ _ h => h) (Or.inl ⟨by rfl, ?_⟩) ?_ ?_; rotate_left; (intro w'; go_simp; with_reducible rfl); rotate_left; (simp only [Act.put, List.setIfInBounds_toArray, List.set_cons_zero, List.set_cons_succ, i64_w, i32_w]; rfl)
    refine last_ (i := 9) (N := none) (pm 10 0) rfl rfl (by kernel_rfl) (by decide) (fun K hK => ?_)
    have hc2 := (blk_cell HT1.out 6).trans (show (#[Value.int .i64 N, .int .i64 G, v2, v3, v4, v5, v6] : Array Value)[6]? = some v6 from rfl)
    have hf2 := blk_frozen HT1.out 6
    refine Go.Proofs.YtejpijgfpbcibaaGreat.M.step_skip (w1 := w7.setCell ⟨go, 6, none⟩ (.slice A1 m1 k1)) rfl rfl (by go_simp) ?_
    clear hc2 hf2 HT1 hHeld
    refine hK.out _ _ ?_
    clear hK K
    refine done_ (by kernel_rfl) ?_
    go_wp2
    go_meet
    case rel => exact ⟨_, _, _, _, _, _, _, _, _, _, _, _, HO1, ⟨by have := HLI.out; (try simp only [List.length_append, List.length_cons, List.length_nil]); omega⟩⟩
   ·skip
    obtain ⟨y1, hy1, _, _⟩ := within_lt0 (a := a4) (n := 8) (by decide) (by decide)
    have HY1 := Aside0.mk hy1
    clear hy1
    go_upto_region 28 with (fail)
    refine start_ (n := 10) (S := fun w' => w'.cell? ⟨go, 6, none⟩ = some v6) (ds := [9]) (pm 0 10) (by kernel_rfl) rfl rfl ((blk_cell (blk_drew HO.out.t) 6).trans rfl) (fun hHeld => ?_)
    have HO1 := Aside0.mk (HO.out.below (below_drew (Below.refl _ _)))
    clear HO
    have HO := HO1
    clear HO1
    obtain ⟨wd, hwd⟩ : ∃ wd : World, wd = wq.drew := ⟨_, rfl⟩
    rw [← hwd] at HO hHeld ⊢
    clear hwd
    try clear wq
    obtain ⟨wq, rfl⟩ : ∃ wq : World, wq = wd := ⟨_, rfl⟩
    iterate 3 (first | (refine pn_ (v := ?_) (a' := ?_) rfl (rfl (a := some _)) (by kernel_rfl) (fun _ _ _ h => h) (Or.inl ⟨by rfl, ?_⟩) ?_ ?_; rotate_left; (intro w'; go_simp; with_reducible rfl); rotate_left; (simp only [Act.put, List.setIfInBounds_toArray, List.set_cons_zero, List.set_cons_succ, i64_w, i32_w]; rfl)) | (refine tn_ (v := ?_) (a' := ?_) rfl (rfl (a := some _)) (by kernel_rfl) (fun _ _ _ h => h) (Or.inl ⟨by rfl, ?_⟩) hHeld ?_ ?_; rotate_left; (intro w' hS_; have s0 := hS_; go_simp; with_reducible rfl); rotate_left; (simp only [Act.put, List.setIfInBounds_toArray, List.set_cons_zero, List.set_cons_succ, i64_w, i32_w]; rfl)))
    refine po_ 4 (v := ?_) (a' := ?_) rfl (rfl (a := some _)) (by kernel_rfl) (fun _ _ _ h => h) (Or.inl ⟨by rfl, ?_⟩) ?_ ?_; rotate_left; (intro w'; go_simp; with_reducible rfl); rotate_left; (simp only [Act.put, List.setIfInBounds_toArray, List.set_cons_zero, List.set_cons_succ, i64_w, i32_w]; rfl)
    refine one_ (i := 3) (N := (some 131)) (pm 5 5) rfl rfl (by kernel_rfl) (by decide) (fun K hK => ?_)
    refine goes_ Tryz.func16 (by kernel_rfl) rfl #[.int .i64 (a4), .int .i64 8] rfl rfl rfl (by (try simp only [List.map_toArray, List.map_cons, List.map_nil]); rfl) ?_
    refine (canopylaw3_within.calls (a4) 8 y1 _ HY1.out).mono ?_
    rintro e we ⟨rfl, hd⟩
    have HO1 := Aside0.mk (HO.out.below hd.below)
    clear HO hd
    have HO := HO1
    clear HO1
    refine ⟨_, rfl, ?_⟩
    clear hHeld
    refine hK.out _ _ ((blk_cell HO.out.t 6).trans rfl) (fun hHeld => ?_)
    clear hK K
    obtain ⟨wq, rfl⟩ : ∃ wq : World, wq = we := ⟨_, rfl⟩
    refine norm_ (a' := ?_) ?_ ?_
    rotate_left
    ·show Act.put _ (some 131) _ = _
     simp only [Act.put, List.setIfInBounds_toArray, List.set_cons_zero, List.set_cons_succ, i64_w, i32_w]
     rfl
    refine pn_ (v := ?_) (a' := ?_) rfl (rfl (a := some _)) (by kernel_rfl) (fun _ _ _ h => h) (Or.inl ⟨by rfl, ?_⟩) ?_ ?_; rotate_left; (intro w'; go_simp; with_reducible rfl); rotate_left; (simp only [Act.put, List.setIfInBounds_toArray, List.set_cons_zero, List.set_cons_succ, i64_w, i32_w]; rfl)
    refine one_ (i := 6) (N := (some 134)) (pm 7 3) rfl rfl (by kernel_rfl) (by decide) (fun K hK => ?_)
    refine step_run (v := .slice (some ⟨wq.heap.size, 0, none⟩) 1 1) (w1 := wq.alloc (.cells #[.int .i64 0, .int .i64 y1, .int .i64 x] 40)) rfl (by go_simp) ?_
    clear hHeld
    refine hK.out _ _ ((blk_cell (blk_old HO.out.t (.cells #[.int .i64 0, .int .i64 y1, .int .i64 x] 40)) 6).trans rfl) (fun hHeld => ?_)
    clear hK K
    refine norm_ (a' := ?_) ?_ ?_
    rotate_left
    ·show Act.put _ (some 134) _ = _
     simp only [Act.put, List.setIfInBounds_toArray, List.set_cons_zero, List.set_cons_succ, i64_w, i32_w]
     rfl
    refine one_ (i := 7) (N := (some 135)) (pm 8 2) rfl rfl (by kernel_rfl) (by decide) (fun K hK => ?_)
    refine Kd.R_append_step k40 (w0 := w2) w2.heap.size rfl (.tmp 129) (.tmp 134) 28 40 (.agg #[.int .i64 0, .int .i64 0, .int .i64 0]) 24 rfl Tryz.underlying28 infoInner rfl (by decide) (by decide) v6 st.n (⟨ 0,  y1,  x⟩) [.int .i64 0, .int .i64 y1, .int .i64 x] (fun k => some k = (v6 : Value).ownBlock ∨ wq.heap.size ≤ k) (fun _ => False) rfl rfl (k40_mkM _ _ _ _) (fun _ h => h.elim) (fun k h => .inr h) (Kd.R_mono HO.out.r6 (fun k h => .inl h)) HO.out.b HO.out.b.size ?ql ?_
    case ql => have := HLI.out; omega
    intro v1 w7 hr1 hb1 hg1 hat1
    obtain ⟨A1, m1, k1, rfl⟩ := slice3 hr1
    have HO1 := Aside0.mk (HO.out.app6 hr1 hb1 hg1 hat1)
    have HT1 := Aside0.mk (blk_grown HO.out.t hg1 (Kd.R_ne HO.out.r6 HO.out.t (by decide)))
    clear hr1 hb1 hg1 hat1 HO
    clear hHeld
    refine hK.out _ _ ((blk_cell HT1.out 6).trans rfl) (fun hHeld => ?_)
    clear hK K
    refine norm_ (a' := ?_) ?_ ?_
    rotate_left
    ·show Act.put _ (some 135) _ = _
     simp only [Act.put, List.setIfInBounds_toArray, List.set_cons_zero, List.set_cons_succ, i64_w, i32_w]
     rfl
    refine pn_ (v := ?_) (a' := ?_) rfl (rfl (a := some _)) (by kernel_rfl) (fun _ _ _ h => h) (Or.inl ⟨by rfl, ?_⟩) ?_ ?_; rotate_left; (intro w'; go_simp; with_reducible rfl); rotate_left; (simp only [Act.put, List.setIfInBounds_toArray, List.set_cons_zero, List.set_cons_succ, i64_w, i32_w]; rfl)
    refine last_ (i := 9) (N := none) (pm 10 0) rfl rfl (by kernel_rfl) (by decide) (fun K hK => ?_)
    have hc2 := (blk_cell HT1.out 6).trans (show (#[Value.int .i64 N, .int .i64 G, v2, v3, v4, v5, v6] : Array Value)[6]? = some v6 from rfl)
    have hf2 := blk_frozen HT1.out 6
    refine Go.Proofs.YtejpijgfpbcibaaGreat.M.step_skip (w1 := w7.setCell ⟨go, 6, none⟩ (.slice A1 m1 k1)) rfl rfl (by go_simp) ?_
    clear hc2 hf2 HT1 hHeld
    refine hK.out _ _ ?_
    clear hK K
    refine done_ (by kernel_rfl) ?_
    go_wp2
    go_meet
    case rel => exact ⟨_, _, _, _, _, _, _, _, _, _, _, _, HO1, ⟨by have := HLI.out; (try simp only [List.length_append, List.length_cons, List.length_nil]); omega⟩⟩
   ·skip
    have b4 := (blk_cell HO.out.t 4).trans (show (#[.int .i64 N, .int .i64 G, v2, v3, v4, v5, v6] : Array Value)[4]? = some (v4) from rfl)
    go_wp2_with ((with_reducible refine gate_builtin (b := .append) (xs := #[.tmp 140, .tmp 143]) rfl ?_); at_builtin; go_loud (refine Kd.R_append k36 (w0 := w2) w2.heap.size rfl (.tmp 140) (.tmp 143) 26 36 (.agg #[.int .i64 0, .int .i64 0, .int .i64 0, .int .i64 0]) 32 rfl Tryz.underlying26 infoOpen rfl (by decide) (by decide) v4 st.o (⟨0, x, 0, 1⟩) [.int .i64 0, .int .i64 x, .int .i64 0, .int .i64 1] (fun k => some k = (v4 : Value).ownBlock ∨ wq.heap.size ≤ k) (fun _ => False) rfl rfl (k36_mkM _ _ _ _) (fun _ h => h.elim) (fun k h => .inr h) (Kd.R_mono HO.out.r4 (fun k h => .inl h)) HO.out.b HO.out.b.size ?ql ?_); (case ql => have := HLI.out; omega); intro v1 w7 hr1 hb1 hg1 hat1; obtain ⟨A1, m1, k1, rfl⟩ := slice3 hr1; have HO1 := Aside0.mk (HO.out.app4 hr1 hb1 hg1 hat1); have HT1 := Aside0.mk (blk_grown HO.out.t hg1 (Kd.R_ne HO.out.r4 HO.out.t (by decide))); have hc2 := (blk_cell HT1.out 4).trans (show (#[Value.int .i64 N, .int .i64 G, v2, v3, v4, v5, v6] : Array Value)[4]? = some v4 from rfl); have hf2 := blk_frozen HT1.out 4; clear hr1 hb1 hg1 hat1)
    go_wp2
    go_meet
    case rel => exact ⟨_, _, _, _, _, _, _, _, _, _, _, _, HO1, ⟨by have := HLI.out; (try simp only [List.length_append, List.length_cons, List.length_nil]); omega⟩⟩
   ·skip
    have b5 := (blk_cell HO.out.t 5).trans (show (#[.int .i64 N, .int .i64 G, v2, v3, v4, v5, v6] : Array Value)[5]? = some (v5) from rfl)
    go_wp2_with ((with_reducible refine gate_builtin (b := .append) (xs := #[.tmp 149, .tmp 152]) rfl ?_); at_builtin; go_loud (refine Kd.R_append k38 (w0 := w2) w2.heap.size rfl (.tmp 149) (.tmp 152) 27 38 (.agg #[.int .i64 0, .int .i64 0, .int .i64 0, .int .i64 0]) 32 rfl Tryz.underlying27 infoClose rfl (by decide) (by decide) v5 st.c (⟨0, 1, 0, x⟩) [.int .i64 0, .int .i64 1, .int .i64 0, .int .i64 x] (fun k => some k = (v5 : Value).ownBlock ∨ wq.heap.size ≤ k) (fun _ => False) rfl rfl (k38_mkM _ _ _ _) (fun _ h => h.elim) (fun k h => .inr h) (Kd.R_mono HO.out.r5 (fun k h => .inl h)) HO.out.b HO.out.b.size ?ql ?_); (case ql => have := HLI.out; omega); intro v1 w7 hr1 hb1 hg1 hat1; obtain ⟨A1, m1, k1, rfl⟩ := slice3 hr1; have HO1 := Aside0.mk (HO.out.app5 hr1 hb1 hg1 hat1); have HT1 := Aside0.mk (blk_grown HO.out.t hg1 (Kd.R_ne HO.out.r5 HO.out.t (by decide))); have hc2 := (blk_cell HT1.out 5).trans (show (#[Value.int .i64 N, .int .i64 G, v2, v3, v4, v5, v6] : Array Value)[5]? = some v5 from rfl); have hf2 := blk_frozen HT1.out 5; clear hr1 hb1 hg1 hat1)
    go_wp2
    go_meet
    case rel => exact ⟨_, _, _, _, _, _, _, _, _, _, _, _, HO1, ⟨by have := HLI.out; (try simp only [List.length_append, List.length_cons, List.length_nil]); omega⟩⟩
  case rest =>
   obtain ⟨n, g, u2, u3, u4, u5, u6, r2, r3, r4, r5, r6, HOc, HLR⟩ := hcut
   clear HO
   have HO := HOc
   clear HOc HD
   try clear wq
   obtain ⟨wq, rfl⟩ : ∃ wq : World, wq = wc := ⟨_, rfl⟩
   obtain ⟨c, hc⟩ := check_some S n g (r2 := r2) (r3 := r3) (r4 := r4) (r5 := r5) (r6 := r6) (by have := HLR.out; have := HLI.out; omega)
   have HC := Aside0.mk hc
   clear hc
   have q2 := HO.out.r2
   have q3 := HO.out.r3
   have q4 := HO.out.r4
   have q5 := HO.out.r5
   have q6 := HO.out.r6
   obtain ⟨U2, k2, rfl⟩ := Kd.R_slice q2
   obtain ⟨U3, k3, rfl⟩ := Kd.R_slice q3
   obtain ⟨U4, k4, rfl⟩ := Kd.R_slice q4
   obtain ⟨U5, k5, rfl⟩ := Kd.R_slice q5
   obtain ⟨U6, k6, rfl⟩ := Kd.R_slice q6
   clear q2 q3 q4 q5 q6
   go_upto_region 33 with (fail)
   refine start_ (n := 8) (S := fun w' => w'.cell? ⟨go, 0, none⟩ = some (.int .i64 n) ∧ w'.cell? ⟨go, 1, none⟩ = some (.int .i64 g) ∧ w'.cell? ⟨go, 2, none⟩ = some (.slice U2 r2.length k2) ∧ w'.cell? ⟨go, 3, none⟩ = some (.slice U3 r3.length k3) ∧ w'.cell? ⟨go, 4, none⟩ = some (.slice U4 r4.length k4) ∧ w'.cell? ⟨go, 5, none⟩ = some (.slice U5 r5.length k5) ∧ w'.cell? ⟨go, 6, none⟩ = some (.slice U6 r6.length k6)) (ds := []) (pm 0 8) (by kernel_rfl) rfl rfl ⟨(blk_cell (blk_drew HO.out.t) 0).trans rfl, (blk_cell (blk_drew HO.out.t) 1).trans rfl, (blk_cell (blk_drew HO.out.t) 2).trans rfl, (blk_cell (blk_drew HO.out.t) 3).trans rfl, (blk_cell (blk_drew HO.out.t) 4).trans rfl, (blk_cell (blk_drew HO.out.t) 5).trans rfl, (blk_cell (blk_drew HO.out.t) 6).trans rfl⟩ (fun hHeld => ?_)
   have HO1 := Aside0.mk (HO.out.below (below_drew (Below.refl _ _)))
   clear HO
   have HO := HO1
   clear HO1
   obtain ⟨wd, hwd⟩ : ∃ wd : World, wd = wq.drew := ⟨_, rfl⟩
   rw [← hwd] at HO hHeld ⊢
   clear hwd
   try clear wq
   obtain ⟨wq, rfl⟩ : ∃ wq : World, wq = wd := ⟨_, rfl⟩
   iterate 2 (first | (refine pn_ (v := ?_) (a' := ?_) rfl (rfl (a := some _)) (by kernel_rfl) (fun _ _ _ h => h) (Or.inl ⟨by rfl, ?_⟩) ?_ ?_; rotate_left; (intro w'; go_simp; with_reducible rfl); rotate_left; (simp only [Act.put, List.setIfInBounds_toArray, List.set_cons_zero, List.set_cons_succ, i64_w, i32_w]; rfl)) | (refine tn_ (v := ?_) (a' := ?_) rfl (rfl (a := some _)) (by kernel_rfl) (fun _ _ _ h => h) (Or.inl ⟨by rfl, ?_⟩) hHeld ?_ ?_; rotate_left; (intro w' hS_; obtain ⟨s0, s1, s2, s3, s4, s5, s6⟩ := hS_; go_simp; with_reducible rfl); rotate_left; (simp only [Act.put, List.setIfInBounds_toArray, List.set_cons_zero, List.set_cons_succ, i64_w, i32_w]; rfl)))
   refine po_ 3 (v := ?_) (a' := ?_) rfl (rfl (a := some _)) (by kernel_rfl) (fun _ _ _ h => h) (Or.inl ⟨by rfl, ?_⟩) ?_ ?_; rotate_left; (intro w'; go_simp; with_reducible rfl); rotate_left; (simp only [Act.put, List.setIfInBounds_toArray, List.set_cons_zero, List.set_cons_succ, i64_w, i32_w]; rfl)
   refine to_ 4 (v := ?_) (a' := ?_) rfl (rfl (a := some _)) (by kernel_rfl) (fun _ _ _ h => h) (Or.inl ⟨by rfl, ?_⟩) hHeld ?_ ?_; rotate_left; (intro w' hS_; obtain ⟨s0, s1, s2, s3, s4, s5, s6⟩ := hS_; go_simp; with_reducible rfl); rotate_left; (simp only [Act.put, List.setIfInBounds_toArray, List.set_cons_zero, List.set_cons_succ, i64_w, i32_w]; rfl)
   refine one_ (i := 2) (N := (some 157)) (pm 5 3) rfl rfl (by kernel_rfl) (by decide) (fun K hK => ?_)
   refine goes_ Tryz.func15 (by kernel_rfl) rfl #[.slice AS S.length cS, .agg #[.int .i64 n, .int .i64 g, .slice U2 r2.length k2, .slice U3 r3.length k3, .slice U4 r4.length k4, .slice U5 r5.length k5, .slice U6 r6.length k6]] rfl rfl rfl (by (try simp only [List.map_toArray, List.map_cons, List.map_nil]); rfl) ?_
   refine (auto_Check.calls AS cS S n g U2 k2 r2 U3 k3 r3 U4 k4 r4 U5 k5 r5 U6 k6 r6 c _ (Kd.C_below HS.out HO.out.b) LS.out (Kd.R_reads' HO.out.r2).2.2 (Kd.R_reads' HO.out.r2).2.1 (Kd.R_reads' HO.out.r3).2.2 (Kd.R_reads' HO.out.r3).2.1 (Kd.R_reads' HO.out.r4).2.2 (Kd.R_reads' HO.out.r4).2.1 (Kd.R_reads' HO.out.r5).2.2 (Kd.R_reads' HO.out.r5).2.1 (Kd.R_reads' HO.out.r6).2.2 (Kd.R_reads' HO.out.r6).2.1 HC.out).mono ?_
   rintro e we ⟨rfl, hb⟩
   have HO1 := Aside0.mk (HO.out.below hb)
   clear HO hb
   have HO := HO1
   clear HO1
   refine ⟨_, rfl, ?_⟩
   clear hHeld
   refine hK.out _ _ ⟨(blk_cell HO.out.t 0).trans rfl, (blk_cell HO.out.t 1).trans rfl, (blk_cell HO.out.t 2).trans rfl, (blk_cell HO.out.t 3).trans rfl, (blk_cell HO.out.t 4).trans rfl, (blk_cell HO.out.t 5).trans rfl, (blk_cell HO.out.t 6).trans rfl⟩ (fun hHeld => ?_)
   clear hK K
   obtain ⟨wq, rfl⟩ : ∃ wq : World, wq = we := ⟨_, rfl⟩
   refine norm_ (a' := ?_) ?_ ?_
   rotate_left
   ·show Act.put _ (some 157) _ = _
    simp only [Act.put, List.setIfInBounds_toArray, List.set_cons_zero, List.set_cons_succ, i64_w, i32_w]
    rfl
   refine one_ (i := 5) (N := (some 160)) (pm 6 2) rfl rfl (by kernel_rfl) (by decide) (fun K hK => ?_)
   refine goes_ Tryz.func17 (by kernel_rfl) rfl #[.slice AS S.length cS, .agg #[.int .i64 n, .int .i64 g, .slice U2 r2.length k2, .slice U3 r3.length k3, .slice U4 r4.length k4, .slice U5 r5.length k5, .slice U6 r6.length k6]] rfl rfl rfl (by (try simp only [List.map_toArray, List.map_cons, List.map_nil]); rfl) ?_
   refine (canopyref3_Check.calls AS cS S n g U2 k2 r2 U3 k3 r3 U4 k4 r4 U5 k5 r5 U6 k6 r6 c _ (Kd.C_below HS.out HO.out.b) LS.out (Kd.R_reads' HO.out.r2).2.2 (Kd.R_reads' HO.out.r2).2.1 (Kd.R_reads' HO.out.r3).2.2 (Kd.R_reads' HO.out.r3).2.1 (Kd.R_reads' HO.out.r4).2.2 (Kd.R_reads' HO.out.r4).2.1 (Kd.R_reads' HO.out.r5).2.2 (Kd.R_reads' HO.out.r5).2.1 (Kd.R_reads' HO.out.r6).2.2 (Kd.R_reads' HO.out.r6).2.1 HC.out).mono ?_
   rintro e we ⟨rfl, hb⟩
   have HO1 := Aside0.mk (HO.out.below hb)
   clear HO hb
   have HO := HO1
   clear HO1
   refine ⟨_, rfl, ?_⟩
   clear hHeld
   refine hK.out _ _ ⟨(blk_cell HO.out.t 0).trans rfl, (blk_cell HO.out.t 1).trans rfl, (blk_cell HO.out.t 2).trans rfl, (blk_cell HO.out.t 3).trans rfl, (blk_cell HO.out.t 4).trans rfl, (blk_cell HO.out.t 5).trans rfl, (blk_cell HO.out.t 6).trans rfl⟩ (fun hHeld => ?_)
   clear hK K
   obtain ⟨wq, rfl⟩ : ∃ wq : World, wq = we := ⟨_, rfl⟩
   refine norm_ (a' := ?_) ?_ ?_
   rotate_left
   ·show Act.put _ (some 160) _ = _
    simp only [Act.put, List.setIfInBounds_toArray, List.set_cons_zero, List.set_cons_succ, i64_w, i32_w]
    rfl
   iterate 2 (refine pn_ (v := ?_) (a' := ?_) rfl (rfl (a := some _)) (by kernel_rfl) (fun _ _ _ h => h) (Or.inl ⟨by rfl, ?_⟩) ?_ ?_; rotate_left; (intro w'; go_simp; with_reducible rfl); rotate_left; (simp only [Act.put, List.setIfInBounds_toArray, List.set_cons_zero, List.set_cons_succ, i64_w, i32_w]; rfl))
   refine done_ (by kernel_rfl) ?_
   have HBE : Aside0 (Below w.heap.size w wq) := ⟨below_then HB2.out HB2.out.size HO.out.b⟩
   go_wp2
   go_ret
   exact ⟨by first | rfl | (simp; done) | simp, HBE.out⟩
theorem canopylaw3_AutoChecks.walk (P : canopylaw3_AutoChecks.Pure) (a0 : Int) (a1 : Int) (a2 : Option Addr) (len2 cap2 : Nat) (z2 : List Int) (a3 : Int) (a4 : Int) (a5 : Int) (w : World) (w0 : (Lit.int .i64 a0).wf = true) (w1 : (Lit.int .i64 a1).wf = true) (w2 : (a2 = none ∧ len2 = 0 ∧ cap2 = 0 ∧ z2 = []) ∨ ∃ x, a2 = some x ∧ len2 ≤ cap2 ∧ cap2 ≤ maxLen ∧ z2.length = cap2 ∧ (∀ i, i < z2.length → w.cell? (x.add i) = some (.int .i64 (z2.getD i 0))) ∧ ∀ n ∈ z2, (Lit.int .i64 n).wf = true) (y2 : len2 * 8 ≤ 140737488351232) (w3 : (Lit.int .i64 a3).wf = true) (w4 : (Lit.int .i64 a4).wf = true) (w5 : (Lit.int .i64 a5).wf = true) :
 Calls Tryz.prog 3 #[.int .i64 a0, .int .i64 a1, .slice a2 len2 cap2, .int .i64 a3, .int .i64 a4, .int .i64 a5] w fun e w' => e = .returned (.bool true) ∧ Below w.heap.size w w' := by
 obtain ⟨l2, rfl, hr2, hm2, hw2, hc2⟩ := ReadsInt.ofRowC w2
 exact checks_walk a0 a1 _ _ l2 a3 a4 a5 w (Kd.C_of_reads (d := (0 : Int)) (h1 := fun _ => rfl) hr2) hc2 hm2
end Go.Proofs.YtejpijgfpbcibaaGreat.P
