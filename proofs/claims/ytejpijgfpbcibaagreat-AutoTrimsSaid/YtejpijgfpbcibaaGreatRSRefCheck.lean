/- Words and walks of this claim: SRefCheck. -/
import Derived.Test.YtejpijgfpbcibaaGreatRMFar
import Derived.Test.YtejpijgfpbcibaaGreatRSCheck
import Derived.Test.YtejpijgfpbcibaaGreatRMHasEtc
import Derived.Test.YtejpijgfpbcibaaGreatRP0Etc
set_option linter.unusedVariables false
set_option linter.unusedSimpArgs false
set_option linter.unnecessarySimpa false
namespace Go.Proofs.YtejpijgfpbcibaaGreat.P
open Go.RowKit Go.Proofs.YtejpijgfpbcibaaGreatW.PrintWords Go.Proofs.YtejpijgfpbcibaaGreatW.PrintLast Go.Proofs.YtejpijgfpbcibaaGreatW.PrintMore Go.Proofs.YtejpijgfpbcibaaGreat.M
theorem state_f (n g:Int) (l2 l3:List Int) (l4:List S36) (l5:List S38) (l6:List S40) (p:Int):canopyref3_state.f n g l2 l3 l4 l5 l6 p=some (!(outB n p)):=by
 unfold canopyref3_state.f outB
 by_cases h:p≥0
 ·rw [if_pos h, decide_eq_false (show ¬ p < 0 by omega)]
  by_cases h2:p < n
  ·rw [decide_eq_true h2,decide_eq_false (show ¬n≤p by omega)];rfl
  rw [decide_eq_false h2,decide_eq_true (show n≤p by omega)];rfl
 rw [if_neg h,decide_eq_true (show p < 0 by omega)];rfl
theorem kind_f (l:List S51) (s k:Int):canopyref3_kind.f l s k=some (isB l s k):=by
 unfold canopyref3_kind.f isB
 by_cases h1:s≥0
 ·by_cases h2 : s < (l.length : Int)
  ·rw [if_pos h1,if_pos h2,if_pos (show 0≤s from h1),decide_eq_true (show 0≤s from h1),decide_eq_true h2];rfl
  rw [if_pos h1,if_neg h2,decide_eq_false h2];simp
 rw [if_neg h1,decide_eq_false (show ¬0≤s from h1)];rfl
theorem below_cell1 {w w' : World} {ad:Addr} {v:Value} (hb:Below w.heap.size w w') (h:w.cell? ad=some v):w'.cell? ad=some v:=(World.cell?_of_block (hb.block ad.block (World.block_lt_of_cell? w _ h))).trans h
theorem auto_cells1 {w:World} {g t:Nat} {a b c d e f h:Value} (H:w.heap[g]? = some (.cells #[a,b,c,d,e,f,h] t (0,0))):w.cell? ⟨g,0,none⟩=some a∧w.cell? ⟨g,1,none⟩=some b∧w.cell? ⟨g,2,none⟩=some c∧w.cell? ⟨g,3,none⟩=some d∧w.cell? ⟨g,4,none⟩=some e∧w.cell? ⟨g,5,none⟩=some f∧w.cell? ⟨g,6,none⟩=some h∧g < w.heap.size:=
 ⟨(blk_cell H 0).trans rfl,(blk_cell H 1).trans rfl,(blk_cell H 2).trans rfl,(blk_cell H 3).trans rfl,(blk_cell H 4).trans rfl,(blk_cell H 5).trans rfl,(blk_cell H 6).trans rfl,blk_lt H⟩
theorem any_next {α:Type} (p:α→Bool) (l:List α) (i:Nat) (h:i < l.length):(l.take (i+1)).any p=((l.take i).any p || p l[i]):=take_any p l i h
theorem any_true {α:Type} {p:α→Bool} {l:List α} {i:Nat} (h:i < l.length) (hp:p l[i]=true):l.any p=true:=List.any_eq_true.2 ⟨_,List.getElem_mem h,hp⟩
set_option maxHeartbeats 16000000 in
set_option maxRecDepth 100000 in
theorem refcheck_own (A0:Option Addr) (c0:Nat) (l0:List S51) (n g:Int) (A2:Option Addr) (c2:Nat) (l2:List Int) (A3:Option Addr) (c3:Nat) (l3:List Int) (A4:Option Addr) (c4:Nat) (l4:List S36) (A5:Option Addr) (c5:Nat) (l5:List S38) (A6:Option Addr) (c6:Nat) (l6:List S40) (w:World) (h0:Kd.C k51 w A0 l0.length l0) (hc0:l0.length≤c0) (hl0:l0.length≤1000000000) (h2:Kd.C (Kd.int .i64) w A2 l2.length l2) (hc2:l2.length≤c2) (hl2:l2.length≤1000000000) (h3:Kd.C (Kd.int .i64) w A3 l3.length l3) (hc3:l3.length≤c3) (hl3:l3.length≤1000000000) (h4:Kd.C k36 w A4 l4.length l4) (hc4:l4.length≤c4) (hl4:l4.length≤1000000000) (h5:Kd.C k38 w A5 l5.length l5) (hc5:l5.length≤c5) (hl5:l5.length≤1000000000) (h6:Kd.C k40 w A6 l6.length l6) (hc6:l6.length≤c6) (hl6:l6.length≤1000000000) :
 Calls Tryz.prog 17 #[.slice A0 l0.length c0,.agg #[.int .i64 n,.int .i64 g,.slice A2 l2.length c2,.slice A3 l3.length c3,.slice A4 l4.length c4,.slice A5 l5.length c5,.slice A6 l6.length c6]] w fun e w'=>e=.returned (.int .i64 (if bigA n g l4.length l5.length l6.length then 9 else if ((((l2.any (outB n) || l3.any (outB n)) || l4.any (badO l0 n g)) || l5.any (badC l0 n g)) || l6.any (badI l0 n))=true then 9 else 0))∧Below w.heap.size w w':=by
 obtain⟨rv,hrv⟩:∃rv:Int,rv=(if bigA n g l4.length l5.length l6.length then 9 else if ((((l2.any (outB n) || l3.any (outB n)) || l4.any (badO l0 n g)) || l5.any (badC l0 n g)) || l6.any (badI l0 n))=true then 9 else 0):=⟨_,rfl⟩
 rw [←hrv]
 have HRV:=Aside0.mk hrv
 have HI0:=Aside0.mk (And.intro h0 (And.intro hc0 hl0))
 have HI2:=Aside0.mk (And.intro h2 (And.intro hc2 hl2))
 have HI3:=Aside0.mk (And.intro h3 (And.intro hc3 hl3))
 have HI4:=Aside0.mk (And.intro h4 (And.intro hc4 hl4))
 have HI5:=Aside0.mk (And.intro h5 (And.intro hc5 hl5))
 have HI6:=Aside0.mk (And.intro h6 (And.intro hc6 hl6))
 have m4:(l4.length:Int)≤1000000000:=by omega
 have m5:(l5.length:Int)≤1000000000:=by omega
 have m6:(l6.length:Int)≤1000000000:=by omega
 clear hrv h0 hc0 hl0 h2 hc2 hl2 h3 hc3 hl3 h4 hc4 hl4 h5 hc5 hl5 h6 hc6 hl6
 have HA:Aside0 ((w.alloc (.cells #[.int .i64 n,.int .i64 g,.slice A2 l2.length c2,.slice A3 l3.length c3,.slice A4 l4.length c4,.slice A5 l5.length c5,.slice A6 l6.length c6] 30)).heap[w.heap.size]? = some (.cells #[.int .i64 n,.int .i64 g,.slice A2 l2.length c2,.slice A3 l3.length c3,.slice A4 l4.length c4,.slice A5 l5.length c5,.slice A6 l6.length c6] 30 (0,0))):=⟨blk_newAt _ rfl⟩
 have HB:Aside0 (Below w.heap.size w (w.alloc (.cells #[.int .i64 n,.int .i64 g,.slice A2 l2.length c2,.slice A3 l3.length c3,.slice A4 l4.length c4,.slice A5 l5.length c5,.slice A6 l6.length c6] 30))):=⟨below_alloc (Below.refl _ _) _⟩
 go_enter Tryz.func17,Tryz.ntmps17
 go_upto_region 1 with (fail)
 obtain⟨wq,hwq⟩:∃wq:World,wq=w.alloc (.cells #[.int .i64 n,.int .i64 g,.slice A2 l2.length c2,.slice A3 l3.length c3,.slice A4 l4.length c4,.slice A5 l5.length c5,.slice A6 l6.length c6] 30):=⟨_,rfl⟩
 obtain⟨ga,hga⟩:∃ga,ga=w.heap.size:=⟨_,rfl⟩
 rw [←hga] at HA
 rw [←hwq] at HA HB
 rw [←hwq,←hga]
 clear hwq hga
 have b0:=(blk_cell HA.out 0).trans (show (#[.int .i64 n,.int .i64 g,.slice A2 l2.length c2,.slice A3 l3.length c3,.slice A4 l4.length c4,.slice A5 l5.length c5,.slice A6 l6.length c6]:Array Value)[0]? = some (.int .i64 n) from rfl)
 have b1:=(blk_cell HA.out 1).trans (show (#[.int .i64 n,.int .i64 g,.slice A2 l2.length c2,.slice A3 l3.length c3,.slice A4 l4.length c4,.slice A5 l5.length c5,.slice A6 l6.length c6]:Array Value)[1]? = some (.int .i64 g) from rfl)
 have b2:=(blk_cell HA.out 2).trans (show (#[.int .i64 n,.int .i64 g,.slice A2 l2.length c2,.slice A3 l3.length c3,.slice A4 l4.length c4,.slice A5 l5.length c5,.slice A6 l6.length c6]:Array Value)[2]? = some (.slice A2 l2.length c2) from rfl)
 have b3:=(blk_cell HA.out 3).trans (show (#[.int .i64 n,.int .i64 g,.slice A2 l2.length c2,.slice A3 l3.length c3,.slice A4 l4.length c4,.slice A5 l5.length c5,.slice A6 l6.length c6]:Array Value)[3]? = some (.slice A3 l3.length c3) from rfl)
 have b4:=(blk_cell HA.out 4).trans (show (#[.int .i64 n,.int .i64 g,.slice A2 l2.length c2,.slice A3 l3.length c3,.slice A4 l4.length c4,.slice A5 l5.length c5,.slice A6 l6.length c6]:Array Value)[4]? = some (.slice A4 l4.length c4) from rfl)
 have b5:=(blk_cell HA.out 5).trans (show (#[.int .i64 n,.int .i64 g,.slice A2 l2.length c2,.slice A3 l3.length c3,.slice A4 l4.length c4,.slice A5 l5.length c5,.slice A6 l6.length c6]:Array Value)[5]? = some (.slice A5 l5.length c5) from rfl)
 have b6:=(blk_cell HA.out 6).trans (show (#[.int .i64 n,.int .i64 g,.slice A2 l2.length c2,.slice A3 l3.length c3,.slice A4 l4.length c4,.slice A5 l5.length c5,.slice A6 l6.length c6]:Array Value)[6]? = some (.slice A6 l6.length c6) from rfl)
 have w1_:wrap64 ((l4.length:Int)+(l5.length:Int))=(l4.length:Int)+(l5.length:Int):=by unfold wrap64;omega
 have w2_:wrap64 ((l4.length:Int)+(l5.length:Int)+(l6.length:Int))=(l4.length:Int)+(l5.length:Int)+(l6.length:Int):=by unfold wrap64;omega
 by_cases q0:n < 0
 ·have HX : Aside0 (rv = 9) := ⟨by rw [HRV.out, show bigA n g l4.length l5.length l6.length = true by unfold bigA; simp [q0]]; rfl⟩
  have s0:=eq_true q0
  have d0:=decide_eq_true q0
  clear q0
  go_wp2
  go_ret
  exact⟨by rw [HX.out];rfl,HB.out⟩
 have Q0:=Aside0.mk q0
 have s0:=eq_false q0
 have d0:=decide_eq_false q0
 clear q0
 by_cases q1:200 < n
 ·have HX : Aside0 (rv = 9) := ⟨by rw [HRV.out, show bigA n g l4.length l5.length l6.length = true by unfold bigA; simp [Q0.out, q1]]; rfl⟩
  have s1:=eq_true q1
  have d1:=decide_eq_true q1
  clear q1
  go_wp2
  go_ret
  exact⟨by rw [HX.out];rfl,HB.out⟩
 have Q1:=Aside0.mk q1
 have s1:=eq_false q1
 have d1:=decide_eq_false q1
 clear q1
 by_cases q2:g < 0
 ·have HX : Aside0 (rv = 9) := ⟨by rw [HRV.out, show bigA n g l4.length l5.length l6.length = true by unfold bigA; simp [Q0.out, Q1.out, q2]]; rfl⟩
  have s2:=eq_true q2
  have d2:=decide_eq_true q2
  clear q2
  go_wp2
  go_ret
  exact⟨by rw [HX.out];rfl,HB.out⟩
 have Q2:=Aside0.mk q2
 have s2:=eq_false q2
 have d2:=decide_eq_false q2
 clear q2
 by_cases q3:10000 < g
 ·have HX : Aside0 (rv = 9) := ⟨by rw [HRV.out, show bigA n g l4.length l5.length l6.length = true by unfold bigA; simp [Q0.out, Q1.out, Q2.out, q3]]; rfl⟩
  have s3:=eq_true q3
  have d3:=decide_eq_true q3
  clear q3
  go_wp2
  go_ret
  exact⟨by rw [HX.out];rfl,HB.out⟩
 have Q3:=Aside0.mk q3
 have s3:=eq_false q3
 have d3:=decide_eq_false q3
 clear q3
 by_cases q4:100000 < (l4.length:Int)+(l5.length:Int)+(l6.length:Int)
 ·have HX : Aside0 (rv = 9) := ⟨by rw [HRV.out, show bigA n g l4.length l5.length l6.length = true by unfold bigA; simp [Q0.out, Q1.out, Q2.out, Q3.out, q4]]; rfl⟩
  have s4:=eq_true q4
  have d4:=decide_eq_true q4
  clear q4
  go_wp2
  go_ret
  exact⟨by rw [HX.out];rfl,HB.out⟩
 have Q4:=Aside0.mk q4
 have s4:=eq_false q4
 have d4:=decide_eq_false q4
 clear q4
 have HBG:Aside0 (bigA n g l4.length l5.length l6.length=false):=⟨by unfold bigA;simp [Q0.out,Q1.out,Q2.out,Q3.out,Q4.out]⟩
 have HRn:=Aside0.mk (HRV.out.trans (by rw [HBG.out];rfl:_=(if ((((l2.any (outB n) || l3.any (outB n)) || l4.any (badO l0 n g)) || l5.any (badC l0 n g)) || l6.any (badI l0 n))=true then (9:Int) else 0)))
 clear HRV
 have HRV:=HRn
 clear HRn HBG
 go_upto_region 3 with (fail)
 clear Q0 Q1 Q2 Q3 Q4 s0 s1 s2 s3 s4 d0 d1 d2 d3 d4 w1_ w2_
 clear b0 b1 b2 b3 b4 b5 b6
 refine start_ (n:=8) (S:=fun w'=>w'.cell? ⟨ga,2,none⟩=some (.slice A2 l2.length c2)∧w'.cell? ⟨ga,3,none⟩=some (.slice A3 l3.length c3)) (ds:=[]) (pm 0 8) (by kernel_rfl) rfl rfl ⟨(blk_cell (blk_drew HA.out) 2).trans rfl,(blk_cell (blk_drew HA.out) 3).trans rfl⟩ (fun hHeld=>?_)
 have HAd:=Aside0.mk (blk_drew HA.out)
 have HBd:Aside0 (Below w.heap.size w wq.drew):=⟨below_drew HB.out⟩
 clear HA HB
 obtain⟨wd,hwd⟩:∃wd:World,wd=wq.drew:=⟨_,rfl⟩
 rw [←hwd] at HAd HBd hHeld ⊢
 clear hwd
 try clear wq
 refine po_ 1 (v:=?_) (a':=?_) rfl (rfl (a:=some _)) (by kernel_rfl) (fun _ _ _ h=>h) (Or.inl ⟨by rfl,?_⟩) ?_ ?_;rotate_left;(intro w';go_simp;with_reducible rfl);rotate_left;(simp only [Act.put,M.sq3,i64_w,i32_w];rfl)
 refine to_ 2 (v:=?_) (a':=?_) rfl (rfl (a:=some _)) (by kernel_rfl) (fun _ _ _ h=>h) (Or.inl ⟨by rfl,?_⟩) hHeld ?_ ?_;rotate_left;(intro w' hS_;obtain⟨s0,s1⟩:=hS_;go_simp;with_reducible rfl);rotate_left;(simp only [Act.put,M.sq3,i64_w,i32_w];rfl)
 refine po_ 4 (v:=?_) (a':=?_) rfl (rfl (a:=some _)) (by kernel_rfl) (fun _ _ _ h=>h) (Or.inl ⟨by rfl,?_⟩) ?_ ?_;rotate_left;(intro w';go_simp;with_reducible rfl);rotate_left;(simp only [Act.put,M.sq3,i64_w,i32_w];rfl)
 refine to_ 5 (v:=?_) (a':=?_) rfl (rfl (a:=some _)) (by kernel_rfl) (fun _ _ _ h=>h) (Or.inl ⟨by rfl,?_⟩) hHeld ?_ ?_;rotate_left;(intro w' hS_;obtain⟨s0,s1⟩:=hS_;go_simp;with_reducible rfl);rotate_left;(simp only [Act.put,M.sq3,i64_w,i32_w];rfl)
 refine one_ (i:=0) (N:=(some 45)) #[true,true,true,false,true,true,false,false] rfl rfl (by kernel_rfl) (by decide) (fun K hK=>?_)
 refine Kd.R_lit_step (Kd.int .i64) _ 3 ?hg (N:=45) ?hd (xs:=([]:List Int)) (inner:=[]) (ok:=fun _=>True) (okp:=fun _=>True) ?hr ?hp (fun _ hk=>hk) trivial (Below.refl _ _) (Nat.le_refl _) (by simp) ?_
 case hd=>rfl
 case hg=>rfl
 case hr=>first|(go_simp;done)|(go_simp;rfl)
 case hp=>exact(Reps.none _ _)
 intro v0 wa ho hb hg_ hn_
 clear hg_ hn_
 have HX0:=Aside0.mk ho
 have HBa:=Aside0.mk hb
 obtain⟨A0_,c0_,rfl⟩:=Kd.R_slice HX0.out
 have HAa:=Aside0.mk (blk_below HAd.out hb)
 clear ho hb
 clear hHeld
 refine hK.out _ _ ⟨(blk_cell HAa.out 2).trans rfl,(blk_cell HAa.out 3).trans rfl⟩ (fun hHeld=>?_)
 clear hK K
 refine norm_ (a':=?_) ?_ ?_
 rotate_left
 ·show Act.put _ (some 45) _ = _
  simp only [Act.put,M.sq3,i64_w,i32_w]
  rfl
 refine one_ (i:=3) (N:=(some 48)) (pm 6 2) rfl rfl (by kernel_rfl) (by decide) (fun K hK=>?_)
 refine Kd.R_append_rows_step (Kd.int .i64) (w0:=wd) wd.heap.size (by rfl) (.tmp 45) (.tmp 47) 22 3 (.int .i64 0) 8 rfl Tryz.underlying22 infoInt rfl (by decide) (by omega) (.slice A0_ ([]:List Int).length c0_) [] l2 _ _ _ (fun _=>True) (fun _=>False) rfl rfl HX0.out (Kd.C_below (Kd.C_below HI2.out.1 HBd.out) HBa.out) (fun _ _ h=>h) (fun _ h=>h.elim) (fun _ _=>trivial) HBa.out HBa.out.size ?aL ?_
 case aL=>have:=HI2.out;have:=HI3.out;first|omega|(simp;omega)
 intro v1 wb ho hb hg_ hn_
 clear hg_ hn_
 have HX1:=Aside0.mk ho
 have HBwb:=Aside0.mk hb
 have HAwb:=Aside0.mk (blk_below HAd.out hb)
 clear ho hb
 clear hHeld
 refine hK.out _ _ ⟨(blk_cell HAwb.out 2).trans rfl,(blk_cell HAwb.out 3).trans rfl⟩ (fun hHeld=>?_)
 clear hK K
 refine norm_ (a':=?_) ?_ ?_
 rotate_left
 ·show Act.put _ (some 48) _ = _
  simp only [Act.put,M.sq3,i64_w,i32_w]
  rfl
 obtain⟨y1,hy1⟩:∃y,y=([]:List Int) ++ l2:=⟨_,rfl⟩
 rw [←hy1] at HX1
 obtain⟨A1_,c1_,rfl⟩:=Kd.R_slice HX1.out
 have HY1:Aside0 (y1=l2):=⟨hy1⟩
 have HYL:Aside0 (y1.length≤1000000000):=⟨by rw [HY1.out];exact HI2.out.2.2⟩
 clear hy1
 refine one_ (i:=6) (N:=(some 51)) (pm 7 1) rfl rfl (by kernel_rfl) (by decide) (fun K hK=>?_)
 refine Kd.R_append_rows_step (Kd.int .i64) (w0:=wd) wd.heap.size (by rfl) (.tmp 48) (.tmp 50) 22 3 (.int .i64 0) 8 rfl Tryz.underlying22 infoInt rfl (by decide) (by omega) (.slice A1_ y1.length c1_) y1 l3 _ _ _ (fun _=>True) (fun _=>False) rfl rfl HX1.out (Kd.C_below (Kd.C_below HI3.out.1 HBd.out) HBwb.out) (fun _ _ h=>h) (fun _ h=>h.elim) (fun _ _=>trivial) HBwb.out HBwb.out.size ?aL ?_
 case aL=>have:=HYL.out;have:=HI3.out;first|omega|(simp;omega)
 intro v2 wc ho hb hg_ hn_
 clear hg_ hn_
 have HX2:=Aside0.mk ho
 have HBwc:=Aside0.mk hb
 have HAwc:=Aside0.mk (blk_below HAd.out hb)
 clear ho hb
 clear hHeld
 refine hK.out _ _ ⟨(blk_cell HAwc.out 2).trans rfl,(blk_cell HAwc.out 3).trans rfl⟩ (fun hHeld=>?_)
 clear hK K
 refine norm_ (a':=?_) ?_ ?_
 rotate_left
 ·show Act.put _ (some 51) _ = _
  simp only [Act.put,M.sq3,i64_w,i32_w]
  rfl
 obtain⟨q,hq⟩:∃y,y=y1 ++ l3:=⟨_,rfl⟩
 rw [←hq] at HX2
 obtain⟨Aq,cq,rfl⟩:=Kd.R_slice HX2.out
 have HQE:Aside0 (q=l2 ++ l3):=⟨by rw [hq,HY1.out]⟩
 have HQL:Aside0 (q.length≤2000000000):=⟨by rw [HQE.out,List.length_append];have:=HI2.out.2.2;have:=HI3.out.2.2;omega⟩
 clear hq
 refine pn_ (v:=?_) (a':=?_) rfl (rfl (a:=some _)) (by kernel_rfl) (fun _ _ _ h=>h) (Or.inl ⟨by rfl,?_⟩) ?_ ?_;rotate_left;(intro w';go_simp;with_reducible rfl);rotate_left;(simp only [Act.put,M.sq3,i64_w,i32_w];rfl)
 refine done_ (by kernel_rfl) ?_
 have HB:Aside0 (Below w.heap.size w wc):=⟨below_then HBd.out HBd.out.size HBwc.out⟩
 have HA:Aside0 (wc.heap[ga]? = some (.cells #[.int .i64 n,.int .i64 g,.slice A2 l2.length c2,.slice A3 l3.length c3,.slice A4 l4.length c4,.slice A5 l5.length c5,.slice A6 l6.length c6] 30 (0,0))):=⟨HAwc.out⟩
 have HQ:=Aside0.mk (Kd.R_reads' HX2.out).2.2
 clear HBd HAd HBa HAa HX0 HBwb HAwb HX1 HBwc HAwc HX2 HY1 HYL hHeld
 obtain⟨wq,rfl⟩:∃wq:World,wq=wc:=⟨_,rfl⟩
 have mq:(q.length:Int)≤2000000000:=by have:=HQL.out;omega
 go_wp2
 go_loopg [6] q.length (fun gk v6 w'=>∃i:Nat,v6=.int .i64 (i:Int)∧Aside0 (i≤q.length∧q.length - i≤gk)∧Aside0 ((q.take i).any (outB n)=false)∧Aside0 (Below w.heap.size w w')∧Aside0 (w'.heap[ga]? = some (.cells #[.int .i64 n,.int .i64 g,.slice A2 l2.length c2,.slice A3 l3.length c3,.slice A4 l4.length c4,.slice A5 l5.length c5,.slice A6 l6.length c6] 30 (0,0)))∧Aside0 (Kd.C (Kd.int .i64) w' Aq q.length q))
 case atStart=>exact⟨0,rfl,⟨by omega,by omega⟩,⟨rfl⟩,HB,HA,HQ⟩
 case' round=>skip
 clear HB HA HQ
 obtain⟨i,rfl,Hi,HN,HB,HA,HQ⟩:=hrel
 try clear wq
 obtain⟨wq,rfl⟩:∃wq:World,wq=wr:=⟨_,rfl⟩
 by_cases hlt:i < q.length
 ·have HLT := Aside0.mk hlt
  obtain⟨ad,eA,cx⟩:=int_at HQ.out i hlt
  have HNX:=Aside0.mk (any_next (outB n) q i hlt)
  have HTR:Aside0 (outB n q[i]=true→q.any (outB n)=true):=⟨any_true hlt⟩
  generalize q[i]=x at cx HNX HTR
  have t1:=eq_true (show (i:Int) < (q.length:Int) by omega)
  have t2:=eq_true (show (0:Int)≤(i:Int) by omega)
  subst eA
  clear hlt
  go_upto_region 7 with (fail)
  refine start_ (n:=7) (S:=fun w'=>w'.cell? ⟨ga,0,none⟩=some (.int .i64 n)∧w'.cell? ⟨ga,1,none⟩=some (.int .i64 g)∧w'.cell? ⟨ga,2,none⟩=some (.slice A2 l2.length c2)∧w'.cell? ⟨ga,3,none⟩=some (.slice A3 l3.length c3)∧w'.cell? ⟨ga,4,none⟩=some (.slice A4 l4.length c4)∧w'.cell? ⟨ga,5,none⟩=some (.slice A5 l5.length c5)∧w'.cell? ⟨ga,6,none⟩=some (.slice A6 l6.length c6)∧w'.cell? (ad.add i)=some (.int .i64 x)) (ds:=[]) (pm 0 7) (by kernel_rfl) rfl rfl ⟨(blk_cell (blk_drew HA.out) 0).trans rfl,(blk_cell (blk_drew HA.out) 1).trans rfl,(blk_cell (blk_drew HA.out) 2).trans rfl,(blk_cell (blk_drew HA.out) 3).trans rfl,(blk_cell (blk_drew HA.out) 4).trans rfl,(blk_cell (blk_drew HA.out) 5).trans rfl,(blk_cell (blk_drew HA.out) 6).trans rfl,cx⟩ (fun hHeld=>?_)
  have HAn:=Aside0.mk (blk_drew HA.out)
  have HBn:Aside0 (Below w.heap.size w wq.drew):=⟨below_drew HB.out⟩
  have HQn:Aside0 (Kd.C (Kd.int .i64) wq.drew (some ad) q.length q):=⟨Kd.C_below HQ.out (below_drew (Below.refl _ _))⟩
  have cy:wq.drew.cell? (ad.add i)=some (.int .i64 x):=cx
  clear HA HB HQ cx
  obtain⟨wd,hwd⟩:∃wd:World,wd=wq.drew:=⟨_,rfl⟩
  rw [←hwd] at HAn HBn HQn cy hHeld ⊢
  clear hwd
  try clear wq
  have CY:=Aside0.mk cy
  clear cy
  iterate 5 (first|(refine pn_ (v:=?_) (a':=?_) rfl (rfl (a:=some _)) (by kernel_rfl) (fun _ _ _ h=>h) (Or.inl ⟨by rfl,?_⟩) ?_ ?_;rotate_left;(intro w';go_simp;with_reducible rfl);rotate_left;(simp only [Act.put,M.sq3,i64_w,i32_w];rfl))|(refine tn_ (v:=?_) (a':=?_) rfl (rfl (a:=some _)) (by kernel_rfl) (fun _ _ _ h=>h) (Or.inl ⟨by rfl,?_⟩) hHeld ?_ ?_;rotate_left;(intro w' hS_;obtain⟨s0,s1,s2,s3,s4,s5,s6,s7⟩:=hS_;go_simp;with_reducible rfl);rotate_left;(simp only [Act.put,M.sq3,i64_w,i32_w];rfl)))
  refine one_ (i:=5) (N:=(some 63)) (pm 6 1) rfl rfl (by kernel_rfl) (by decide) (fun K hK=>?_)
  refine goes_ Tryz.func34 (by kernel_rfl) rfl #[.agg #[.int .i64 n,.int .i64 g,.slice A2 l2.length c2,.slice A3 l3.length c3,.slice A4 l4.length c4,.slice A5 l5.length c5,.slice A6 l6.length c6],.int .i64 x] rfl rfl rfl (by(try simp only [List.map_toArray,List.map_cons,List.map_nil]);rfl) ?_
  refine(canopyref3_state.calls n g A2 c2 l2 A3 c3 l3 A4 c4 l4 A5 c5 l5 A6 c6 l6 x _ _ (Kd.C_below HI2.out.1 HBn.out) HI2.out.2.1 (Kd.C_below HI3.out.1 HBn.out) HI3.out.2.1 (Kd.C_below HI4.out.1 HBn.out) HI4.out.2.1 (Kd.C_below HI5.out.1 HBn.out) HI5.out.2.1 (Kd.C_below HI6.out.1 HBn.out) HI6.out.2.1 (state_f _ _ _ _ _ _ _ _)).mono ?_
  rintro e we ⟨rfl,hb⟩
  have HAe:=Aside0.mk (blk_below HAn.out hb)
  have HBe:Aside0 (Below w.heap.size w we):=⟨below_then HBn.out HBn.out.size hb⟩
  have HQe:=Aside0.mk (Kd.C_below HQn.out hb)
  have CE:Aside0 (we.cell? (ad.add i)=some (.int .i64 x)):=⟨below_cell1 hb CY.out⟩
  clear hb
  clear HAn HBn HQn CY
  refine⟨_,rfl,?_⟩
  clear hHeld
  refine hK.out _ _ ⟨(blk_cell HAe.out 0).trans rfl,(blk_cell HAe.out 1).trans rfl,(blk_cell HAe.out 2).trans rfl,(blk_cell HAe.out 3).trans rfl,(blk_cell HAe.out 4).trans rfl,(blk_cell HAe.out 5).trans rfl,(blk_cell HAe.out 6).trans rfl,CE.out⟩ (fun hHeld=>?_)
  clear hK K
  obtain⟨bo,hbo⟩:∃bo:Bool,bo=outB n x:=⟨_,rfl⟩
  rw [←hbo] at HNX HTR ⊢
  clear hbo
  refine norm_ (a':=?_) ?_ ?_
  rotate_left
  ·show Act.put _ (some 63) _ = _
   simp only [Act.put,M.sq3,i64_w,i32_w]
   rfl
  cases bo with
  | true=>
   refine pn_ (v:=?_) (a':=?_) rfl (rfl (a:=some _)) (by kernel_rfl) (fun _ _ _ h=>h) (Or.inl ⟨by rfl,?_⟩) ?_ ?_;rotate_left;(intro w';go_simp;with_reducible rfl);rotate_left;(simp only [Act.put,M.sq3,i64_w,i32_w];rfl)
   refine done_ (by kernel_rfl) ?_
   clear hHeld CE
   have HX:Aside0 (rv=9):=⟨HRV.out.trans (if_pos (by have h:=HTR.out rfl;rw [HQE.out,List.any_append] at h;rw [h];simp))⟩
   go_wp2
   go_ret
   exact⟨by rw [HX.out];rfl,HBe.out⟩
  | false=>
   refine pn_ (v:=?_) (a':=?_) rfl (rfl (a:=some _)) (by kernel_rfl) (fun _ _ _ h=>h) (Or.inl ⟨by rfl,?_⟩) ?_ ?_;rotate_left;(intro w';go_simp;with_reducible rfl);rotate_left;(simp only [Act.put,M.sq3,i64_w,i32_w];rfl)
   refine done_ (by kernel_rfl) ?_
   clear hHeld CE
   go_wp2
   go_roundg (q.length - (i+1))
   case measure=>have:=Hi.out;have:=HLT.out;omega
   case rel=>exact⟨i+1,by first|rfl|rw [show wrap64 ((i:Int)+1)=((i+1:Nat):Int) by have:=HLT.out;have:=HQL.out;unfold wrap64;omega],⟨HLT.out,Nat.le_refl _⟩,⟨by rw [HNX.out,HN.out];rfl⟩,HBe,HAe,HQe⟩
 have e4 : q.take i = q := List.take_of_length_le (by omega)
 have HRn:=Aside0.mk (HRV.out.trans (by have h:=HN.out;rw [e4,HQE.out,List.any_append] at h;rw [h,Bool.false_or]:_=(if ((l4.any (badO l0 n g) || l5.any (badC l0 n g)) || l6.any (badI l0 n))=true then (9:Int) else 0)))
 clear HRV
 have HRV:=HRn
 have t1:=eq_false (show ¬(i:Int) < (q.length:Int) by omega)
 clear HRn hlt Hi e4 HN HQ
 have b4:=(blk_cell HA.out 4).trans (show (#[.int .i64 n,.int .i64 g,.slice A2 l2.length c2,.slice A3 l3.length c3,.slice A4 l4.length c4,.slice A5 l5.length c5,.slice A6 l6.length c6]:Array Value)[4]? = some (.slice A4 l4.length c4) from rfl)
 go_wp2
 clear b4 t1
 go_loopg [7] l4.length (fun gk v7 w'=>∃i:Nat,v7=.int .i64 (i:Int)∧Aside0 (i≤l4.length∧l4.length - i≤gk)∧Aside0 ((l4.take i).any (badO l0 n g)=false)∧Aside0 (Below w.heap.size w w')∧Aside0 (w'.heap[ga]? = some (.cells #[.int .i64 n,.int .i64 g,.slice A2 l2.length c2,.slice A3 l3.length c3,.slice A4 l4.length c4,.slice A5 l5.length c5,.slice A6 l6.length c6] 30 (0,0))))
 case atStart=>exact⟨0,rfl,⟨by omega,by omega⟩,⟨rfl⟩,HB,HA⟩
 case' round=>skip
 clear HB HA
 obtain⟨i,rfl,Hi,HN,HB,HA⟩:=hrel
 try clear wq
 obtain⟨wq,rfl⟩:∃wq:World,wq=wr:=⟨_,rfl⟩
 have b4:=(blk_cell HA.out 4).trans (show (#[.int .i64 n,.int .i64 g,.slice A2 l2.length c2,.slice A3 l3.length c3,.slice A4 l4.length c4,.slice A5 l5.length c5,.slice A6 l6.length c6]:Array Value)[4]? = some (.slice A4 l4.length c4) from rfl)
 by_cases hlt:i < l4.length
 ·have HLT := Aside0.mk hlt
  obtain⟨ad,eA,k0,k1,k2,k3⟩:=at_T36 (Kd.C_below HI4.out.1 HB.out) (i:Int) (by omega) (by omega)
  have hrd:rd_T36 l4 (i:Int)=l4[i]:=by unfold rd_T36;rw [Int.toNat_natCast,List.getD_eq_getElem?_getD,List.getElem?_eq_getElem hlt];rfl
  rw [hrd,Int.toNat_natCast] at k0 k1 k2 k3
  have HNX:=Aside0.mk (any_next (badO l0 n g) l4 i hlt)
  have HTR:Aside0 ((badO l0 n g) l4[i]=true→l4.any (badO l0 n g)=true):=⟨any_true hlt⟩
  generalize l4[i]=x at HNX HTR k0 k1 k2 k3
  obtain⟨x0,x1,x2,x3⟩:=x
  have t1:=eq_true (show (i:Int) < (l4.length:Int) by omega)
  have t2:=eq_true (show (0:Int)≤(i:Int) by omega)
  subst eA
  clear hlt hrd
  have HX:Aside0 ((wq.alloc (.cells #[.int .i64 x0,.int .i64 x1,.int .i64 x2,.int .i64 x3] 36)).heap[wq.heap.size]? = some (.cells #[.int .i64 x0,.int .i64 x1,.int .i64 x2,.int .i64 x3] 36 (0,0))):=⟨blk_newAt _ rfl⟩
  have HBn:Aside0 (Below w.heap.size w (wq.alloc (.cells #[.int .i64 x0,.int .i64 x1,.int .i64 x2,.int .i64 x3] 36))):=⟨below_alloc HB.out _⟩
  have HAn:=Aside0.mk (blk_old HA.out (.cells #[.int .i64 x0,.int .i64 x1,.int .i64 x2,.int .i64 x3] 36))
  go_upto_region 13 with (fail)
  obtain⟨wv,hwv⟩:∃wv:World,wv=wq.alloc (.cells #[.int .i64 x0,.int .i64 x1,.int .i64 x2,.int .i64 x3] 36):=⟨_,rfl⟩
  rw [←hwv] at HX HBn HAn ⊢
  generalize wq.heap.size=vb at HX ⊢
  clear hwv t1 t2 b4 HB HA k0 k1 k2 k3
  try clear wq
  obtain⟨wq,rfl⟩:∃wq:World,wq=wv:=⟨_,rfl⟩
  have HE:Aside0 (badO l0 n g ⟨x0,x1,x2,x3⟩=(outB n x0 || (outB n x2 || (!(isB l0 x1 1) || (decide (x3 < 1) || decide (g < x3)))))):=⟨rfl⟩
  rw [HE.out] at HNX HTR
  clear HE
  obtain⟨b0,b1,b2,b3,b4,b5,b6,_⟩:=auto_cells1 HAn.out
  have z0:=(blk_cell HX.out 0).trans (show (#[.int .i64 x0,.int .i64 x1,.int .i64 x2,.int .i64 x3]:Array Value)[0]? = some (.int .i64 x0) from rfl)
  have z1:=(blk_cell HX.out 1).trans (show (#[.int .i64 x0,.int .i64 x1,.int .i64 x2,.int .i64 x3]:Array Value)[1]? = some (.int .i64 x1) from rfl)
  have z2:=(blk_cell HX.out 2).trans (show (#[.int .i64 x0,.int .i64 x1,.int .i64 x2,.int .i64 x3]:Array Value)[2]? = some (.int .i64 x2) from rfl)
  have z3:=(blk_cell HX.out 3).trans (show (#[.int .i64 x0,.int .i64 x1,.int .i64 x2,.int .i64 x3]:Array Value)[3]? = some (.int .i64 x3) from rfl)
  go_wp2_with fail
  refine(canopyref3_state.calls n g A2 c2 l2 A3 c3 l3 (some ad) c4 l4 A5 c5 l5 A6 c6 l6 x0 _ _ (Kd.C_below HI2.out.1 HBn.out) HI2.out.2.1 (Kd.C_below HI3.out.1 HBn.out) HI3.out.2.1 (Kd.C_below HI4.out.1 HBn.out) HI4.out.2.1 (Kd.C_below HI5.out.1 HBn.out) HI5.out.2.1 (Kd.C_below HI6.out.1 HBn.out) HI6.out.2.1 (state_f _ _ _ _ _ _ _ _)).mono ?_
  rintro e we ⟨rfl,hb⟩
  have HAm:=Aside0.mk (blk_below HAn.out hb)
  have HBm:Aside0 (Below w.heap.size w we):=⟨below_then HBn.out HBn.out.size hb⟩
  have HXm:=Aside0.mk (blk_below HX.out hb)
  clear HAn HBn HX b0 b1 b2 b3 b4 b5 b6 z0 z1 z2 z3
  have HAn:=HAm
  have HBn:=HBm
  have HX:=HXm
  clear HAm HBm HXm
  try clear wq
  obtain⟨wq,rfl⟩:∃wq:World,wq=we:=⟨_,rfl⟩
  obtain⟨bo,hbo⟩:∃bo:Bool,bo=outB n x0:=⟨_,rfl⟩
  rw [←hbo] at HNX HTR
  rw [←hbo]
  clear hb hbo
  cases bo with
  | true=>
   obtain⟨b0,b1,b2,b3,b4,b5,b6,_⟩:=auto_cells1 HAn.out
   have z0:=(blk_cell HX.out 0).trans (show (#[.int .i64 x0,.int .i64 x1,.int .i64 x2,.int .i64 x3]:Array Value)[0]? = some (.int .i64 x0) from rfl)
   have z1:=(blk_cell HX.out 1).trans (show (#[.int .i64 x0,.int .i64 x1,.int .i64 x2,.int .i64 x3]:Array Value)[1]? = some (.int .i64 x1) from rfl)
   have z2:=(blk_cell HX.out 2).trans (show (#[.int .i64 x0,.int .i64 x1,.int .i64 x2,.int .i64 x3]:Array Value)[2]? = some (.int .i64 x2) from rfl)
   have z3:=(blk_cell HX.out 3).trans (show (#[.int .i64 x0,.int .i64 x1,.int .i64 x2,.int .i64 x3]:Array Value)[3]? = some (.int .i64 x3) from rfl)
   have HXX:Aside0 (rv=9):=⟨HRV.out.trans (if_pos (by rw [HTR.out rfl];try simp))⟩
   go_wp2
   go_ret
   exact⟨by rw [HXX.out];rfl,HBn.out⟩
  | false=>
   have HT1:=Aside0.mk HTR.out
   clear HTR
   have HTR:Aside0 ((outB n x2 || (!(isB l0 x1 1) || (decide (x3 < 1) || decide (g < x3))))=true→l4.any (badO l0 n g)=true):=⟨fun h=>HT1.out (by rw [Bool.false_or];exact h)⟩
   have HN1:=Aside0.mk HNX.out
   clear HNX
   have HNX:=Aside0.mk (HN1.out.trans (by rw [Bool.false_or]))
   clear HN1 HT1
   obtain⟨b0,b1,b2,b3,b4,b5,b6,_⟩:=auto_cells1 HAn.out
   have z0:=(blk_cell HX.out 0).trans (show (#[.int .i64 x0,.int .i64 x1,.int .i64 x2,.int .i64 x3]:Array Value)[0]? = some (.int .i64 x0) from rfl)
   have z1:=(blk_cell HX.out 1).trans (show (#[.int .i64 x0,.int .i64 x1,.int .i64 x2,.int .i64 x3]:Array Value)[1]? = some (.int .i64 x1) from rfl)
   have z2:=(blk_cell HX.out 2).trans (show (#[.int .i64 x0,.int .i64 x1,.int .i64 x2,.int .i64 x3]:Array Value)[2]? = some (.int .i64 x2) from rfl)
   have z3:=(blk_cell HX.out 3).trans (show (#[.int .i64 x0,.int .i64 x1,.int .i64 x2,.int .i64 x3]:Array Value)[3]? = some (.int .i64 x3) from rfl)
   go_wp2_with fail
   refine(canopyref3_state.calls n g A2 c2 l2 A3 c3 l3 (some ad) c4 l4 A5 c5 l5 A6 c6 l6 x2 _ _ (Kd.C_below HI2.out.1 HBn.out) HI2.out.2.1 (Kd.C_below HI3.out.1 HBn.out) HI3.out.2.1 (Kd.C_below HI4.out.1 HBn.out) HI4.out.2.1 (Kd.C_below HI5.out.1 HBn.out) HI5.out.2.1 (Kd.C_below HI6.out.1 HBn.out) HI6.out.2.1 (state_f _ _ _ _ _ _ _ _)).mono ?_
   rintro e we ⟨rfl,hb⟩
   have HAm:=Aside0.mk (blk_below HAn.out hb)
   have HBm:Aside0 (Below w.heap.size w we):=⟨below_then HBn.out HBn.out.size hb⟩
   have HXm:=Aside0.mk (blk_below HX.out hb)
   clear HAn HBn HX b0 b1 b2 b3 b4 b5 b6 z0 z1 z2 z3
   have HAn:=HAm
   have HBn:=HBm
   have HX:=HXm
   clear HAm HBm HXm
   try clear wq
   obtain⟨wq,rfl⟩:∃wq:World,wq=we:=⟨_,rfl⟩
   obtain⟨bo,hbo⟩:∃bo:Bool,bo=outB n x2:=⟨_,rfl⟩
   rw [←hbo] at HNX HTR
   rw [←hbo]
   clear hb hbo
   cases bo with
   | true=>
    obtain⟨b0,b1,b2,b3,b4,b5,b6,_⟩:=auto_cells1 HAn.out
    have z0:=(blk_cell HX.out 0).trans (show (#[.int .i64 x0,.int .i64 x1,.int .i64 x2,.int .i64 x3]:Array Value)[0]? = some (.int .i64 x0) from rfl)
    have z1:=(blk_cell HX.out 1).trans (show (#[.int .i64 x0,.int .i64 x1,.int .i64 x2,.int .i64 x3]:Array Value)[1]? = some (.int .i64 x1) from rfl)
    have z2:=(blk_cell HX.out 2).trans (show (#[.int .i64 x0,.int .i64 x1,.int .i64 x2,.int .i64 x3]:Array Value)[2]? = some (.int .i64 x2) from rfl)
    have z3:=(blk_cell HX.out 3).trans (show (#[.int .i64 x0,.int .i64 x1,.int .i64 x2,.int .i64 x3]:Array Value)[3]? = some (.int .i64 x3) from rfl)
    have HXX:Aside0 (rv=9):=⟨HRV.out.trans (if_pos (by rw [HTR.out rfl];try simp))⟩
    go_wp2
    go_ret
    exact⟨by rw [HXX.out];rfl,HBn.out⟩
   | false=>
    have HT1:=Aside0.mk HTR.out
    clear HTR
    have HTR:Aside0 ((!(isB l0 x1 1) || (decide (x3 < 1) || decide (g < x3)))=true→l4.any (badO l0 n g)=true):=⟨fun h=>HT1.out (by rw [Bool.false_or];exact h)⟩
    have HN1:=Aside0.mk HNX.out
    clear HNX
    have HNX:=Aside0.mk (HN1.out.trans (by rw [Bool.false_or]))
    clear HN1 HT1
    obtain⟨b0,b1,b2,b3,b4,b5,b6,_⟩:=auto_cells1 HAn.out
    have z0:=(blk_cell HX.out 0).trans (show (#[.int .i64 x0,.int .i64 x1,.int .i64 x2,.int .i64 x3]:Array Value)[0]? = some (.int .i64 x0) from rfl)
    have z1:=(blk_cell HX.out 1).trans (show (#[.int .i64 x0,.int .i64 x1,.int .i64 x2,.int .i64 x3]:Array Value)[1]? = some (.int .i64 x1) from rfl)
    have z2:=(blk_cell HX.out 2).trans (show (#[.int .i64 x0,.int .i64 x1,.int .i64 x2,.int .i64 x3]:Array Value)[2]? = some (.int .i64 x2) from rfl)
    have z3:=(blk_cell HX.out 3).trans (show (#[.int .i64 x0,.int .i64 x1,.int .i64 x2,.int .i64 x3]:Array Value)[3]? = some (.int .i64 x3) from rfl)
    go_wp2_with fail
    refine(canopyref3_kind.calls A0 c0 l0 x1 1 _ _ (Kd.C_below HI0.out.1 HBn.out) HI0.out.2.1 (kind_f _ _ _)).mono ?_
    rintro e we ⟨rfl,hd⟩
    have HAm:=Aside0.mk (blk_below HAn.out hd.below)
    have HBm:Aside0 (Below w.heap.size w we):=⟨below_then HBn.out HBn.out.size hd.below⟩
    have HXm:=Aside0.mk (blk_below HX.out hd.below)
    clear HAn HBn HX b0 b1 b2 b3 b4 b5 b6 z0 z1 z2 z3
    have HAn:=HAm
    have HBn:=HBm
    have HX:=HXm
    clear HAm HBm HXm
    try clear wq
    obtain⟨wq,rfl⟩:∃wq:World,wq=we:=⟨_,rfl⟩
    obtain⟨bo,hbo⟩:∃bo:Bool,bo=isB l0 x1 1:=⟨_,rfl⟩
    rw [←hbo] at HNX HTR
    rw [←hbo]
    clear hd hbo
    cases bo with
    | false=>
     obtain⟨b0,b1,b2,b3,b4,b5,b6,_⟩:=auto_cells1 HAn.out
     have z0:=(blk_cell HX.out 0).trans (show (#[.int .i64 x0,.int .i64 x1,.int .i64 x2,.int .i64 x3]:Array Value)[0]? = some (.int .i64 x0) from rfl)
     have z1:=(blk_cell HX.out 1).trans (show (#[.int .i64 x0,.int .i64 x1,.int .i64 x2,.int .i64 x3]:Array Value)[1]? = some (.int .i64 x1) from rfl)
     have z2:=(blk_cell HX.out 2).trans (show (#[.int .i64 x0,.int .i64 x1,.int .i64 x2,.int .i64 x3]:Array Value)[2]? = some (.int .i64 x2) from rfl)
     have z3:=(blk_cell HX.out 3).trans (show (#[.int .i64 x0,.int .i64 x1,.int .i64 x2,.int .i64 x3]:Array Value)[3]? = some (.int .i64 x3) from rfl)
     have HXX:Aside0 (rv=9):=⟨HRV.out.trans (if_pos (by rw [HTR.out rfl];try simp))⟩
     go_wp2
     go_ret
     exact⟨by rw [HXX.out];rfl,HBn.out⟩
    | true=>
     obtain⟨b0,b1,b2,b3,b4,b5,b6,_⟩:=auto_cells1 HAn.out
     have z0:=(blk_cell HX.out 0).trans (show (#[.int .i64 x0,.int .i64 x1,.int .i64 x2,.int .i64 x3]:Array Value)[0]? = some (.int .i64 x0) from rfl)
     have z1:=(blk_cell HX.out 1).trans (show (#[.int .i64 x0,.int .i64 x1,.int .i64 x2,.int .i64 x3]:Array Value)[1]? = some (.int .i64 x1) from rfl)
     have z2:=(blk_cell HX.out 2).trans (show (#[.int .i64 x0,.int .i64 x1,.int .i64 x2,.int .i64 x3]:Array Value)[2]? = some (.int .i64 x2) from rfl)
     have z3:=(blk_cell HX.out 3).trans (show (#[.int .i64 x0,.int .i64 x1,.int .i64 x2,.int .i64 x3]:Array Value)[3]? = some (.int .i64 x3) from rfl)
     by_cases p1:x3 < 1
     ·have s1 := eq_true p1
      have d1:=decide_eq_true p1
      rw [d1] at HTR
      clear p1
      have HXX:Aside0 (rv=9):=⟨HRV.out.trans (if_pos (by rw [HTR.out rfl];try simp))⟩
      go_wp2
      go_ret
      exact⟨by rw [HXX.out];rfl,HBn.out⟩
     have s1:=eq_false p1
     have d1:=decide_eq_false p1
     rw [d1] at HTR HNX
     clear p1
     by_cases p2:g < x3
     ·have s2 := eq_true p2
      have d2:=decide_eq_true p2
      rw [d2] at HTR
      clear p2
      have HXX:Aside0 (rv=9):=⟨HRV.out.trans (if_pos (by rw [HTR.out rfl];try simp))⟩
      go_wp2
      go_ret
      exact⟨by rw [HXX.out];rfl,HBn.out⟩
     have s2:=eq_false p2
     have d2:=decide_eq_false p2
     rw [d2] at HNX
     clear p2
     go_wp2
     go_roundg (l4.length - (i+1))
     case measure=>have:=Hi.out;have:=HLT.out;omega
     case rel=>exact⟨i+1,by first|rfl|rw [show wrap64 ((i:Int)+1)=((i+1:Nat):Int) by have:=HLT.out;have:=HI4.out.2.2;unfold wrap64;omega],⟨HLT.out,Nat.le_refl _⟩,⟨by rw [HNX.out,HN.out];rfl⟩,HBn,HAn⟩
 have e4 : l4.take i = l4 := List.take_of_length_le (by omega)
 have HRn:=Aside0.mk (HRV.out.trans (by have h:=HN.out;rw [e4] at h;rw [h];rfl:_=(if (l5.any (badC l0 n g) || l6.any (badI l0 n))=true then (9:Int) else 0)))
 clear HRV
 have HRV:=HRn
 have t1:=eq_false (show ¬(i:Int) < (l4.length:Int) by omega)
 clear HRn hlt Hi e4 HN
 go_upto_region 15 with (fail)
 clear b4
 have b5:=(blk_cell HA.out 5).trans (show (#[.int .i64 n,.int .i64 g,.slice A2 l2.length c2,.slice A3 l3.length c3,.slice A4 l4.length c4,.slice A5 l5.length c5,.slice A6 l6.length c6]:Array Value)[5]? = some (.slice A5 l5.length c5) from rfl)
 go_wp2
 clear b5 t1
 go_loopg [9] l5.length (fun gk v9 w'=>∃i:Nat,v9=.int .i64 (i:Int)∧Aside0 (i≤l5.length∧l5.length - i≤gk)∧Aside0 ((l5.take i).any (badC l0 n g)=false)∧Aside0 (Below w.heap.size w w')∧Aside0 (w'.heap[ga]? = some (.cells #[.int .i64 n,.int .i64 g,.slice A2 l2.length c2,.slice A3 l3.length c3,.slice A4 l4.length c4,.slice A5 l5.length c5,.slice A6 l6.length c6] 30 (0,0))))
 case atStart=>exact⟨0,rfl,⟨by omega,by omega⟩,⟨rfl⟩,HB,HA⟩
 case' round=>skip
 clear HB HA
 obtain⟨i,rfl,Hi,HN,HB,HA⟩:=hrel
 try clear wq
 obtain⟨wq,rfl⟩:∃wq:World,wq=wr:=⟨_,rfl⟩
 have b5:=(blk_cell HA.out 5).trans (show (#[.int .i64 n,.int .i64 g,.slice A2 l2.length c2,.slice A3 l3.length c3,.slice A4 l4.length c4,.slice A5 l5.length c5,.slice A6 l6.length c6]:Array Value)[5]? = some (.slice A5 l5.length c5) from rfl)
 by_cases hlt:i < l5.length
 ·have HLT := Aside0.mk hlt
  obtain⟨ad,eA,k0,k1,k2,k3⟩:=at_T38 (Kd.C_below HI5.out.1 HB.out) (i:Int) (by omega) (by omega)
  have hrd:rd_T38 l5 (i:Int)=l5[i]:=by unfold rd_T38;rw [Int.toNat_natCast,List.getD_eq_getElem?_getD,List.getElem?_eq_getElem hlt];rfl
  rw [hrd,Int.toNat_natCast] at k0 k1 k2 k3
  have HNX:=Aside0.mk (any_next (badC l0 n g) l5 i hlt)
  have HTR:Aside0 ((badC l0 n g) l5[i]=true→l5.any (badC l0 n g)=true):=⟨any_true hlt⟩
  generalize l5[i]=x at HNX HTR k0 k1 k2 k3
  obtain⟨x0,x1,x2,x3⟩:=x
  have t1:=eq_true (show (i:Int) < (l5.length:Int) by omega)
  have t2:=eq_true (show (0:Int)≤(i:Int) by omega)
  subst eA
  clear hlt hrd
  have HX:Aside0 ((wq.alloc (.cells #[.int .i64 x0,.int .i64 x1,.int .i64 x2,.int .i64 x3] 38)).heap[wq.heap.size]? = some (.cells #[.int .i64 x0,.int .i64 x1,.int .i64 x2,.int .i64 x3] 38 (0,0))):=⟨blk_newAt _ rfl⟩
  have HBn:Aside0 (Below w.heap.size w (wq.alloc (.cells #[.int .i64 x0,.int .i64 x1,.int .i64 x2,.int .i64 x3] 38))):=⟨below_alloc HB.out _⟩
  have HAn:=Aside0.mk (blk_old HA.out (.cells #[.int .i64 x0,.int .i64 x1,.int .i64 x2,.int .i64 x3] 38))
  go_upto_region 19 with (fail)
  obtain⟨wv,hwv⟩:∃wv:World,wv=wq.alloc (.cells #[.int .i64 x0,.int .i64 x1,.int .i64 x2,.int .i64 x3] 38):=⟨_,rfl⟩
  rw [←hwv] at HX HBn HAn ⊢
  generalize wq.heap.size=vb at HX ⊢
  clear hwv t1 t2 b5 HB HA k0 k1 k2 k3
  try clear wq
  obtain⟨wq,rfl⟩:∃wq:World,wq=wv:=⟨_,rfl⟩
  have HE:Aside0 (badC l0 n g ⟨x0,x1,x2,x3⟩=(outB n x0 || (outB n x3 || (!(isB l0 x1 2) || (decide (x2 < 0) || decide (g < x2)))))):=⟨rfl⟩
  rw [HE.out] at HNX HTR
  clear HE
  obtain⟨b0,b1,b2,b3,b4,b5,b6,_⟩:=auto_cells1 HAn.out
  have z0:=(blk_cell HX.out 0).trans (show (#[.int .i64 x0,.int .i64 x1,.int .i64 x2,.int .i64 x3]:Array Value)[0]? = some (.int .i64 x0) from rfl)
  have z1:=(blk_cell HX.out 1).trans (show (#[.int .i64 x0,.int .i64 x1,.int .i64 x2,.int .i64 x3]:Array Value)[1]? = some (.int .i64 x1) from rfl)
  have z2:=(blk_cell HX.out 2).trans (show (#[.int .i64 x0,.int .i64 x1,.int .i64 x2,.int .i64 x3]:Array Value)[2]? = some (.int .i64 x2) from rfl)
  have z3:=(blk_cell HX.out 3).trans (show (#[.int .i64 x0,.int .i64 x1,.int .i64 x2,.int .i64 x3]:Array Value)[3]? = some (.int .i64 x3) from rfl)
  go_wp2_with fail
  refine(canopyref3_state.calls n g A2 c2 l2 A3 c3 l3 A4 c4 l4 (some ad) c5 l5 A6 c6 l6 x0 _ _ (Kd.C_below HI2.out.1 HBn.out) HI2.out.2.1 (Kd.C_below HI3.out.1 HBn.out) HI3.out.2.1 (Kd.C_below HI4.out.1 HBn.out) HI4.out.2.1 (Kd.C_below HI5.out.1 HBn.out) HI5.out.2.1 (Kd.C_below HI6.out.1 HBn.out) HI6.out.2.1 (state_f _ _ _ _ _ _ _ _)).mono ?_
  rintro e we ⟨rfl,hb⟩
  have HAm:=Aside0.mk (blk_below HAn.out hb)
  have HBm:Aside0 (Below w.heap.size w we):=⟨below_then HBn.out HBn.out.size hb⟩
  have HXm:=Aside0.mk (blk_below HX.out hb)
  clear HAn HBn HX b0 b1 b2 b3 b4 b5 b6 z0 z1 z2 z3
  have HAn:=HAm
  have HBn:=HBm
  have HX:=HXm
  clear HAm HBm HXm
  try clear wq
  obtain⟨wq,rfl⟩:∃wq:World,wq=we:=⟨_,rfl⟩
  obtain⟨bo,hbo⟩:∃bo:Bool,bo=outB n x0:=⟨_,rfl⟩
  rw [←hbo] at HNX HTR
  rw [←hbo]
  clear hb hbo
  cases bo with
  | true=>
   obtain⟨b0,b1,b2,b3,b4,b5,b6,_⟩:=auto_cells1 HAn.out
   have z0:=(blk_cell HX.out 0).trans (show (#[.int .i64 x0,.int .i64 x1,.int .i64 x2,.int .i64 x3]:Array Value)[0]? = some (.int .i64 x0) from rfl)
   have z1:=(blk_cell HX.out 1).trans (show (#[.int .i64 x0,.int .i64 x1,.int .i64 x2,.int .i64 x3]:Array Value)[1]? = some (.int .i64 x1) from rfl)
   have z2:=(blk_cell HX.out 2).trans (show (#[.int .i64 x0,.int .i64 x1,.int .i64 x2,.int .i64 x3]:Array Value)[2]? = some (.int .i64 x2) from rfl)
   have z3:=(blk_cell HX.out 3).trans (show (#[.int .i64 x0,.int .i64 x1,.int .i64 x2,.int .i64 x3]:Array Value)[3]? = some (.int .i64 x3) from rfl)
   have HXX:Aside0 (rv=9):=⟨HRV.out.trans (if_pos (by rw [HTR.out rfl];try simp))⟩
   go_wp2
   go_ret
   exact⟨by rw [HXX.out];rfl,HBn.out⟩
  | false=>
   have HT1:=Aside0.mk HTR.out
   clear HTR
   have HTR:Aside0 ((outB n x3 || (!(isB l0 x1 2) || (decide (x2 < 0) || decide (g < x2))))=true→l5.any (badC l0 n g)=true):=⟨fun h=>HT1.out (by rw [Bool.false_or];exact h)⟩
   have HN1:=Aside0.mk HNX.out
   clear HNX
   have HNX:=Aside0.mk (HN1.out.trans (by rw [Bool.false_or]))
   clear HN1 HT1
   obtain⟨b0,b1,b2,b3,b4,b5,b6,_⟩:=auto_cells1 HAn.out
   have z0:=(blk_cell HX.out 0).trans (show (#[.int .i64 x0,.int .i64 x1,.int .i64 x2,.int .i64 x3]:Array Value)[0]? = some (.int .i64 x0) from rfl)
   have z1:=(blk_cell HX.out 1).trans (show (#[.int .i64 x0,.int .i64 x1,.int .i64 x2,.int .i64 x3]:Array Value)[1]? = some (.int .i64 x1) from rfl)
   have z2:=(blk_cell HX.out 2).trans (show (#[.int .i64 x0,.int .i64 x1,.int .i64 x2,.int .i64 x3]:Array Value)[2]? = some (.int .i64 x2) from rfl)
   have z3:=(blk_cell HX.out 3).trans (show (#[.int .i64 x0,.int .i64 x1,.int .i64 x2,.int .i64 x3]:Array Value)[3]? = some (.int .i64 x3) from rfl)
   go_wp2_with fail
   refine(canopyref3_state.calls n g A2 c2 l2 A3 c3 l3 A4 c4 l4 (some ad) c5 l5 A6 c6 l6 x3 _ _ (Kd.C_below HI2.out.1 HBn.out) HI2.out.2.1 (Kd.C_below HI3.out.1 HBn.out) HI3.out.2.1 (Kd.C_below HI4.out.1 HBn.out) HI4.out.2.1 (Kd.C_below HI5.out.1 HBn.out) HI5.out.2.1 (Kd.C_below HI6.out.1 HBn.out) HI6.out.2.1 (state_f _ _ _ _ _ _ _ _)).mono ?_
   rintro e we ⟨rfl,hb⟩
   have HAm:=Aside0.mk (blk_below HAn.out hb)
   have HBm:Aside0 (Below w.heap.size w we):=⟨below_then HBn.out HBn.out.size hb⟩
   have HXm:=Aside0.mk (blk_below HX.out hb)
   clear HAn HBn HX b0 b1 b2 b3 b4 b5 b6 z0 z1 z2 z3
   have HAn:=HAm
   have HBn:=HBm
   have HX:=HXm
   clear HAm HBm HXm
   try clear wq
   obtain⟨wq,rfl⟩:∃wq:World,wq=we:=⟨_,rfl⟩
   obtain⟨bo,hbo⟩:∃bo:Bool,bo=outB n x3:=⟨_,rfl⟩
   rw [←hbo] at HNX HTR
   rw [←hbo]
   clear hb hbo
   cases bo with
   | true=>
    obtain⟨b0,b1,b2,b3,b4,b5,b6,_⟩:=auto_cells1 HAn.out
    have z0:=(blk_cell HX.out 0).trans (show (#[.int .i64 x0,.int .i64 x1,.int .i64 x2,.int .i64 x3]:Array Value)[0]? = some (.int .i64 x0) from rfl)
    have z1:=(blk_cell HX.out 1).trans (show (#[.int .i64 x0,.int .i64 x1,.int .i64 x2,.int .i64 x3]:Array Value)[1]? = some (.int .i64 x1) from rfl)
    have z2:=(blk_cell HX.out 2).trans (show (#[.int .i64 x0,.int .i64 x1,.int .i64 x2,.int .i64 x3]:Array Value)[2]? = some (.int .i64 x2) from rfl)
    have z3:=(blk_cell HX.out 3).trans (show (#[.int .i64 x0,.int .i64 x1,.int .i64 x2,.int .i64 x3]:Array Value)[3]? = some (.int .i64 x3) from rfl)
    have HXX:Aside0 (rv=9):=⟨HRV.out.trans (if_pos (by rw [HTR.out rfl];try simp))⟩
    go_wp2
    go_ret
    exact⟨by rw [HXX.out];rfl,HBn.out⟩
   | false=>
    have HT1:=Aside0.mk HTR.out
    clear HTR
    have HTR:Aside0 ((!(isB l0 x1 2) || (decide (x2 < 0) || decide (g < x2)))=true→l5.any (badC l0 n g)=true):=⟨fun h=>HT1.out (by rw [Bool.false_or];exact h)⟩
    have HN1:=Aside0.mk HNX.out
    clear HNX
    have HNX:=Aside0.mk (HN1.out.trans (by rw [Bool.false_or]))
    clear HN1 HT1
    obtain⟨b0,b1,b2,b3,b4,b5,b6,_⟩:=auto_cells1 HAn.out
    have z0:=(blk_cell HX.out 0).trans (show (#[.int .i64 x0,.int .i64 x1,.int .i64 x2,.int .i64 x3]:Array Value)[0]? = some (.int .i64 x0) from rfl)
    have z1:=(blk_cell HX.out 1).trans (show (#[.int .i64 x0,.int .i64 x1,.int .i64 x2,.int .i64 x3]:Array Value)[1]? = some (.int .i64 x1) from rfl)
    have z2:=(blk_cell HX.out 2).trans (show (#[.int .i64 x0,.int .i64 x1,.int .i64 x2,.int .i64 x3]:Array Value)[2]? = some (.int .i64 x2) from rfl)
    have z3:=(blk_cell HX.out 3).trans (show (#[.int .i64 x0,.int .i64 x1,.int .i64 x2,.int .i64 x3]:Array Value)[3]? = some (.int .i64 x3) from rfl)
    go_wp2_with fail
    refine(canopyref3_kind.calls A0 c0 l0 x1 2 _ _ (Kd.C_below HI0.out.1 HBn.out) HI0.out.2.1 (kind_f _ _ _)).mono ?_
    rintro e we ⟨rfl,hd⟩
    have HAm:=Aside0.mk (blk_below HAn.out hd.below)
    have HBm:Aside0 (Below w.heap.size w we):=⟨below_then HBn.out HBn.out.size hd.below⟩
    have HXm:=Aside0.mk (blk_below HX.out hd.below)
    clear HAn HBn HX b0 b1 b2 b3 b4 b5 b6 z0 z1 z2 z3
    have HAn:=HAm
    have HBn:=HBm
    have HX:=HXm
    clear HAm HBm HXm
    try clear wq
    obtain⟨wq,rfl⟩:∃wq:World,wq=we:=⟨_,rfl⟩
    obtain⟨bo,hbo⟩:∃bo:Bool,bo=isB l0 x1 2:=⟨_,rfl⟩
    rw [←hbo] at HNX HTR
    rw [←hbo]
    clear hd hbo
    cases bo with
    | false=>
     obtain⟨b0,b1,b2,b3,b4,b5,b6,_⟩:=auto_cells1 HAn.out
     have z0:=(blk_cell HX.out 0).trans (show (#[.int .i64 x0,.int .i64 x1,.int .i64 x2,.int .i64 x3]:Array Value)[0]? = some (.int .i64 x0) from rfl)
     have z1:=(blk_cell HX.out 1).trans (show (#[.int .i64 x0,.int .i64 x1,.int .i64 x2,.int .i64 x3]:Array Value)[1]? = some (.int .i64 x1) from rfl)
     have z2:=(blk_cell HX.out 2).trans (show (#[.int .i64 x0,.int .i64 x1,.int .i64 x2,.int .i64 x3]:Array Value)[2]? = some (.int .i64 x2) from rfl)
     have z3:=(blk_cell HX.out 3).trans (show (#[.int .i64 x0,.int .i64 x1,.int .i64 x2,.int .i64 x3]:Array Value)[3]? = some (.int .i64 x3) from rfl)
     have HXX:Aside0 (rv=9):=⟨HRV.out.trans (if_pos (by rw [HTR.out rfl];try simp))⟩
     go_wp2
     go_ret
     exact⟨by rw [HXX.out];rfl,HBn.out⟩
    | true=>
     obtain⟨b0,b1,b2,b3,b4,b5,b6,_⟩:=auto_cells1 HAn.out
     have z0:=(blk_cell HX.out 0).trans (show (#[.int .i64 x0,.int .i64 x1,.int .i64 x2,.int .i64 x3]:Array Value)[0]? = some (.int .i64 x0) from rfl)
     have z1:=(blk_cell HX.out 1).trans (show (#[.int .i64 x0,.int .i64 x1,.int .i64 x2,.int .i64 x3]:Array Value)[1]? = some (.int .i64 x1) from rfl)
     have z2:=(blk_cell HX.out 2).trans (show (#[.int .i64 x0,.int .i64 x1,.int .i64 x2,.int .i64 x3]:Array Value)[2]? = some (.int .i64 x2) from rfl)
     have z3:=(blk_cell HX.out 3).trans (show (#[.int .i64 x0,.int .i64 x1,.int .i64 x2,.int .i64 x3]:Array Value)[3]? = some (.int .i64 x3) from rfl)
     by_cases p1:x2 < 0
     ·have s1 := eq_true p1
      have d1:=decide_eq_true p1
      rw [d1] at HTR
      clear p1
      have HXX:Aside0 (rv=9):=⟨HRV.out.trans (if_pos (by rw [HTR.out rfl];try simp))⟩
      go_wp2
      go_ret
      exact⟨by rw [HXX.out];rfl,HBn.out⟩
     have s1:=eq_false p1
     have d1:=decide_eq_false p1
     rw [d1] at HTR HNX
     clear p1
     by_cases p2:g < x2
     ·have s2 := eq_true p2
      have d2:=decide_eq_true p2
      rw [d2] at HTR
      clear p2
      have HXX:Aside0 (rv=9):=⟨HRV.out.trans (if_pos (by rw [HTR.out rfl];try simp))⟩
      go_wp2
      go_ret
      exact⟨by rw [HXX.out];rfl,HBn.out⟩
     have s2:=eq_false p2
     have d2:=decide_eq_false p2
     rw [d2] at HNX
     clear p2
     go_wp2
     go_roundg (l5.length - (i+1))
     case measure=>have:=Hi.out;have:=HLT.out;omega
     case rel=>exact⟨i+1,by first|rfl|rw [show wrap64 ((i:Int)+1)=((i+1:Nat):Int) by have:=HLT.out;have:=HI5.out.2.2;unfold wrap64;omega],⟨HLT.out,Nat.le_refl _⟩,⟨by rw [HNX.out,HN.out];rfl⟩,HBn,HAn⟩
 have e4 : l5.take i = l5 := List.take_of_length_le (by omega)
 have HRn:=Aside0.mk (HRV.out.trans (by have h:=HN.out;rw [e4] at h;rw [h];rfl:_=(if l6.any (badI l0 n)=true then (9:Int) else 0)))
 clear HRV
 have HRV:=HRn
 have t1:=eq_false (show ¬(i:Int) < (l5.length:Int) by omega)
 clear HRn hlt Hi e4 HN
 go_upto_region 21 with (fail)
 clear b5
 have b6:=(blk_cell HA.out 6).trans (show (#[.int .i64 n,.int .i64 g,.slice A2 l2.length c2,.slice A3 l3.length c3,.slice A4 l4.length c4,.slice A5 l5.length c5,.slice A6 l6.length c6]:Array Value)[6]? = some (.slice A6 l6.length c6) from rfl)
 go_wp2
 clear b6 t1
 go_loopg [11] l6.length (fun gk v11 w'=>∃i:Nat,v11=.int .i64 (i:Int)∧Aside0 (i≤l6.length∧l6.length - i≤gk)∧Aside0 ((l6.take i).any (badI l0 n)=false)∧Aside0 (Below w.heap.size w w')∧Aside0 (w'.heap[ga]? = some (.cells #[.int .i64 n,.int .i64 g,.slice A2 l2.length c2,.slice A3 l3.length c3,.slice A4 l4.length c4,.slice A5 l5.length c5,.slice A6 l6.length c6] 30 (0,0))))
 case atStart=>exact⟨0,rfl,⟨by omega,by omega⟩,⟨rfl⟩,HB,HA⟩
 case' round=>skip
 clear HB HA
 obtain⟨i,rfl,Hi,HN,HB,HA⟩:=hrel
 try clear wq
 obtain⟨wq,rfl⟩:∃wq:World,wq=wr:=⟨_,rfl⟩
 have b6:=(blk_cell HA.out 6).trans (show (#[.int .i64 n,.int .i64 g,.slice A2 l2.length c2,.slice A3 l3.length c3,.slice A4 l4.length c4,.slice A5 l5.length c5,.slice A6 l6.length c6]:Array Value)[6]? = some (.slice A6 l6.length c6) from rfl)
 by_cases hlt:i < l6.length
 ·have HLT := Aside0.mk hlt
  obtain⟨ad,eA,k0,k1,k2⟩:=at_T40 (Kd.C_below HI6.out.1 HB.out) (i:Int) (by omega) (by omega)
  have hrd:rd_T40 l6 (i:Int)=l6[i]:=by unfold rd_T40;rw [Int.toNat_natCast,List.getD_eq_getElem?_getD,List.getElem?_eq_getElem hlt];rfl
  rw [hrd,Int.toNat_natCast] at k0 k1 k2
  have HNX:=Aside0.mk (any_next (badI l0 n) l6 i hlt)
  have HTR:Aside0 ((badI l0 n) l6[i]=true→l6.any (badI l0 n)=true):=⟨any_true hlt⟩
  generalize l6[i]=x at HNX HTR k0 k1 k2
  obtain⟨x0,x1,x2⟩:=x
  have t1:=eq_true (show (i:Int) < (l6.length:Int) by omega)
  have t2:=eq_true (show (0:Int)≤(i:Int) by omega)
  subst eA
  clear hlt hrd
  have HX:Aside0 ((wq.alloc (.cells #[.int .i64 x0,.int .i64 x1,.int .i64 x2] 40)).heap[wq.heap.size]? = some (.cells #[.int .i64 x0,.int .i64 x1,.int .i64 x2] 40 (0,0))):=⟨blk_newAt _ rfl⟩
  have HBn:Aside0 (Below w.heap.size w (wq.alloc (.cells #[.int .i64 x0,.int .i64 x1,.int .i64 x2] 40))):=⟨below_alloc HB.out _⟩
  have HAn:=Aside0.mk (blk_old HA.out (.cells #[.int .i64 x0,.int .i64 x1,.int .i64 x2] 40))
  go_upto_region 25 with (fail)
  obtain⟨wv,hwv⟩:∃wv:World,wv=wq.alloc (.cells #[.int .i64 x0,.int .i64 x1,.int .i64 x2] 40):=⟨_,rfl⟩
  rw [←hwv] at HX HBn HAn ⊢
  generalize wq.heap.size=vb at HX ⊢
  clear hwv t1 t2 b6 HB HA k0 k1 k2
  try clear wq
  obtain⟨wq,rfl⟩:∃wq:World,wq=wv:=⟨_,rfl⟩
  have HE:Aside0 (badI l0 n ⟨x0,x1,x2⟩=(outB n x0 || (outB n x2 || !(isB l0 x1 3)))):=⟨rfl⟩
  rw [HE.out] at HNX HTR
  clear HE
  obtain⟨b0,b1,b2,b3,b4,b5,b6,_⟩:=auto_cells1 HAn.out
  have z0:=(blk_cell HX.out 0).trans (show (#[.int .i64 x0,.int .i64 x1,.int .i64 x2]:Array Value)[0]? = some (.int .i64 x0) from rfl)
  have z1:=(blk_cell HX.out 1).trans (show (#[.int .i64 x0,.int .i64 x1,.int .i64 x2]:Array Value)[1]? = some (.int .i64 x1) from rfl)
  have z2:=(blk_cell HX.out 2).trans (show (#[.int .i64 x0,.int .i64 x1,.int .i64 x2]:Array Value)[2]? = some (.int .i64 x2) from rfl)
  go_wp2_with fail
  refine(canopyref3_state.calls n g A2 c2 l2 A3 c3 l3 A4 c4 l4 A5 c5 l5 (some ad) c6 l6 x0 _ _ (Kd.C_below HI2.out.1 HBn.out) HI2.out.2.1 (Kd.C_below HI3.out.1 HBn.out) HI3.out.2.1 (Kd.C_below HI4.out.1 HBn.out) HI4.out.2.1 (Kd.C_below HI5.out.1 HBn.out) HI5.out.2.1 (Kd.C_below HI6.out.1 HBn.out) HI6.out.2.1 (state_f _ _ _ _ _ _ _ _)).mono ?_
  rintro e we ⟨rfl,hb⟩
  have HAm:=Aside0.mk (blk_below HAn.out hb)
  have HBm:Aside0 (Below w.heap.size w we):=⟨below_then HBn.out HBn.out.size hb⟩
  have HXm:=Aside0.mk (blk_below HX.out hb)
  clear HAn HBn HX b0 b1 b2 b3 b4 b5 b6 z0 z1 z2
  have HAn:=HAm
  have HBn:=HBm
  have HX:=HXm
  clear HAm HBm HXm
  try clear wq
  obtain⟨wq,rfl⟩:∃wq:World,wq=we:=⟨_,rfl⟩
  obtain⟨bo,hbo⟩:∃bo:Bool,bo=outB n x0:=⟨_,rfl⟩
  rw [←hbo] at HNX HTR
  rw [←hbo]
  clear hb hbo
  cases bo with
  | true=>
   obtain⟨b0,b1,b2,b3,b4,b5,b6,_⟩:=auto_cells1 HAn.out
   have z0:=(blk_cell HX.out 0).trans (show (#[.int .i64 x0,.int .i64 x1,.int .i64 x2]:Array Value)[0]? = some (.int .i64 x0) from rfl)
   have z1:=(blk_cell HX.out 1).trans (show (#[.int .i64 x0,.int .i64 x1,.int .i64 x2]:Array Value)[1]? = some (.int .i64 x1) from rfl)
   have z2:=(blk_cell HX.out 2).trans (show (#[.int .i64 x0,.int .i64 x1,.int .i64 x2]:Array Value)[2]? = some (.int .i64 x2) from rfl)
   have HXX:Aside0 (rv=9):=⟨HRV.out.trans (if_pos (by rw [HTR.out rfl];try simp))⟩
   go_wp2
   go_ret
   exact⟨by rw [HXX.out];rfl,HBn.out⟩
  | false=>
   have HT1:=Aside0.mk HTR.out
   clear HTR
   have HTR:Aside0 ((outB n x2 || (!(isB l0 x1 3)))=true→l6.any (badI l0 n)=true):=⟨fun h=>HT1.out (by rw [Bool.false_or];exact h)⟩
   have HN1:=Aside0.mk HNX.out
   clear HNX
   have HNX:=Aside0.mk (HN1.out.trans (by rw [Bool.false_or]))
   clear HN1 HT1
   obtain⟨b0,b1,b2,b3,b4,b5,b6,_⟩:=auto_cells1 HAn.out
   have z0:=(blk_cell HX.out 0).trans (show (#[.int .i64 x0,.int .i64 x1,.int .i64 x2]:Array Value)[0]? = some (.int .i64 x0) from rfl)
   have z1:=(blk_cell HX.out 1).trans (show (#[.int .i64 x0,.int .i64 x1,.int .i64 x2]:Array Value)[1]? = some (.int .i64 x1) from rfl)
   have z2:=(blk_cell HX.out 2).trans (show (#[.int .i64 x0,.int .i64 x1,.int .i64 x2]:Array Value)[2]? = some (.int .i64 x2) from rfl)
   go_wp2_with fail
   refine(canopyref3_state.calls n g A2 c2 l2 A3 c3 l3 A4 c4 l4 A5 c5 l5 (some ad) c6 l6 x2 _ _ (Kd.C_below HI2.out.1 HBn.out) HI2.out.2.1 (Kd.C_below HI3.out.1 HBn.out) HI3.out.2.1 (Kd.C_below HI4.out.1 HBn.out) HI4.out.2.1 (Kd.C_below HI5.out.1 HBn.out) HI5.out.2.1 (Kd.C_below HI6.out.1 HBn.out) HI6.out.2.1 (state_f _ _ _ _ _ _ _ _)).mono ?_
   rintro e we ⟨rfl,hb⟩
   have HAm:=Aside0.mk (blk_below HAn.out hb)
   have HBm:Aside0 (Below w.heap.size w we):=⟨below_then HBn.out HBn.out.size hb⟩
   have HXm:=Aside0.mk (blk_below HX.out hb)
   clear HAn HBn HX b0 b1 b2 b3 b4 b5 b6 z0 z1 z2
   have HAn:=HAm
   have HBn:=HBm
   have HX:=HXm
   clear HAm HBm HXm
   try clear wq
   obtain⟨wq,rfl⟩:∃wq:World,wq=we:=⟨_,rfl⟩
   obtain⟨bo,hbo⟩:∃bo:Bool,bo=outB n x2:=⟨_,rfl⟩
   rw [←hbo] at HNX HTR
   rw [←hbo]
   clear hb hbo
   cases bo with
   | true=>
    obtain⟨b0,b1,b2,b3,b4,b5,b6,_⟩:=auto_cells1 HAn.out
    have z0:=(blk_cell HX.out 0).trans (show (#[.int .i64 x0,.int .i64 x1,.int .i64 x2]:Array Value)[0]? = some (.int .i64 x0) from rfl)
    have z1:=(blk_cell HX.out 1).trans (show (#[.int .i64 x0,.int .i64 x1,.int .i64 x2]:Array Value)[1]? = some (.int .i64 x1) from rfl)
    have z2:=(blk_cell HX.out 2).trans (show (#[.int .i64 x0,.int .i64 x1,.int .i64 x2]:Array Value)[2]? = some (.int .i64 x2) from rfl)
    have HXX:Aside0 (rv=9):=⟨HRV.out.trans (if_pos (by rw [HTR.out rfl];try simp))⟩
    go_wp2
    go_ret
    exact⟨by rw [HXX.out];rfl,HBn.out⟩
   | false=>
    have HT1:=Aside0.mk HTR.out
    clear HTR
    have HTR:Aside0 ((!(isB l0 x1 3))=true→l6.any (badI l0 n)=true):=⟨fun h=>HT1.out (by rw [Bool.false_or];exact h)⟩
    have HN1:=Aside0.mk HNX.out
    clear HNX
    have HNX:=Aside0.mk (HN1.out.trans (by rw [Bool.false_or]))
    clear HN1 HT1
    obtain⟨b0,b1,b2,b3,b4,b5,b6,_⟩:=auto_cells1 HAn.out
    have z0:=(blk_cell HX.out 0).trans (show (#[.int .i64 x0,.int .i64 x1,.int .i64 x2]:Array Value)[0]? = some (.int .i64 x0) from rfl)
    have z1:=(blk_cell HX.out 1).trans (show (#[.int .i64 x0,.int .i64 x1,.int .i64 x2]:Array Value)[1]? = some (.int .i64 x1) from rfl)
    have z2:=(blk_cell HX.out 2).trans (show (#[.int .i64 x0,.int .i64 x1,.int .i64 x2]:Array Value)[2]? = some (.int .i64 x2) from rfl)
    go_wp2_with fail
    refine(canopyref3_kind.calls A0 c0 l0 x1 3 _ _ (Kd.C_below HI0.out.1 HBn.out) HI0.out.2.1 (kind_f _ _ _)).mono ?_
    rintro e we ⟨rfl,hd⟩
    have HAm:=Aside0.mk (blk_below HAn.out hd.below)
    have HBm:Aside0 (Below w.heap.size w we):=⟨below_then HBn.out HBn.out.size hd.below⟩
    have HXm:=Aside0.mk (blk_below HX.out hd.below)
    clear HAn HBn HX b0 b1 b2 b3 b4 b5 b6 z0 z1 z2
    have HAn:=HAm
    have HBn:=HBm
    have HX:=HXm
    clear HAm HBm HXm
    try clear wq
    obtain⟨wq,rfl⟩:∃wq:World,wq=we:=⟨_,rfl⟩
    obtain⟨bo,hbo⟩:∃bo:Bool,bo=isB l0 x1 3:=⟨_,rfl⟩
    rw [←hbo] at HNX HTR
    rw [←hbo]
    clear hd hbo
    cases bo with
    | false=>
     obtain⟨b0,b1,b2,b3,b4,b5,b6,_⟩:=auto_cells1 HAn.out
     have z0:=(blk_cell HX.out 0).trans (show (#[.int .i64 x0,.int .i64 x1,.int .i64 x2]:Array Value)[0]? = some (.int .i64 x0) from rfl)
     have z1:=(blk_cell HX.out 1).trans (show (#[.int .i64 x0,.int .i64 x1,.int .i64 x2]:Array Value)[1]? = some (.int .i64 x1) from rfl)
     have z2:=(blk_cell HX.out 2).trans (show (#[.int .i64 x0,.int .i64 x1,.int .i64 x2]:Array Value)[2]? = some (.int .i64 x2) from rfl)
     have HXX:Aside0 (rv=9):=⟨HRV.out.trans (if_pos (by rw [HTR.out rfl];try simp))⟩
     go_wp2
     go_ret
     exact⟨by rw [HXX.out];rfl,HBn.out⟩
    | true=>
     obtain⟨b0,b1,b2,b3,b4,b5,b6,_⟩:=auto_cells1 HAn.out
     have z0:=(blk_cell HX.out 0).trans (show (#[.int .i64 x0,.int .i64 x1,.int .i64 x2]:Array Value)[0]? = some (.int .i64 x0) from rfl)
     have z1:=(blk_cell HX.out 1).trans (show (#[.int .i64 x0,.int .i64 x1,.int .i64 x2]:Array Value)[1]? = some (.int .i64 x1) from rfl)
     have z2:=(blk_cell HX.out 2).trans (show (#[.int .i64 x0,.int .i64 x1,.int .i64 x2]:Array Value)[2]? = some (.int .i64 x2) from rfl)
     go_wp2
     go_roundg (l6.length - (i+1))
     case measure=>have:=Hi.out;have:=HLT.out;omega
     case rel=>exact⟨i+1,by first|rfl|rw [show wrap64 ((i:Int)+1)=((i+1:Nat):Int) by have:=HLT.out;have:=HI6.out.2.2;unfold wrap64;omega],⟨HLT.out,Nat.le_refl _⟩,⟨by rw [HNX.out,HN.out];rfl⟩,HBn,HAn⟩
 have e4 : l6.take i = l6 := List.take_of_length_le (by omega)
 have HRn:=Aside0.mk (HRV.out.trans (by have h:=HN.out;rw [e4] at h;rw [h];rfl:_=(0:Int)))
 clear HRV
 have HRV:=HRn
 have t1:=eq_false (show ¬(i:Int) < (l6.length:Int) by omega)
 clear HRn hlt Hi e4 HN
 go_wp2
 go_ret
 exact⟨by rw [HRV.out];rfl,HB.out⟩
def canopyref3_Check.f (l0:List S51) (a1_0 a1_1:Int) (l1_2:List Int) (l1_3:List Int) (l1_4:List S36) (l1_5:List S38) (l1_6:List S40):Option Int:=auto_Check.f l0 a1_0 a1_1 l1_2 l1_3 l1_4 l1_5 l1_6
theorem canopyref3_Check.calls (A0:Option Addr) (c0:Nat) (l0:List S51) (a1_0 a1_1:Int) (A1_2:Option Addr) (c1_2:Nat) (l1_2:List Int) (A1_3:Option Addr) (c1_3:Nat) (l1_3:List Int) (A1_4:Option Addr) (c1_4:Nat) (l1_4:List S36) (A1_5:Option Addr) (c1_5:Nat) (l1_5:List S38) (A1_6:Option Addr) (c1_6:Nat) (l1_6:List S40) (r:Int) (w:World) (hr0:Kd.C k51 w A0 l0.length l0) (hc0:l0.length≤c0) (hr1_2:Kd.C (Kd.int .i64) w A1_2 l1_2.length l1_2) (hc1_2:l1_2.length≤c1_2) (hr1_3:Kd.C (Kd.int .i64) w A1_3 l1_3.length l1_3) (hc1_3:l1_3.length≤c1_3) (hr1_4:Kd.C k36 w A1_4 l1_4.length l1_4) (hc1_4:l1_4.length≤c1_4) (hr1_5:Kd.C k38 w A1_5 l1_5.length l1_5) (hc1_5:l1_5.length≤c1_5) (hr1_6:Kd.C k40 w A1_6 l1_6.length l1_6) (hc1_6:l1_6.length≤c1_6) (h:canopyref3_Check.f l0 a1_0 a1_1 l1_2 l1_3 l1_4 l1_5 l1_6=some r) :
 Calls Tryz.prog 17 #[.slice A0 l0.length c0,.agg #[.int .i64 a1_0,.int .i64 a1_1,.slice A1_2 l1_2.length c1_2,.slice A1_3 l1_3.length c1_3,.slice A1_4 l1_4.length c1_4,.slice A1_5 l1_5.length c1_5,.slice A1_6 l1_6.length c1_6]] w fun e w'=>e=.returned (.int .i64 r)∧Below w.heap.size w w':=by
 unfold canopyref3_Check.f auto_Check.f at h
 split at h
 case isFalse=>cases h
 rename_i hl
 obtain⟨q0,q2,q3,q4,q5,q6⟩:=hl
 simp only [Option.some.injEq] at h
 subst h
 exact refcheck_own A0 c0 l0 a1_0 a1_1 A1_2 c1_2 l1_2 A1_3 c1_3 l1_3 A1_4 c1_4 l1_4 A1_5 c1_5 l1_5 A1_6 c1_6 l1_6 w hr0 hc0 q0 hr1_2 hc1_2 q2 hr1_3 hc1_3 q3 hr1_4 hc1_4 q4 hr1_5 hc1_5 q5 hr1_6 hc1_6 q6
end Go.Proofs.YtejpijgfpbcibaaGreat.P
