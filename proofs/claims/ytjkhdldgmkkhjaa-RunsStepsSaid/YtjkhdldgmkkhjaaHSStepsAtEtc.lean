/- Words and walks of this claim: SStepsAt, URStep, URSteps, URPlain, UREnds, SClone. -/
import Derived.Test.YtjkhdldgmkkhjaaHSPutAt
import Derived.Test.YtjkhdldgmkkhjaaHSStepAt
import Derived.Test.YtjkhdldgmkkhjaaHMIntsEtc
import Derived.Test.YtjkhdldgmkkhjaaHP0Etc
import Derived.Test.YtjkhdldgmkkhjaaHPCanopyref4Start
import Derived.Test.YtjkhdldgmkkhjaaHSBack
import Derived.Test.YtjkhdldgmkkhjaaHWEqStructEtc
set_option linter.unusedVariables false
set_option linter.unusedSimpArgs false
set_option linter.unnecessarySimpa false
section
namespace Go.Proofs.Ytjkhdldgmkkhjaa.P
open Go.RowKit Go.Proofs.YtjkhdldgmkkhjaaW.PrintWords Go.Proofs.YtjkhdldgmkkhjaaW.PrintLast Go.Proofs.YtjkhdldgmkkhjaaW.PrintMore Go.Proofs.Ytjkhdldgmkkhjaa.M
def putsL (out:List RAt) (l:List RAt):List RAt:=l.foldl (fun out y=>putL y out) out
def stepsR (os:List TOpen) (cs:List TClose) (is:List TInner) (at_:List RAt) (s:Int):List RAt:=at_.foldl (fun out x=>putsL out (stR os cs is x s)) []
theorem putL_mem {x y:RAt} {l:List RAt} (h:y∈putL x l):y=x∨y∈l:=by
 unfold putL at h
 split at h
 ·exact .inr h
 ·simp only [List.mem_append, List.mem_singleton] at h
  rcases h with (h|h)|h
  ·exact .inr (List.mem_of_mem_take h)
  ·exact .inl h
  ·exact .inr (List.mem_of_mem_drop h)
theorem putL_len (x:RAt) (l:List RAt):(putL x l).length≤l.length+1:=by
 unfold putL
 split
 ·omega
 ·simp only [List.length_append, List.length_take, List.length_drop, List.length_cons, List.length_nil]
  omega
theorem fm1_len {α:Type} (f:α→List RAt) (h:∀r,(f r).length≤1):∀l:List α,(l.flatMap f).length≤l.length
 | []=>Nat.le_refl _
 | r :: l=>by
  rw [List.flatMap_cons,List.length_append,List.length_cons]
  have h1:=h r
  have h2:=fm1_len f h l
  omega
theorem stR_len (os:List TOpen) (cs:List TClose) (is:List TInner) (x:RAt) (s:Int):(stR os cs is x s).length≤is.length+os.length+cs.length:=by
 unfold stR
 rw [List.length_append,List.length_append]
 have h1:=fm1_len (mvN x s) (fun r=>by unfold mvN;split<;>simp) is
 have h2:=fm1_len (mvO x s) (fun r=>by unfold mvO;split<;>simp) os
 have h3:=fm1_len (mvC x s) (fun r=>by unfold mvC;split<;>simp) cs
 omega
theorem stR_stk {os:List TOpen} {cs:List TClose} {is:List TInner} {x:RAt} {s:Int} : ∀y∈stR os cs is x s,y.f1.length≤x.f1.length+1:=by
 intro y hy
 unfold stR at hy
 simp only [List.mem_append,List.mem_flatMap] at hy
 rcases hy with (⟨r,_,h⟩|⟨r,_,h⟩)|⟨r,_,h⟩
 ·unfold mvN at h; split at h
  ·rw [List.mem_singleton.1 h];exact Nat.le_succ _
  ·cases h
 ·unfold mvO at h; split at h
  ·rw [List.mem_singleton.1 h];simp
  ·cases h
 ·unfold mvC at h; split at h
  ·rw [List.mem_singleton.1 h];simp;omega
  ·cases h
structure OR (w w' : World) (ga:Nat) (AG:Array Value) (A:Option Addr) (c:Nat) (rs:List Raw) (l:List RAt) (m:Nat):Prop where
 b:Below w.heap.size w w'
 a:w'.heap[ga]? = some (.cells AG 30 (0,0))
 r:Kd.C kRaw w' A rs.length rs∧rs.length≤c
 q:RawsOf w' rs l
 n:l.length≤m
 s:∀y∈l,y.f1.length≤1000
theorem OR.below {w w' w2:World} {ga:Nat} {AG:Array Value} {A:Option Addr} {c:Nat} {rs:List Raw} {l:List RAt} {m:Nat} (h:OR w w' ga AG A c rs l m) (hb:Below w'.heap.size w' w2):OR w w2 ga AG A c rs l m:=⟨below_then h.b h.b.size hb,blk_below h.a hb,⟨Kd.C_below h.r.1 hb,h.r.2⟩,RawsOf.below hb h.q,h.n,h.s⟩
set_option maxHeartbeats 16000000 in
set_option maxRecDepth 100000 in
theorem steps_own (AS:Option Addr) (cS nS:Nat) (n g:Int) (A2:Option Addr) (c2:Nat) (l2:List Int) (A3:Option Addr) (c3:Nat) (l3:List Int) (A4:Option Addr) (c4:Nat) (l4:List TOpen) (A5:Option Addr) (c5:Nat) (l5:List TClose) (A6:Option Addr) (c6:Nat) (l6:List TInner) (AT:Option Addr) (cT:Nat) (ts:List Raw) (at_:List RAt) (s:Int) (w:World) (h2:Kd.C (Kd.int .i64) w A2 l2.length l2) (hc2:l2.length≤c2) (hl2:l2.length≤1000000) (h3:Kd.C (Kd.int .i64) w A3 l3.length l3) (hc3:l3.length≤c3) (hl3:l3.length≤1000000) (h4:Kd.C k52 w A4 l4.length l4) (hc4:l4.length≤c4) (hl4:l4.length≤1000000) (h5:Kd.C k54 w A5 l5.length l5) (hc5:l5.length≤c5) (hl5:l5.length≤1000000) (h6:Kd.C k56 w A6 l6.length l6) (hc6:l6.length≤c6) (hl6:l6.length≤1000000) (hT:Kd.C kRaw w AT ts.length ts) (hcT:ts.length≤cT) (hR:RawsOf w ts at_) (hM:ts.length*(l6.length+l4.length+l5.length)≤1000000) (hst:∀y∈at_,y.f1.length≤999) :
 Calls Try.prog 22 #[.slice AS nS cS,.agg #[.int .i64 n,.int .i64 g,.slice A2 l2.length c2,.slice A3 l3.length c3,.slice A4 l4.length c4,.slice A5 l5.length c5,.slice A6 l6.length c6],.slice AT ts.length cT,.int .i64 s] w fun e w'=>∃A' c' rs,e=.returned (.slice A' rs.length c')∧Kd.C kRaw w' A' rs.length rs∧rs.length≤c'∧RawsOf w' rs (stepsR l4 l5 l6 at_ s)∧Below w.heap.size w w':=by
 have HI2:=Aside0.mk (And.intro h2 (And.intro hc2 hl2))
 have HI3:=Aside0.mk (And.intro h3 (And.intro hc3 hl3))
 have HI4:=Aside0.mk (And.intro h4 (And.intro hc4 hl4))
 have HI5:=Aside0.mk (And.intro h5 (And.intro hc5 hl5))
 have HI6:=Aside0.mk (And.intro h6 (And.intro hc6 hl6))
 have HT:=Aside0.mk (And.intro hT hcT)
 have HTR:=Aside0.mk hR
 have HTN:=Aside0.mk hR.len
 have HM:=Aside0.mk hM
 have HST:=Aside0.mk hst
 clear hT hcT hR hM hst h2 hc2 hl2 h3 hc3 hl3 h4 hc4 hl4 h5 hc5 hl5 h6 hc6 hl6
 go_enter Try.func22,Try.ntmps22
 go_upto_region 1 with (fail)
 obtain⟨wl,hwl⟩:∃W:World,W=w.alloc (.cells #[.int .i64 n,.int .i64 g,.slice A2 l2.length c2,.slice A3 l3.length c3,.slice A4 l4.length c4,.slice A5 l5.length c5,.slice A6 l6.length c6] 30):=⟨_,rfl⟩
 obtain⟨ga,hga⟩:∃g,g=w.heap.size:=⟨_,rfl⟩
 have HO:Aside0 (OR w wl ga #[.int .i64 n,.int .i64 g,.slice A2 l2.length c2,.slice A3 l3.length c3,.slice A4 l4.length c4,.slice A5 l5.length c5,.slice A6 l6.length c6] none 0 [] (stepsR l4 l5 l6 (at_.take 0) s) (0*(l6.length+l4.length+l5.length))):=⟨⟨by rw [hwl];exact below_alloc (Below.refl _ _) _,by rw [hwl,hga];exact blk_newAt _ rfl,⟨Kd.C_nil _ _,Nat.le_refl _⟩,trivial,by simp [stepsR],fun y hy=>by simp [stepsR] at hy⟩⟩
 rw [←hwl,←hga]
 clear hwl hga
 go_wp2
 go_loopg [9,10] ts.length (fun gk v9 vi w'=>∃(i_:Nat) (A:Option Addr) (c:Nat) (rs:List Raw),v9=.slice A rs.length c∧vi=.int .i64 (i_:Int)∧Aside0 (i_≤ts.length∧ts.length - i_≤gk)∧Aside0 (OR w w' ga #[.int .i64 n,.int .i64 g,.slice A2 l2.length c2,.slice A3 l3.length c3,.slice A4 l4.length c4,.slice A5 l5.length c5,.slice A6 l6.length c6] A c rs (stepsR l4 l5 l6 (at_.take i_) s) (i_*(l6.length+l4.length+l5.length))))
 case atStart=>exact⟨0,none,0,[],rfl,rfl,⟨by omega,by omega⟩,HO⟩
 case round=>
  clear HO
  obtain⟨i_,A,c,rs,rfl,rfl,Hi,HO⟩:=hrel
  try clear wl
  obtain⟨wl,rfl⟩:∃W:World,W=wr:=⟨_,rfl⟩
  by_cases hl_:i_ < ts.length
  ·as_aux_lemma=>
    have HLT:=Aside0.mk hl_
    have hla:i_ < at_.length:=by have:=HTN.out;omega
    obtain⟨AX,cx,hr1,HX1,HX2⟩:=(HTR.out.get i_ hl_ hla).form
    obtain⟨x,hx⟩:∃x,x=at_[i_]:=⟨_,rfl⟩
    have HXS:Aside0 (x.f1.length≤999):=⟨HST.out x (by rw [hx];exact List.getElem_mem _)⟩
    have HNX:Aside0 (stepsR l4 l5 l6 (at_.take (i_+1)) s=putsL (stepsR l4 l5 l6 (at_.take i_) s) (stR l4 l5 l6 x s)):=⟨by unfold stepsR;rw [List.take_add_one,List.getElem?_eq_getElem hla,List.foldl_append,hx];rfl⟩
    rw [←hx] at hr1 HX1 HX2
    have HX:=Aside0.mk (And.intro HX1 HX2)
    obtain⟨ad,eA,p0,p1⟩:=at_raw (Kd.C_below HT.out.1 HO.out.b) i_ (x.f0,AX,x.f1.length,cx) (by rw [←hr1];exact List.getElem?_eq_getElem _) hl_
    have HP:Aside0 (wl.cell? (ad.add (i_*2))=some (.int .i64 x.f0)∧wl.cell? ⟨(ad.add (i_*2)).block,(ad.add (i_*2)).off+1,none⟩=some (.slice AX x.f1.length cx)):=⟨p0,p1⟩
    obtain⟨ob,hob⟩:∃l,l=stepsR l4 l5 l6 (at_.take i_) s:=⟨_,rfl⟩
    rw [←hob] at HNX HO
    obtain⟨sl,hsl⟩:∃l,l=stR l4 l5 l6 x s:=⟨_,rfl⟩
    have HSE:=Aside0.mk hsl
    have HSN:Aside0 (sl.length≤l6.length+l4.length+l5.length∧∀y∈sl,y.f1.length≤1000):=⟨by rw [hsl];exact stR_len _ _ _ _ _,fun y hy=>by rw [hsl] at hy;have h1:=stR_stk y hy;have h2:=HXS.out;omega⟩
    rw [←hsl] at HNX
    obtain⟨M,hM⟩:∃M,M=l6.length+l4.length+l5.length:=⟨_,rfl⟩
    rw [←hM] at HSN HO HM
    have HMI:Aside0 (i_*M+M=(i_+1)*M∧(i_+1)*M≤1000000):=⟨by rw [Nat.succ_mul],Nat.le_trans (Nat.mul_le_mul_right M HLT.out) HM.out⟩
    have HME:=Aside0.mk hM
    have s3:=eq_true (show (i_:Int) < (ts.length:Int) by omega)
    have s4:=eq_true (show (0:Int)≤(i_:Int) by omega)
    subst eA
    clear hl_ hla hr1 hx HX1 HX2 hob hsl p0 p1 hM
    go_upto_region 5 with (fail)
    refine start_ (n:=8) (S:=fun w'=>w'.cell? ⟨ga,0,none⟩=some (.int .i64 n)∧w'.cell? ⟨ga,1,none⟩=some (.int .i64 g)∧w'.cell? ⟨ga,2,none⟩=some (.slice A2 l2.length c2)∧w'.cell? ⟨ga,3,none⟩=some (.slice A3 l3.length c3)∧w'.cell? ⟨ga,4,none⟩=some (.slice A4 l4.length c4)∧w'.cell? ⟨ga,5,none⟩=some (.slice A5 l5.length c5)∧w'.cell? ⟨ga,6,none⟩=some (.slice A6 l6.length c6)∧w'.cell? (ad.add (i_*2))=some (.int .i64 x.f0)∧w'.cell? ⟨(ad.add (i_*2)).block,(ad.add (i_*2)).off+1,none⟩=some (.slice AX x.f1.length cx)) (ds:=[]) (pm 0 8) (by kernel_rfl) rfl rfl ⟨(blk_cell (HO.out.below (below_drew (Below.refl _ _))).a 0).trans rfl,(blk_cell (HO.out.below (below_drew (Below.refl _ _))).a 1).trans rfl,(blk_cell (HO.out.below (below_drew (Below.refl _ _))).a 2).trans rfl,(blk_cell (HO.out.below (below_drew (Below.refl _ _))).a 3).trans rfl,(blk_cell (HO.out.below (below_drew (Below.refl _ _))).a 4).trans rfl,(blk_cell (HO.out.below (below_drew (Below.refl _ _))).a 5).trans rfl,(blk_cell (HO.out.below (below_drew (Below.refl _ _))).a 6).trans rfl,HP.out.1,HP.out.2⟩ (fun hHeld=>?_)
    have HO1:=Aside0.mk (HO.out.below (below_drew (Below.refl _ _)))
    have HP1:Aside0 (wl.drew.cell? (ad.add (i_*2))=some (.int .i64 x.f0)∧wl.drew.cell? ⟨(ad.add (i_*2)).block,(ad.add (i_*2)).off+1,none⟩=some (.slice AX x.f1.length cx)):=⟨HP.out⟩
    clear HO HP
    have HO:=HO1
    have HP:=HP1
    clear HO1 HP1
    obtain⟨wd,hwd⟩:∃W:World,W=wl.drew:=⟨_,rfl⟩
    rw [←hwd] at HO HP hHeld ⊢
    clear hwd
    try clear wl
    obtain⟨wl,rfl⟩:∃W:World,W=wd:=⟨_,rfl⟩
    iterate 6 (first|(refine pn_ (v:=?_) (a':=?_) rfl (rfl (a:=some _)) (by kernel_rfl) (fun _ _ _ h=>h) (Or.inl ⟨by rfl,?_⟩) ?_ ?_;rotate_left;(intro w';go_simp;with_reducible rfl);rotate_left;(simp only [Act.put,List.setIfInBounds_toArray,List.set_cons_zero,List.set_cons_succ,i64_w,i32_w];rfl))|(refine tn_ (v:=?_) (a':=?_) rfl (rfl (a:=some _)) (by kernel_rfl) (fun _ _ _ h=>h) (Or.inl ⟨by rfl,?_⟩) hHeld ?_ ?_;rotate_left;(intro w' hS_;obtain⟨s0,s1,s2,s3,s4,s5,s6,s7,s8⟩:=hS_;go_simp;with_reducible rfl);rotate_left;(simp only [Act.put,List.setIfInBounds_toArray,List.set_cons_zero,List.set_cons_succ,i64_w,i32_w];rfl)))
    refine one_ (i:=6) (N:=(some 25)) (pm 7 1) rfl rfl (by kernel_rfl) (by decide) (fun K hK=>?_)
    refine goes_ Try.func38 (by kernel_rfl) rfl #[.agg #[.int .i64 n,.int .i64 g,.slice A2 l2.length c2,.slice A3 l3.length c3,.slice A4 l4.length c4,.slice A5 l5.length c5,.slice A6 l6.length c6],.agg #[.int .i64 x.f0,.slice AX x.f1.length cx],.int .i64 s] rfl rfl rfl (by(try simp only [List.map_toArray,List.map_cons,List.map_nil]);rfl) ?_
    refine(step_own n g A2 c2 l2 A3 c3 l3 A4 c4 l4 A5 c5 l5 A6 c6 l6 AX cx x s _ (Kd.C_below HI2.out.1 HO.out.b) HI2.out.2.1 HI2.out.2.2 (Kd.C_below HI3.out.1 HO.out.b) HI3.out.2.1 HI3.out.2.2 (Kd.C_below HI4.out.1 HO.out.b) HI4.out.2.1 HI4.out.2.2 (Kd.C_below HI5.out.1 HO.out.b) HI5.out.2.1 HI5.out.2.2 (Kd.C_below HI6.out.1 HO.out.b) HI6.out.2.1 HI6.out.2.2 HX.out.1 (Kd.C_below HX.out.2 HO.out.b) (by have:=HXS.out;omega)).mono ?_
    rintro e we ⟨SA,sc,ss,rfl,hs1,hs2,hs3,hb⟩
    rw [←HSE.out] at hs3
    have HS:Aside0 (Kd.C kRaw we SA ss.length ss∧ss.length≤sc∧RawsOf we ss sl):=⟨⟨hs1,hs2,hs3⟩⟩
    have HO1:=Aside0.mk (HO.out.below hb)
    have HP1:Aside0 (we.cell? (ad.add (i_*2))=some (.int .i64 x.f0)∧we.cell? ⟨(ad.add (i_*2)).block,(ad.add (i_*2)).off+1,none⟩=some (.slice AX x.f1.length cx)):=⟨⟨(hb.cell (World.block_lt_of_cell? _ _ HP.out.1)).trans HP.out.1,(hb.cell (World.block_lt_of_cell? _ _ HP.out.2)).trans HP.out.2⟩⟩
    clear hb hs1 hs2 hs3 hHeld HO HP
    have HO:=HO1
    have HP:=HP1
    clear HO1 HP1
    refine⟨_,rfl,?_⟩
    refine hK.out _ _ ⟨(blk_cell HO.out.a 0).trans rfl,(blk_cell HO.out.a 1).trans rfl,(blk_cell HO.out.a 2).trans rfl,(blk_cell HO.out.a 3).trans rfl,(blk_cell HO.out.a 4).trans rfl,(blk_cell HO.out.a 5).trans rfl,(blk_cell HO.out.a 6).trans rfl,HP.out.1,HP.out.2⟩ (fun hHeld=>?_)
    clear hK K
    obtain⟨wl,rfl⟩:∃W:World,W=we:=⟨_,rfl⟩
    refine norm_ (a':=?_) ?_ ?_
    rotate_left
    ·show Act.put _ (some 25) _ = _
     simp only [Act.put,List.setIfInBounds_toArray,List.set_cons_zero,List.set_cons_succ,i64_w,i32_w]
     rfl
    refine pn_ (v:=?_) (a':=?_) rfl (rfl (a:=some _)) (by kernel_rfl) (fun _ _ _ h=>h) (Or.inl ⟨by rfl,?_⟩) ?_ ?_;rotate_left;(intro w';go_simp;with_reducible rfl);rotate_left;(simp only [Act.put,List.setIfInBounds_toArray,List.set_cons_zero,List.set_cons_succ,i64_w,i32_w];rfl)
    refine done_ (by kernel_rfl) ?_
    clear HP s3 s4
    obtain⟨wo,rfl⟩:∃W:World,W=wl:=⟨_,rfl⟩
    have HB0:Aside0 (Below wo.heap.size wo wo):=⟨Below.refl _ _⟩
    have HSL:=Aside0.mk HS.out.2.2.len
    have HQ:Aside0 (OR w wo ga #[.int .i64 n,.int .i64 g,.slice A2 l2.length c2,.slice A3 l3.length c3,.slice A4 l4.length c4,.slice A5 l5.length c5,.slice A6 l6.length c6] A c rs (putsL ob (sl.take 0)) (i_*M+0)):=⟨HO.out⟩
    go_wp2
    go_loopg [9,12] ss.length (fun gk v9 vk w'=>∃(k_:Nat) (A:Option Addr) (c:Nat) (rs:List Raw),v9=.slice A rs.length c∧vk=.int .i64 (k_:Int)∧Aside0 (k_≤ss.length∧ss.length - k_≤gk)∧Aside0 (Below wo.heap.size wo w')∧Aside0 (OR w w' ga #[.int .i64 n,.int .i64 g,.slice A2 l2.length c2,.slice A3 l3.length c3,.slice A4 l4.length c4,.slice A5 l5.length c5,.slice A6 l6.length c6] A c rs (putsL ob (sl.take k_)) (i_*M+k_)))
    case atStart=>exact⟨0,A,c,rs,rfl,rfl,⟨by omega,by omega⟩,HB0,HQ⟩
    case round=>
     clear HO HQ HB0
     obtain⟨k_,A,c,rs,rfl,rfl,Hk,HB,HO⟩:=hrel
     obtain⟨wl,rfl⟩:∃W:World,W=wr:=⟨_,rfl⟩
     by_cases hk_:k_ < ss.length
     ·as_aux_lemma=>
       have HLK:=Aside0.mk hk_
       have hla:k_ < sl.length:=by have:=HSL.out;omega
       obtain⟨AY,cy,hr1,HY1,HY2⟩:=(HS.out.2.2.get k_ hk_ hla).form
       obtain⟨y,hy⟩:∃y,y=sl[k_]:=⟨_,rfl⟩
       have HYS:Aside0 (y.f1.length≤1000):=⟨HSN.out.2 y (by rw [hy];exact List.getElem_mem _)⟩
       have HNY:Aside0 (putsL ob (sl.take (k_+1))=putL y (putsL ob (sl.take k_))):=⟨by unfold putsL;rw [List.take_add_one,List.getElem?_eq_getElem hla,List.foldl_append,hy];rfl⟩
       rw [←hy] at hr1 HY1 HY2
       obtain⟨ad2,eA,p0,p1⟩:=at_raw (Kd.C_below HS.out.1 HB.out) k_ (y.f0,AY,y.f1.length,cy) (by rw [←hr1];exact List.getElem?_eq_getElem _) hk_
       have p1:wl.cell? ⟨(ad2.add (k_*2)).block,(ad2.add (k_*2)).off+1,none⟩=some (.slice AY y.f1.length cy):=p1
       have HY:=Aside0.mk (And.intro HY1 HY2)
       obtain⟨oc,hoc⟩:∃l,l=putsL ob (sl.take k_):=⟨_,rfl⟩
       rw [←hoc] at HNY HO
       have s3:=eq_true (show (k_:Int) < (ss.length:Int) by omega)
       have s4:=eq_true (show (0:Int)≤(k_:Int) by omega)
       subst eA
       clear hk_ hla hr1 hy HY1 HY2 hoc
       go_wp2_with fail
       refine(put_own A c rs oc AY cy y _ HO.out.r.1 HO.out.r.2 HO.out.q HY.out.1 (Kd.C_below HY.out.2 HB.out) (by have h1:=HO.out.n;have h2:=HO.out.q.len;have h3:=HMI.out;have h4:=HSN.out.1;have h5:=HSL.out;have h6:=HLK.out;omega) HO.out.s HYS.out).mono ?_
       rintro e we ⟨A',c',rs',rfl,hq1,hq2,hq3,hb⟩
       have HO2:Aside0 (OR w we ga _ A' c' rs' (putL y oc) (i_*M+(k_+1))):=⟨⟨below_then HO.out.b HO.out.b.size hb,blk_below HO.out.a hb,⟨hq1,hq2⟩,hq3,by have h1:=putL_len y oc;have h2:=HO.out.n;omega,fun z hz=>(putL_mem hz).elim (fun e=>by rw [e];exact HYS.out) (fun h=>HO.out.s z h)⟩⟩
       have HB2:=Aside0.mk (below_then HB.out HB.out.size hb)
       clear hq1 hq2 hq3 hb p0 p1 s3 s4
       go_wp2
       go_roundg (ss.length - (k_+1))
       case measure=>have:=Hk.out;have:=HLK.out;omega
       case rel=>exact⟨k_+1,A',c',rs',rfl,by first|rfl|rw [show wrap64 ((k_:Int)+1)=((k_+1:Nat):Int) by have h3:=HMI.out;have h4:=HSN.out.1;have h5:=HSL.out;have h6:=HLK.out;unfold wrap64;omega],⟨HLK.out,Nat.le_refl _⟩,HB2,⟨by rw [HNY.out];exact HO2.out⟩⟩
     have e4:sl.take k_=sl:=List.take_of_length_le (by have:=HSL.out;omega)
     rw [e4] at HO
     have HO2:Aside0 (OR w wl ga _ A c rs (stepsR l4 l5 l6 (at_.take (i_+1)) s) ((i_+1)*M)):=⟨by rw [HNX.out];exact⟨HO.out.b,HO.out.a,HO.out.r,HO.out.q,by have h1:=HO.out.n;have h2:=Hk.out.1;have h3:=HSL.out;have h4:=HSN.out.1;have h5:=HMI.out;omega,HO.out.s⟩⟩
     have s3:=eq_false (show ¬(k_:Int) < (ss.length:Int) by omega)
     clear hk_ Hk e4
     go_wp2
     go_roundg (ts.length - (i_+1))
     case measure=>have:=Hi.out;have:=HLT.out;omega
     case rel=>exact⟨i_+1,A,c,rs,rfl,by first|rfl|rw [show wrap64 ((i_:Int)+1)=((i_+1:Nat):Int) by have h1:=HLT.out;have h2:=HT.out.1.2.1;unfold wrap64;omega],⟨HLT.out,Nat.le_refl _⟩,⟨by rw [←HME.out];exact HO2.out⟩⟩
  have e4:at_.take i_=at_:=List.take_of_length_le (by have:=HTN.out;omega)
  rw [e4] at HO
  have s3:=eq_false (show ¬(i_:Int) < (ts.length:Int) by omega)
  clear hl_ e4 Hi
  go_wp2
  go_ret
  exact⟨A,c,rs,rfl,HO.out.r.1,HO.out.r.2,HO.out.q,HO.out.b⟩
end Go.Proofs.Ytjkhdldgmkkhjaa.P
end
section
namespace Go.Proofs.Ytjkhdldgmkkhjaa.P
open Go.RowKit Go.Proofs.YtjkhdldgmkkhjaaW.PrintWords Go.Proofs.YtjkhdldgmkkhjaaW.PrintLast Go.Proofs.YtjkhdldgmkkhjaaW.PrintMore Go.Proofs.Ytjkhdldgmkkhjaa.M
theorem totalR:TotalCmp cmpR:=TotalCmp.or totalInt totalList (fun x:RAt=>x.f0) (fun x:RAt=>x.f1) (fun x y h1 h2=>by cases x;cases y;simp at h1 h2;rw [h1,h2])
abbrev sortedR (l:List RAt):Prop:=l.Pairwise (fun a b=>cmpR a b < 0)
theorem putK_hi (x:RAt) (l:List RAt):∀(k j:Nat),putK x l k≤j→j < k→cmpR x (l.getD j ⟨0,[]⟩) < 0
 | 0,j,_,h=>absurd h (Nat.not_lt_zero j)
 | k+1,j,h1,h2=>by
  rw [putK] at h1
  split at h1
  ·rename_i c
   rcases Nat.lt_succ_iff_lt_or_eq.1 h2 with h|h
   ·exact putK_hi x l k j h1 h
   rw [h];exact of_decide_eq_true c
  omega
theorem putK_lo (x:RAt) (l:List RAt):∀(k:Nat),0 < putK x l k→¬cmpR x (l.getD (putK x l k - 1) ⟨0,[]⟩) < 0
 | 0,h=>absurd h (Nat.lt_irrefl 0)
 | k+1,h=>by
  rw [putK] at h ⊢
  split at h
  ·rename_i c
   rw [if_pos c]
   exact putK_lo x l k h
  rename_i c
  rw [if_neg c,Nat.add_sub_cancel]
  exact fun h2=>c (decide_eq_true h2)
theorem getD_mem {l:List RAt} {k:Nat} (h:k < l.length):l.getD k ⟨0,[]⟩∈l:=by
 rw [List.getD_eq_getElem?_getD,List.getElem?_eq_getElem h]
 exact List.getElem_mem h
theorem putL_iff {x:RAt} {l:List RAt} {y:RAt} : y∈putL x l↔y=x∨y∈l:=by
 refine⟨putL_mem,fun h=>?_⟩
 unfold putL
 split
 ·rename_i c
  rcases h with rfl|h
  ·have h1 := putK_lo y l l.length c.1
   have h2:=of_decide_eq_false c.2
   have h3:=totalR.anti y (l.getD (putK y l l.length - 1) ⟨0,[]⟩)
   have h4:y=l.getD (putK y l l.length - 1) ⟨0,[]⟩:=totalR.zero.1 (by omega)
   rw [h4]
   exact getD_mem (by have:=putK_le y l l.length;have:=c.1;omega)
  exact h
 rw [List.mem_append, List.mem_append, List.mem_singleton]
 rcases h with h|h
 ·exact .inl (.inr h)
 rw [← List.take_append_drop (putK x l l.length) l] at h
 rcases List.mem_append.1 h with h|h
 ·exact .inl (.inl h)
 exact .inr h
theorem putL_sorted {x:RAt} {l:List RAt} (hs:sortedR l):sortedR (putL x l):=by
 unfold putL
 split
 ·exact hs
 rename_i c
 have hk:=putK_le x l l.length
 have hi:=fun j=>putK_hi x l l.length j
 obtain⟨k,ek⟩:∃k,k=putK x l l.length:=⟨_,rfl⟩
 rw [←ek] at c hk hi ⊢
 have hs2:=hs
 rw [←List.take_append_drop k l] at hs2
 obtain⟨s1,s2,s3⟩:=List.pairwise_append.1 hs2
 have lo:∀a∈l.take k,cmpR a x < 0:=by
  intro a ha
  obtain⟨j,hj,rfl⟩:=List.mem_iff_getElem.1 ha
  rw [List.length_take] at hj
  have hk0:0 < k:=by omega
  have h1:cmpR (l.getD (k - 1) ⟨0,[]⟩) x < 0:=by
   cases e:lessB (l.getD (k - 1) ⟨0,[]⟩) x with
   | false=>exact absurd ⟨hk0,e⟩ c
   | true=>exact of_decide_eq_true e
  rw [List.getD_eq_getElem?_getD,List.getElem?_eq_getElem (show k - 1 < l.length by omega)] at h1
  rw [List.getElem_take]
  by_cases e:j=k - 1
  ·subst e;exact h1
  exact totalR.trans (List.pairwise_iff_getElem.1 hs j (k - 1) (by omega) (by omega) (by omega)) h1
 have up:∀b∈l.drop k,cmpR x b < 0:=by
  intro b hb
  obtain⟨j,hj,rfl⟩:=List.mem_iff_getElem.1 hb
  rw [List.length_drop] at hj
  have h1:=hi (k+j) (by omega) (by omega)
  rw [List.getD_eq_getElem?_getD,List.getElem?_eq_getElem (show k+j < l.length by omega)] at h1
  rw [List.getElem_drop]
  exact h1
 refine List.pairwise_append.2 ⟨List.pairwise_append.2 ⟨s1,List.pairwise_singleton _ _,fun a ha b hb=>by rw [List.mem_singleton.1 hb];exact lo a ha⟩,s2,fun a ha b hb=>?_⟩
 rcases List.mem_append.1 ha with h|h
 ·exact s3 a h b hb
 rw [List.mem_singleton.1 h];exact up b hb
theorem putL_ins {x:RAt} {l:List RAt} (hs:sortedR l):putL x l=insC cmpR l x:=totalR.unique (putL_sorted hs) (totalR.ins_sorted hs) (fun y=>by rw [putL_iff,totalR.mem_ins])
theorem putsL_ins:∀(m:List RAt) {l:List RAt},sortedR l→putsL l m=m.foldl (insC cmpR) l
 | [],_,_=>rfl
 | y :: m,l,h=>by
  show putsL (putL y l) m=m.foldl (insC cmpR) (insC cmpR l y)
  rw [putL_ins h]
  exact putsL_ins m (totalR.ins_sorted h)
theorem fold_sorted:∀(m:List RAt) {l:List RAt},sortedR l→sortedR (m.foldl (insC cmpR) l)
 | [],_,h=>h
 | y :: m,l,h=>fold_sorted m (totalR.ins_sorted h)
theorem stepsR_once (os:List TOpen) (cs:List TClose) (is:List TInner) (at_:List RAt) (s:Int):stepsR os cs is at_ s=onceC cmpR (at_.flatMap fun x=>stR os cs is x s):=by
 have go:∀(at_:List RAt) {l:List RAt},sortedR l→at_.foldl (fun out x=>putsL out (stR os cs is x s)) l=(at_.flatMap fun x=>stR os cs is x s).foldl (insC cmpR) l:=by
  intro at_
  induction at_ with
  | nil=>intro l h;rfl
  | cons x at_ ih=>
   intro l h
   rw [List.foldl_cons,List.flatMap_cons,List.foldl_append,putsL_ins _ h]
   exact ih (fold_sorted _ h)
 exact go at_ List.Pairwise.nil
end Go.Proofs.Ytjkhdldgmkkhjaa.P
end
section
namespace Go.Proofs.Ytjkhdldgmkkhjaa.P
open Go.RowKit Go.Proofs.YtjkhdldgmkkhjaaW.PrintWords Go.Proofs.YtjkhdldgmkkhjaaW.PrintLast Go.Proofs.YtjkhdldgmkkhjaaW.PrintMore Go.Proofs.Ytjkhdldgmkkhjaa.M
def toR (x:TAt):RAt:=⟨x.f0,x.f1⟩
theorem move_stR {l:List SSym} {N G:Int} {st:MSt} (I:MkInv l N G st) {s:Int} (x:TAt) (y:RAt):y∈stR st.o st.c st.n (toR x) s↔∃z∈moveL st.o st.c st.n (rd_T46 l s).f1 s x,toR z=y:=by
 have ho:∀o∈st.o,o.f1=s→(rd_T46 l s).f1=1:=fun o h e=>by rw [←e];exact(I.o o h).2.1.2.2
 have hc:∀o∈st.c,o.f1=s→(rd_T46 l s).f1=2:=fun o h e=>by rw [←e];exact(I.c o h).2.1.2.2
 have hn:∀o∈st.n,o.f1=s→(rd_T46 l s).f1=3:=fun o h e=>by rw [←e];exact(I.n o h).2.1.2.2
 unfold stR
 simp only [List.mem_append,List.mem_flatMap]
 constructor
 ·rintro ((⟨r, hr, h⟩ | ⟨r, hr, h⟩) | ⟨r, hr, h⟩)
  ·unfold mvN at h
   split at h
   ·rename_i c
    have k:=hn r hr c.2
    refine⟨⟨r.f2,x.f1⟩,?_,(List.mem_singleton.1 h).symm⟩
    unfold moveL
    rw [if_neg (by omega),if_neg (by omega)]
    exact mem_inner.2 ⟨r,hr,c,rfl⟩
   cases h
  ·unfold mvO at h
   split at h
   ·rename_i c
    have k:=ho r hr c.2
    refine⟨⟨r.f2,r.f3 :: x.f1⟩,?_,(List.mem_singleton.1 h).symm⟩
    unfold moveL
    rw [if_pos k]
    exact mem_open.2 ⟨r,hr,c,rfl⟩
   cases h
  unfold mvC at h
  split at h
  ·rename_i c
   have k:=hc r hr c.2.1
   refine⟨⟨r.f3,x.f1.tail⟩,?_,(List.mem_singleton.1 h).symm⟩
   unfold moveL
   rw [if_neg (by omega),if_pos k]
   exact mem_close.2 ⟨r,hr,c,rfl⟩
  cases h
 rintro ⟨z, hz, rfl⟩
 unfold moveL at hz
 split at hz
 ·obtain ⟨o, h1, h2, rfl⟩ := mem_open.1 hz
  exact .inl (.inr ⟨o,h1,by rw [show mvO (toR x) s o = [⟨o.f2,o.f3 :: x.f1⟩] from if_pos h2];exact List.mem_singleton.2 rfl⟩)
 split at hz
 ·obtain ⟨o, h1, h2, rfl⟩ := mem_close.1 hz
  exact .inr ⟨o,h1,by rw [show mvC (toR x) s o = [⟨o.f3,x.f1.tail⟩] from if_pos h2];exact List.mem_singleton.2 rfl⟩
 obtain ⟨o, h1, h2, rfl⟩ := mem_inner.1 hz
 exact .inl (.inl ⟨o,h1,by rw [show mvN (toR x) s o = [⟨o.f2,x.f1⟩] from if_pos h2];exact List.mem_singleton.2 rfl⟩)
theorem step_same {l:List SSym} {N G:Int} {st:MSt} (I:MkInv l N G st) (at_:List TAt) {s:Int} (hs:0≤s∧s < l.length):(stepL l st.o st.c st.n at_ s).map toR=stepsR st.o st.c st.n (at_.map toR) s:=by
 rw [stepsR_once]
 refine totalR.unique (List.pairwise_map.2 ((step_sorted (l:=l) (os:=st.o) (cs:=st.c) (is:=st.n) (at_:=at_) (s:=s)).imp (fun h=>h))) (totalR.once_sorted _) (fun y=>?_)
 rw [totalR.mem_once,List.mem_map,List.mem_flatMap]
 constructor
 ·rintro ⟨z, hz, rfl⟩
  obtain⟨x,hx,hm⟩:=(mem_step hs).1 hz
  exact⟨toR x,List.mem_map.2 ⟨x,hx,rfl⟩,(move_stR I x _).2 ⟨z,hm,rfl⟩⟩
 rintro ⟨_, hx, hy⟩
 obtain⟨x,hx2,rfl⟩:=List.mem_map.1 hx
 obtain⟨z,hz,e⟩:=(move_stR I x y).1 hy
 exact⟨z,(mem_step hs).2 ⟨x,hx2,hz⟩,e⟩
theorem start_same (init:List Int):(startL init).map toR=(onceC cmpInt init).map fun s=>(⟨s,[]⟩:RAt):=by
 refine totalR.unique (List.pairwise_map.2 ((start_sorted init).imp (fun h=>h))) (List.pairwise_map.2 ((totalInt.once_sorted init).imp (fun {a b} h=>?_))) (fun y=>?_)
 ·show (if cmpInt a b = 0 then cmpList [] [] else cmpInt a b) < 0
  rw [if_neg (by omega)]
  exact h
 rw [List.mem_map, List.mem_map]
 constructor
 ·rintro ⟨z, hz, rfl⟩
  obtain⟨h1,h2⟩:=mem_start.1 hz
  exact⟨z.f0,totalInt.mem_once.2 h1,by unfold toR;rw [h2]⟩
 rintro ⟨q, hq, rfl⟩
 exact⟨⟨q,[]⟩,mem_start.2 ⟨totalInt.mem_once.1 hq,rfl⟩,rfl⟩
end Go.Proofs.Ytjkhdldgmkkhjaa.P
end
section
namespace Go.Proofs.Ytjkhdldgmkkhjaa.P
open Go.RowKit Go.Proofs.YtjkhdldgmkkhjaaW.PrintWords Go.Proofs.YtjkhdldgmkkhjaaW.PrintLast Go.Proofs.YtjkhdldgmkkhjaaW.PrintMore Go.Proofs.Ytjkhdldgmkkhjaa.M
theorem as_loop (l:List TAt) (hl:l.length≤1000000):∀(d:Nat) (i:Int),0≤i→i≤l.length→l.length - i=d→∀k,d < k→canopylaw4_as.l0 k l ((l.take i.toNat).map toR) i=some (l.map toR):=by
 intro d
 induction d with
 | zero=>
  intro i h0 h1 hd k hk
  obtain⟨k,rfl⟩:∃e,k=e+1:=⟨k - 1,by omega⟩
  unfold canopylaw4_as.l0
  rw [if_neg (by omega),List.take_of_length_le (by omega)]
 | succ d ih=>
  intro i h0 h1 hd k hk
  obtain⟨k,rfl⟩:∃e,k=e+1:=⟨k - 1,by omega⟩
  have hi:i.toNat < l.length:=by omega
  unfold canopylaw4_as.l0
  rw [if_pos (by omega),if_pos h0,if_pos (by rw [List.length_map,List.length_take];omega),show wrap64 (i+1)=i+1 by unfold wrap64;omega]
  have e:(l.take i.toNat).map toR ++ [(⟨(rd_T48 l i).f0,(rd_T48 l i).f1⟩:RAt)]=(l.take (i+1).toNat).map toR:=by
   rw [show (i+1).toNat=i.toNat+1 by omega,List.take_add_one,List.getElem?_eq_getElem hi,List.map_append]
   unfold rd_T48
   rw [List.getD_eq_getElem?_getD,List.getElem?_eq_getElem hi]
   rfl
  rw [e]
  exact ih (i+1) (by omega) (by omega) (by omega) k (by omega)
theorem as_eq (l:List TAt) (hl:l.length≤1000000) (k:Nat) (hk:1000001 < k):canopylaw4_as.f k l=some (l.map toR):=by
 have:=as_loop l hl l.length 0 (by omega) (by omega) (by omega) k (by omega)
 exact this
theorem rstart_loop (q:List Int) (hl:q.length≤1000):∀(d:Nat) (i:Int),0≤i→i≤q.length→q.length - i=d→∀k,d < k→canopyref4_Start.l0 k ((q.take i.toNat).map fun s=>(⟨s,[]⟩:RAt)) q i=some (q.map fun s=>(⟨s,[]⟩:RAt)):=by
 intro d
 induction d with
 | zero=>
  intro i h0 h1 hd k hk
  obtain⟨k,rfl⟩:∃e,k=e+1:=⟨k - 1,by omega⟩
  unfold canopyref4_Start.l0
  rw [if_neg (by omega),List.take_of_length_le (by omega)]
 | succ d ih=>
  intro i h0 h1 hd k hk
  obtain⟨k,rfl⟩:∃e,k=e+1:=⟨k - 1,by omega⟩
  have hi:i.toNat < q.length:=by omega
  unfold canopyref4_Start.l0
  rw [if_pos (by omega),if_pos h0,if_pos (by rw [List.length_map,List.length_take];omega),show wrap64 (i+1)=i+1 by unfold wrap64;omega]
  have e:((q.take i.toNat).map fun s=>(⟨s,[]⟩:RAt)) ++ [(⟨rd q i,[]⟩:RAt)]=(q.take (i+1).toNat).map fun s=>(⟨s,[]⟩:RAt):=by
   rw [show (i+1).toNat=i.toNat+1 by omega,List.take_add_one,List.getElem?_eq_getElem hi,List.map_append]
   unfold rd
   rw [List.getD_eq_getElem?_getD,List.getElem?_eq_getElem hi]
   rfl
  rw [e]
  exact ih (i+1) (by omega) (by omega) (by omega) k (by omega)
theorem rints_self (a:List Int) (ha:a.length≤1000):∀(d:Nat) (i:Int),0≤i→i≤a.length→a.length - i=d→∀k,d < k→canopyref1_Ints.l0 k a a i=some true:=by
 intro d
 induction d with
 | zero=>
  intro i h0 h1 hd k hk
  obtain⟨k,rfl⟩:∃e,k=e+1:=⟨k - 1,by omega⟩
  unfold canopyref1_Ints.l0
  rw [if_neg (by omega)]
 | succ d ih=>
  intro i h0 h1 hd k hk
  obtain⟨k,rfl⟩:∃e,k=e+1:=⟨k - 1,by omega⟩
  unfold canopyref1_Ints.l0
  rw [if_pos (by omega),if_pos h0,if_pos (by omega),if_pos rfl,show wrap64 (i+1)=i+1 by unfold wrap64;omega]
  exact ih (i+1) (by omega) (by omega) (by omega) k (by omega)
theorem rsame_loop (l:List RAt) (hl:l.length≤1000000) (hs:∀x∈l,x.f1.length≤1000):∀(d:Nat) (i:Int),0≤i→i≤l.length→l.length - i=d→∀k,d+1002 < k→canopyref4_Same.l0 k l l i=some true:=by
 intro d
 induction d with
 | zero=>
  intro i h0 h1 hd k hk
  obtain⟨k,rfl⟩:∃e,k=e+1:=⟨k - 1,by omega⟩
  unfold canopyref4_Same.l0
  rw [if_neg (by omega)]
 | succ d ih=>
  intro i h0 h1 hd k hk
  obtain⟨k,rfl⟩:∃e,k=e+1:=⟨k - 1,by omega⟩
  have hi:i.toNat < l.length:=by omega
  have hx:rd_T67 l i∈l:=by
   unfold rd_T67
   rw [List.getD_eq_getElem?_getD,List.getElem?_eq_getElem hi]
   exact List.getElem_mem hi
  have hk2:=hs _ hx
  have e:canopyref1_Ints.f k (rd_T67 l i).f1 (rd_T67 l i).f1=some true:=by
   unfold canopyref1_Ints.f
   rw [if_pos rfl]
   exact rints_self _ hk2 (rd_T67 l i).f1.length 0 (by omega) (by omega) (by omega) k (by omega)
  unfold canopyref4_Same.l0
  rw [if_pos (by omega),if_pos h0,if_pos (by omega),if_pos rfl,e]
  simp only [Option.bind_some,if_true]
  rw [show wrap64 (i+1)=i+1 by unfold wrap64;omega]
  exact ih (i+1) (by omega) (by omega) (by omega) k (by omega)
theorem rsame_eq (l:List RAt) (hl:l.length≤1000000) (hs:∀x∈l,x.f1.length≤1000) (k:Nat) (hk:1001003 < k):canopyref4_Same.f k l l=some true:=by
 unfold canopyref4_Same.f
 rw [if_pos rfl]
 exact rsame_loop l hl hs l.length 0 (by omega) (by omega) (by omega) k (by omega)
end Go.Proofs.Ytjkhdldgmkkhjaa.P
end
section
namespace Go.Proofs.Ytjkhdldgmkkhjaa.P
open Go.RowKit Go.Proofs.YtjkhdldgmkkhjaaW.PrintWords Go.Proofs.YtjkhdldgmkkhjaaW.PrintLast Go.Proofs.YtjkhdldgmkkhjaaW.PrintMore Go.Proofs.Ytjkhdldgmkkhjaa.M
section
variable (n g : Int) (i f : List Int) (os : List S52) (cs : List S54) (is : List S56) (l : List RAt) (hf : f.length ≤ 1000) (hl : l.length ≤ 1000000)
include hf hl
theorem ends_in (p:Int) (h0:0≤p) (h1:p < l.length) (K:Nat) (r:Bool) (hn:∀k,K < k→canopyref4_Ends.l0 k l (p+1) n g i f os cs is=some r):∀(d:Nat) (j:Int),0≤j→j≤f.length→f.length - j=d→∀k,K+d+1 < k→
 canopyref4_Ends.l1 k l p j n g i f os cs is=some ((f.drop j.toNat).contains (rd_T67 l p).f0 || r):=by
 intro d
 induction d with
 | zero=>
  intro j j0 j1 hd k hk
  obtain⟨k,rfl⟩:∃e,k=e+1:=⟨k - 1,by omega⟩
  unfold canopyref4_Ends.l1
  rw [if_neg (by omega),List.drop_of_length_le (by omega),show wrap64 (p+1)=p+1 by unfold wrap64;omega,hn k (by omega)]
  rfl
 | succ d ih=>
  intro j j0 j1 hd k hk
  obtain⟨k,rfl⟩:∃e,k=e+1:=⟨k - 1,by omega⟩
  have hj:j.toNat < f.length:=by omega
  have e:f.drop j.toNat=rd f j :: f.drop (j+1).toNat:=by
   rw [List.drop_eq_getElem_cons hj,show (j+1).toNat=j.toNat+1 by omega]
   congr 1
   unfold rd
   rw [List.getD_eq_getElem?_getD,List.getElem?_eq_getElem hj];rfl
  unfold canopyref4_Ends.l1
  rw [if_pos (by omega),if_pos j0,if_pos h0,if_pos h1,e,List.contains_cons]
  by_cases c:rd f j=(rd_T67 l p).f0
  ·rw [if_pos c,←c];simp
  rw [if_neg c, show wrap64 (j + 1) = j + 1 by unfold wrap64; omega, ih (j + 1) (by omega) (by omega) (by omega) k (by omega)]
  rw [show ((rd_T67 l p).f0 == rd f j)=false from beq_eq_false_iff_ne.2 (fun h=>c h.symm),Bool.false_or]
theorem ends_out:∀(d:Nat) (p:Int),0≤p→p≤l.length→l.length - p=d→∀k,d*(f.length+4)+1 < k→
 canopyref4_Ends.l0 k l p n g i f os cs is=some ((l.drop p.toNat).any fun x=>f.contains x.f0):=by
 intro d
 induction d with
 | zero=>
  intro p h0 h1 hd k hk
  obtain⟨k,rfl⟩:∃e,k=e+1:=⟨k - 1,by omega⟩
  unfold canopyref4_Ends.l0
  rw [if_neg (by omega),List.drop_of_length_le (by omega)]
  rfl
 | succ d ih=>
  intro p h0 h1 hd k hk
  rw [Nat.succ_mul] at hk
  obtain⟨k,rfl⟩:∃e,k=e+1:=⟨k - 1,by omega⟩
  have hp:p.toNat < l.length:=by omega
  have e:l.drop p.toNat=rd_T67 l p :: l.drop (p+1).toNat:=by
   rw [List.drop_eq_getElem_cons hp,show (p+1).toNat=p.toNat+1 by omega]
   congr 1
   unfold rd_T67
   rw [List.getD_eq_getElem?_getD,List.getElem?_eq_getElem hp];rfl
  unfold canopyref4_Ends.l0
  rw [if_pos (by omega),ends_in n g i f os cs is l hf hl p h0 (by omega) (d*(f.length+4)+1) _ (fun k hk=>ih (p+1) (by omega) (by omega) (by omega) k hk) f.length 0 (by omega) (by omega) (by omega) k (by omega),e,List.any_cons]
  rfl
theorem ends_eq (k:Nat) (hk:l.length*(f.length+4)+1 < k):canopyref4_Ends.f k n g i f os cs is l=some (l.any fun x=>f.contains x.f0):=by
 unfold canopyref4_Ends.f
 rw [ends_out n g i f os cs is l hf hl l.length 0 (by omega) (by omega) (by omega) k hk]
 rfl
end
theorem ends_takes {S:List SSym} {N G:Int} {st:MSt} {init final w:List Int} (hw:∀s∈w,0≤s∧s < S.length):(((runL S st.o st.c st.n (startL init) w).map toR).any fun x=>final.contains x.f0)=takesB S init final st.o st.c st.n w:=by
 have h:=takes_iff (l:=S) (os:=st.o) (cs:=st.c) (is:=st.n) (init:=init) (final:=final) hw
 cases e:takesB S init final st.o st.c st.n w with
 | true=>
  obtain⟨x,hx,hf⟩:=h.1 e
  exact List.any_eq_true.2 ⟨toR x,List.mem_map.2 ⟨x,hx,rfl⟩,List.contains_iff_mem.2 hf⟩
 | false=>
  cases e2:(((runL S st.o st.c st.n (startL init) w).map toR).any fun x=>final.contains x.f0) with
  | false=>rfl
  | true=>
   obtain⟨y,hy,hf⟩:=List.any_eq_true.1 e2
   obtain⟨x,hx,rfl⟩:=List.mem_map.1 hy
   rw [h.2 ⟨x,hx,List.contains_iff_mem.1 hf⟩] at e
   cases e
end Go.Proofs.Ytjkhdldgmkkhjaa.P
end
section
namespace Go.Proofs.Ytjkhdldgmkkhjaa.P
open Go.RowKit Go.Sort Go.Shelf Go.Proofs.YtjkhdldgmkkhjaaW.PrintWords Go.Proofs.YtjkhdldgmkkhjaaW.PrintLast Go.Proofs.YtjkhdldgmkkhjaaW.PrintMore Go.Proofs.Ytjkhdldgmkkhjaa.M
set_option maxHeartbeats 2000000 in
set_option maxRecDepth 100000 in
theorem clone_int_calls (A:Option Addr) (c:Nat) (xs:List Int) (w:World) (hr:Kd.C (Kd.int .i64) w A xs.length xs) (hl:xs.length≤1000000000) :
 Calls Try.prog 51 #[.slice A xs.length c] w fun e w'=>∃v' : Value,e=.returned v'∧(Kd.int .i64).R 3 w' w.heap.size (fun _=>True) v' xs∧Below w.heap.size w w':=by
 have q22:∀(w:World) (a:Option Addr) (n c n' c' : Nat),(binOp .eql 22 (.slice a n c) (.slice none n' c')).run Try.prog w=.ok (.bool a.isNone) w:=fun w a n c n' c'=>Lib.run_eql_slice_nil w _ _ a n c n' c' Try.underlying22
 cases A with
 | none=>
  have hx:xs = []:=by
   rcases Nat.eq_zero_or_pos xs.length with h|h
   ·exact List.length_eq_zero_iff.1 h
   obtain ⟨ad, e, _⟩ := hr.2.2 h
   cases e
  subst hx
  clear hr hl
  go_enter Try.func51,Try.ntmps51
  go_wp2
  go_ret
  exact⟨_,rfl,Kd.R_nil _ _ _ _ _,Below.refl _ _⟩
 | some ad=>
  have HR:=Aside0.mk hr
  have HL:=Aside0.mk hl
  clear hr hl
  go_enter Try.func51,Try.ntmps51
  go_wp2_with (at_builtin;go_loud (refine Kd.R_append_row (Value.int .i64) 0 (w0:=w) w.heap.size rfl (.tmp 5) (.tmp 6) 22 3 (.int .i64 0) 8 rfl Try.underlying22 infoInt rfl (by decide) _ [] xs (some ad) xs.length c (fun _=>True) rfl rfl (fun _ _=>trivial) (Kd.R_of_own (World.ownsRow_made w #[] 0 (Nat.le_refl _) (Nat.zero_le _) rfl) (fun _ _=>trivial)) (Kd.C_below HR.out (below_alloc (Below.refl _ _) _)) (below_alloc (Below.refl _ _) _) ?qb ?ql ?_))
  case qb=>rw [size_alloc];omega
  case ql=>have:=HL.out;simp;omega
  intro v1 w1 hr1 hb1 hg1 hat1
  go_wp2
  go_ret
  exact⟨v1,rfl,hr1,hb1⟩
set_option maxHeartbeats 2000000 in
set_option maxRecDepth 100000 in
theorem grow_int_calls (n:Int) (w:World) (h0:0≤n) (h1:n≤10000000000) :
 Calls Try.prog 61 #[.slice none 0 0,.int .i64 n] w fun e w'=>∃v' : Value,e=.returned v'∧(Kd.int .i64).R 3 w' w.heap.size (fun _=>True) v' []∧Below w.heap.size w w':=by
 have w0:wrap64 (0 - 0)=0:=by unfold wrap64;omega
 have w1:wrap64 (n - 0)=n:=by unfold wrap64;omega
 have w2:wrap64 n=n:=by unfold wrap64;omega
 have d0:decide (n < 0)=false:=decide_eq_false (by omega)
 by_cases hn:n > 0
 ·have d1 : decide (n > 0) = true := decide_eq_true hn
  have HN:=Aside0.mk (And.intro h0 h1)
  clear hn h0 h1
  go_enter Try.func61,Try.ntmps61
  go_wp2_with (at_builtin;go_loud (refine Kd.R_append_zeros (Kd.int .i64) (w0:=w) w.heap.size rfl (.tmp 20) (.tmp 21) 22 3 3 (.int .i64 0) 8 rfl Try.underlying22 Try.underlying3 infoInt rfl (by decide) (by omega) _ [] 0 (wrap64 n) (fun _=>True) rfl rfl rfl (fun _ _=>trivial) (Kd.R_nil _ _ _ _ _) (by rw [w2];exact HN.out.1) (Below.refl _ _) (Nat.le_refl _) ?ql ?_))
  case ql=>have:=HN.out;rw [w2];simp;omega
  intro v1 w9 hr1 hb1 hg1 hat1
  obtain⟨A,c,e⟩:=Kd.R_slice hr1
  have hr2:=Kd.R_take (m:=0) (e ▸ hr1) (Nat.zero_le _)
  subst e
  have HR:=Aside0.mk hr2
  have HB:=Aside0.mk hb1
  clear hr1 hb1 hg1 hat1 hr2
  go_wp2
  go_ret
  exact⟨_,rfl,HR.out,HB.out⟩
 have d1 : decide (n > 0) = false := decide_eq_false hn
 clear hn h0 h1
 go_enter Try.func61,Try.ntmps61
 go_wp2
 go_ret
 exact⟨_,rfl,Kd.R_nil _ _ _ _ _,Below.refl _ _⟩
set_option maxHeartbeats 4000000 in
set_option maxRecDepth 100000 in
theorem concat_calls (a b:List Int) (A B:Option Addr) (ca cb g:Nat) (w:World) (ha:Kd.C (Kd.int .i64) w A a.length a) (hb:Kd.C (Kd.int .i64) w B b.length b) (hla:a.length≤1000000000) (hlb:b.length≤1000000000) (hg:w.heap[g]? = some (.cells #[.slice A a.length ca,.slice B b.length cb] 22 (0,0))) :
 Calls Try.prog 52 #[.slice (some ⟨g,0,none⟩) 2 2] w fun e w'=>∃v' : Value,e=.returned v'∧(Kd.int .i64).R 3 w' w.heap.size (fun _=>True) v' (a ++ b)∧Below w.heap.size w w':=by
 have HA:=Aside0.mk ha
 have HB:=Aside0.mk hb
 have HL:=Aside0.mk (And.intro hla hlb)
 have HG:=Aside0.mk hg
 clear ha hb hla hlb hg
 have w1:wrap64 (a.length:Int)=(a.length:Int):=by have:=HL.out;unfold wrap64;omega
 have w2:wrap64 ((a.length:Int)+(b.length:Int))=(a.length:Int)+(b.length:Int):=by have:=HL.out;unfold wrap64;omega
 have n1:decide ((a.length:Int) < 0)=false:=decide_eq_false (by omega)
 have n2:decide ((a.length:Int)+(b.length:Int) < 0)=false:=decide_eq_false (by omega)
 go_enter Try.func52,Try.ntmps52
 go_wp2
 go_loopg [3,5,11] 3 (fun gq v3 v5 v11 w'=>∃(i:Nat),v11=.int .i64 (i:Int)∧Aside0 (i≤2∧2≤gq+i)∧v3=.int .i64 (((if 1≤i then a.length else 0:Nat)+(if 2≤i then b.length else 0:Nat):Nat):Int)∧w' = w)
 case atStart=>exact⟨0,rfl,⟨by omega,by omega⟩,by simp,rfl⟩
 case' round=>skip
 obtain⟨i,rfl,Hi,rfl,rfl⟩:=hrel
 obtain⟨w,rfl⟩:∃w:World,w=wr:=⟨_,rfl⟩
 have k0:w.cell? ⟨g,0,none⟩=some (.slice A a.length ca):=(blk_cell HG.out 0).trans rfl
 have k1:w.cell? ⟨g,1,none⟩=some (.slice B b.length cb):=(blk_cell HG.out 1).trans rfl
 have hc:i=0∨i=1∨i=2:=by have:=Hi.out;omega
 rcases hc with rfl|rfl|rfl
 ·go_wp2
  go_roundg 1
  case measure=>have:=Hi.out;omega
  case rel=>exact⟨1,by simp,⟨by omega,by omega⟩,by simp,rfl⟩
 ·go_wp2
  go_roundg 0
  case measure=>have:=Hi.out;omega
  case rel=>exact⟨2,by simp,⟨by omega,by omega⟩,by simp,rfl⟩
 go_wp2_with (go_at_call 61; go_loud (refine (grow_int_calls ((a.length : Int) + (b.length : Int)) _ (by omega) (by have := HL.out; omega)).mono ?_; rintro e w' ⟨v', rfl, hr, hbw⟩; have HR := Aside0.mk hr; have HBW := Aside0.mk hbw; clear hr hbw))
 have HG1:=Aside0.mk (blk_grown HG.out (⟨HBW.out.os,HBW.out.tape,HBW.out.output,HBW.out.size,fun k hk _=>HBW.out.block k hk⟩:w.grownBy w' none) nen)
 have hsz:=HBW.out.size
 have HS:=Aside0.mk hsz
 have HA1:=Aside0.mk (Kd.C_below HA.out HBW.out)
 have HB1:=Aside0.mk (Kd.C_below HB.out HBW.out)
 obtain⟨wo,rfl⟩:∃wo:World,wo=w':=⟨_,rfl⟩
 clear k0 k1 hsz
 go_loopg [6,8,27] 3 (fun gq v6 v8 v27 w'=>∃(i:Nat),v27=.int .i64 (i:Int)∧Aside0 (i≤2∧2≤gq+i)∧Aside0 ((Kd.int .i64).R 3 w' w.heap.size (fun _=>True) v6 ((if 1≤i then a else []) ++ (if 2≤i then b else [])))∧Aside0 (Below w.heap.size w w')∧Aside0 (g < w.heap.size))
 case atStart=>exact⟨0,rfl,⟨by omega,by omega⟩,by simpa using HR,HBW,⟨blk_lt HG.out⟩⟩
 case' round=>skip
 obtain⟨i,rfl,Hi,HR1,HBx,Hgl⟩:=hrel
 have HGx:=Aside0.mk ((HBx.out.block g Hgl.out).trans HG.out)
 have k0:wr.cell? ⟨g,0,none⟩=some (.slice A a.length ca):=(blk_cell HGx.out 0).trans rfl
 have k1:wr.cell? ⟨g,1,none⟩=some (.slice B b.length cb):=(blk_cell HGx.out 1).trans rfl
 have hc:i=0∨i=1∨i=2:=by have:=Hi.out;omega
 rcases hc with rfl|rfl|rfl
 ·have hR0 := Aside0.mk (show (Kd.int .i64).R 3 wr w.heap.size (fun _ => True) u6 [] by simpa using HR1.out)
  go_wp2_with (at_builtin;go_loud (refine Kd.R_append_row (Value.int .i64) 0 (w0:=w) w.heap.size rfl (.tmp 31) (.tmp 32) 22 3 (.int .i64 0) 8 rfl Try.underlying22 infoInt rfl (by decide) u6 [] a A a.length ca (fun _=>True) rfl rfl (fun _ _=>trivial) hR0.out (Kd.C_below HA.out HBx.out) HBx.out HBx.out.size ?ql1 ?_))
  case ql1=>have:=HL.out;simp;omega
  intro v1 w1 hr1 hb1 hg1 hat1
  go_wp2
  go_roundg 1
  case measure=>have:=Hi.out;omega
  case rel=>exact⟨1,by simp,⟨by omega,by omega⟩,⟨by have h:(Kd.int .i64).R 3 w1 w.heap.size (fun _=>True) v1 ([] ++ a):=hr1;simpa using h⟩,⟨hb1⟩,Hgl⟩
 ·have hR0 := Aside0.mk (show (Kd.int .i64).R 3 wr w.heap.size (fun _ => True) u6 a by simpa using HR1.out)
  go_wp2_with (at_builtin;go_loud (refine Kd.R_append_row (Value.int .i64) 0 (w0:=w) w.heap.size rfl (.tmp 31) (.tmp 32) 22 3 (.int .i64 0) 8 rfl Try.underlying22 infoInt rfl (by decide) u6 a b B b.length cb (fun _=>True) rfl rfl (fun _ _=>trivial) hR0.out (Kd.C_below HB.out HBx.out) HBx.out HBx.out.size ?ql2 ?_))
  case ql2=>have:=HL.out;omega
  intro v1 w1 hr1 hb1 hg1 hat1
  go_wp2
  go_roundg 0
  case measure=>have:=Hi.out;omega
  case rel=>exact⟨2,by simp,⟨by omega,by omega⟩,⟨by have h:(Kd.int .i64).R 3 w1 w.heap.size (fun _=>True) v1 (a ++ b):=hr1;simpa using h⟩,⟨hb1⟩,Hgl⟩
 go_wp2
 go_ret
 exact⟨_,rfl,by simpa using HR1.out,HBx.out⟩
end Go.Proofs.Ytjkhdldgmkkhjaa.P
end
