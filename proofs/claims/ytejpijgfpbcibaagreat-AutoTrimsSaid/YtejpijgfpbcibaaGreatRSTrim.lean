/- Words and walks of this claim: STrim. -/
import Derived.Test.YtejpijgfpbcibaaGreatRUTrimEtc
set_option linter.unusedVariables false
set_option linter.unusedSimpArgs false
set_option linter.unnecessarySimpa false
namespace Go.Proofs.YtejpijgfpbcibaaGreat.P
open Go.RowKit Go.Proofs.YtejpijgfpbcibaaGreatW.PrintWords Go.Proofs.YtejpijgfpbcibaaGreatW.PrintLast Go.Proofs.YtejpijgfpbcibaaGreatW.PrintMore Go.Proofs.YtejpijgfpbcibaaGreat.M
theorem infoBool:(Tryz.prog.info? 4).map (fun i=>(i.zero,i.size,i.bytes))=some (some (.bool false),1,1):=by kernel_rfl
structure OkA (n g:Int) (l2 l3:List Int) (l4:List TOpen) (l5:List TClose) (l6:List TInner):Prop where
 n0:0≤n
 n1:n≤200
 g0:0≤g
 g1:g≤10000
 i:∀x∈l2,0≤x∧x < n
 f:∀x∈l3,0≤x∧x < n
 o:∀r∈l4,(0≤r.f0∧r.f0 < n)∧(0≤r.f2∧r.f2 < n)∧(1≤r.f3∧r.f3≤g)
 c:∀r∈l5,(0≤r.f0∧r.f0 < n)∧(0≤r.f3∧r.f3 < n)∧(0≤r.f2∧r.f2≤g)
 p:∀r∈l6,(0≤r.f0∧r.f0 < n)∧(0≤r.f2∧r.f2 < n)
theorem ok_of_check {l0:List S51} {n g:Int} {l2 l3:List Int} {l4:List TOpen} {l5:List TClose} {l6:List TInner} (h:(if bigA n g l4.length l5.length l6.length then (9:Int) else if ((((l2.any (outB n) || l3.any (outB n)) || l4.any (badO l0 n g)) || l5.any (badC l0 n g)) || l6.any (badI l0 n))=true then 9 else 0)=0):OkA n g l2 l3 l4 l5 l6:=by
 split at h
 ·cases h
 rename_i hA
 split at h
 ·cases h
 rename_i hB
 unfold bigA at hA
 simp only [Bool.or_eq_true,decide_eq_true_eq,not_or,List.any_eq_true,not_exists,not_and] at hA hB
 obtain⟨⟨⟨⟨b1,b2⟩,b3⟩,b4⟩,b5⟩:=hB
 have ho:∀x,¬outB n x=true→0≤x∧x < n:=fun x hx=>by
  unfold outB at hx
  simp only [Bool.or_eq_true,decide_eq_true_eq,not_or] at hx
  omega
 refine⟨by omega,by omega,by omega,by omega,fun x hx=>ho x (b1 x hx),fun x hx=>ho x (b2 x hx),fun r hr=>?_,fun r hr=>?_,fun r hr=>?_⟩
 ·have := b3 r hr
  unfold badO at this
  simp only [Bool.or_eq_true,decide_eq_true_eq,not_or] at this
  exact⟨ho _ this.1,ho _ this.2.1,by omega,by omega⟩
 ·have := b4 r hr
  unfold badC at this
  simp only [Bool.or_eq_true,decide_eq_true_eq,not_or] at this
  exact⟨ho _ this.1,ho _ this.2.1,by omega,by omega⟩
 ·have := b5 r hr
  unfold badI at this
  simp only [Bool.or_eq_true,decide_eq_true_eq,not_or] at this
  exact⟨ho _ this.1,ho _ this.2.1⟩
theorem row_form {w:World} {base:Nat} {ok:Nat→Prop} {v:Value} {xs:List Bool} (h:Kd.R Kd.bool 4 w base ok v xs) {b m:Nat} (hm:xs.length=m) (hb:v.ownBlock=some b):∃c,v=.slice (some ⟨b,0,none⟩) m c:=by
 subst hm
 obtain⟨A,c,rfl⟩:=Kd.R_slice h
 cases A with
 | none=>cases hb
 | some ad=>
  obtain⟨g,rfl⟩:=Kd.R_head h
  obtain rfl:g=b:=by simpa [Value.ownBlock] using hb
  exact⟨c,rfl⟩
def Two (w wd w' : World) (ga gr:Nat) (oa oz:Obj) (a b:Value) (n m:Nat):Prop:=
 Below w.heap.size w w'∧w'.heap[ga]? = some oa∧w'.heap[gr]? = some oz∧Kd.R Kd.bool 4 w' w.heap.size (fun k=>some k=a.ownBlock) a (List.replicate n false)∧Kd.R Kd.bool 4 w' w.heap.size (fun k=>some k=b.ownBlock) b (List.replicate m false)∧∃x y,a.ownBlock=some x∧b.ownBlock=some y∧x≠y
theorem RE.step {w wq w' w0:World} {gt ga vb:Nat} {vs vm:Value} {st mk st' mk' : List Bool} {gr gr' : Bool} {oa ob:Obj} (h:RE w wq w0 gt vs vm st mk gr ga oa vb ob) (ht:TrimR w' w0 gt vs vm st' mk' gr') (hf:Fr (okS gt vs vm) wq w'):RE w w' w0 gt vs vm st' mk' gr' ga oa vb ob:=
 ⟨ht,h.F.then_ hf (fun _ hk=>.inl hk),blk_kept h.A hf.kept h.na,blk_kept h.X hf.kept h.nx,h.na,h.nx⟩
theorem RE.putS {w wq w0:World} {gt ga vb bs ns cs:Nat} {vm:Value} {st mk:List Bool} {gr:Bool} {oa ob:Obj} (h:RE w wq w0 gt (.slice (some ⟨bs,0,none⟩) ns cs) vm st mk gr ga oa vb ob) (k:Int) :
 RE w (wq.setCell ⟨bs,k.toNat,none⟩ (.bool true)) w0 gt (.slice (some ⟨bs,0,none⟩) ns cs) vm (st.set k.toNat true) mk gr ga oa vb ob:=by
 have hne:gt≠bs:=fun e=>Kd.R_ne h.T.s h.T.t (by decide) (by rw [e];rfl)
 refine⟨⟨h.T.below.setCell (Kd.R_base h.T.s bs rfl) _,h.T.gin,(Below.heap_setCell _ _ _ _ hne).trans h.T.t,Kd.R_putn h.T.s k true,Kd.R_far h.T.m (fun q hq e=>?_) _,h.T.ne⟩,h.F.set (p:=⟨bs,k.toNat,none⟩) (.inl (.inr (.inl rfl))) _,(Below.heap_setCell _ _ _ _ (fun e=>h.na (.inr (.inl (by rw [e];rfl))))).trans h.A,(Below.heap_setCell _ _ _ _ (fun e=>h.nx (.inr (.inl (by rw [e];rfl))))).trans h.X,h.na,h.nx⟩
 have e2:q=bs:=e
 exact h.T.ne q (by rw [e2];rfl) hq
theorem below_cell {w w' : World} {ad:Addr} {v:Value} (hb:Below w.heap.size w w') (h:w.cell? ad=some v):w'.cell? ad=some v:=(World.cell?_of_block (hb.block ad.block (World.block_lt_of_cell? w _ h))).trans h
theorem slice3 {α:Type} {d:Kd α} {e base:Nat} {ok:Nat→Prop} {w:World} {v:Value} {xs:List α} (h:d.R e w base ok v xs):∃A m c,v=.slice A m c:=by
 obtain⟨A,c,rfl⟩:=Kd.R_slice h
 exact⟨A,_,c,rfl⟩
theorem infoOpen:(Tryz.prog.info? 36).map (fun i=>(i.zero,i.size,i.bytes))=some (some (.agg #[.int .i64 0,.int .i64 0,.int .i64 0,.int .i64 0]),4,32):=by kernel_rfl
theorem infoClose:(Tryz.prog.info? 38).map (fun i=>(i.zero,i.size,i.bytes))=some (some (.agg #[.int .i64 0,.int .i64 0,.int .i64 0,.int .i64 0]),4,32):=by kernel_rfl
theorem infoInner:(Tryz.prog.info? 40).map (fun i=>(i.zero,i.size,i.bytes))=some (some (.agg #[.int .i64 0,.int .i64 0,.int .i64 0]),3,24):=by kernel_rfl
theorem fm_yes {α β:Type} (p:α→Bool) (f:α→β) (l:List α) (i:Nat) (h:i < l.length) (hp:p l[i]=true):((l.take (i+1)).filter p).map f=((l.take i).filter p).map f ++ [f l[i]]:=by
 rw [filter_next p l i h,if_pos hp,List.map_append]
 rfl
theorem fm_no {α β:Type} (p:α→Bool) (f:α→β) (l:List α) (i:Nat) (h:i < l.length) (hp:¬p l[i]=true):((l.take (i+1)).filter p).map f=((l.take i).filter p).map f:=by
 rw [filter_next p l i h,if_neg hp,List.append_nil]
set_option maxHeartbeats 16000000 in
set_option maxRecDepth 100000 in
theorem trim_own (A0:Option Addr) (c0:Nat) (l0:List S51) (n g:Int) (A2:Option Addr) (c2:Nat) (l2:List Int) (A3:Option Addr) (c3:Nat) (l3:List Int) (A4:Option Addr) (c4:Nat) (l4:List TOpen) (A5:Option Addr) (c5:Nat) (l5:List TClose) (A6:Option Addr) (c6:Nat) (l6:List TInner) (sF:TS) (w:World) (h0:Kd.C k51 w A0 l0.length l0) (hc0:l0.length≤c0) (hl0:l0.length≤1000000000) (h2:Kd.C (Kd.int .i64) w A2 l2.length l2) (hc2:l2.length≤c2) (hl2:l2.length≤1000000000) (h3:Kd.C (Kd.int .i64) w A3 l3.length l3) (hc3:l3.length≤c3) (hl3:l3.length≤1000000000) (h4:Kd.C k36 w A4 l4.length l4) (hc4:l4.length≤c4) (hl4:l4.length≤1000000000) (h5:Kd.C k38 w A5 l5.length l5) (hc5:l5.length≤c5) (hl5:l5.length≤1000000000) (h6:Kd.C k40 w A6 l6.length l6) (hc6:l6.length≤c6) (hl6:l6.length≤1000000000) (hck:(if bigA n g l4.length l5.length l6.length then (9:Int) else if ((((l2.any (outB n) || l3.any (outB n)) || l4.any (badO l0 n g)) || l5.any (badC l0 n g)) || l6.any (badI l0 n))=true then 9 else 0)=0) (hsF:sF=trimF (initS n g l2) l4 l5 l6) :
 Calls Tryz.prog 18 #[.slice A0 l0.length c0,.agg #[.int .i64 n,.int .i64 g,.slice A2 l2.length c2,.slice A3 l3.length c3,.slice A4 l4.length c4,.slice A5 l5.length c5,.slice A6 l6.length c6]] w fun e w'=>∃v2 v3 v4 v5 v6:Value,e=.returned (.agg #[.int .i64 (numR sF.st 0).2,.int .i64 (wrap64 ((numR sF.mr 1).2 - 1)),v2,v3,v4,v5,v6])∧Kd.V (Kd.int .i64) 3 w' w.heap.size (fun k_=>w.heap.size≤k_) v2 (onceC cmpInt (l2.map (rdI (numR sF.st 0).1)))∧Kd.V (Kd.int .i64) 3 w' w.heap.size (fun k_=>w.heap.size≤k_) v3 (onceC cmpInt ((l3.filter (rdB sF.st)).map (rdI (numR sF.st 0).1)))∧Kd.V k36 36 w' w.heap.size (fun k_=>w.heap.size≤k_) v4 (onceC cmpOpen (trimO sF.st (numR sF.st 0).1 (numR sF.mr 1).1 l4))∧Kd.V k38 38 w' w.heap.size (fun k_=>w.heap.size≤k_) v5 (onceC cmpClose (trimC sF.st sF.mr (numR sF.st 0).1 (numR sF.mr 1).1 l5))∧Kd.V k40 40 w' w.heap.size (fun k_=>w.heap.size≤k_) v6 (onceC cmpInner (trimI sF.st (numR sF.st 0).1 l6))∧Below w.heap.size w w':=by
 have HOK:=Aside0.mk (ok_of_check hck)
 have HCK:=Aside0.mk hck
 have HSF:=Aside0.mk hsF
 have HI0:=Aside0.mk (And.intro h0 (And.intro hc0 hl0))
 have HI2:=Aside0.mk (And.intro h2 (And.intro hc2 hl2))
 have m2:(l2.length:Int)≤1000000000:=by omega
 have HI3:=Aside0.mk (And.intro h3 (And.intro hc3 hl3))
 have m3:(l3.length:Int)≤1000000000:=by omega
 have HI4:=Aside0.mk (And.intro h4 (And.intro hc4 hl4))
 have m4:(l4.length:Int)≤1000000000:=by omega
 have HI5:=Aside0.mk (And.intro h5 (And.intro hc5 hl5))
 have m5:(l5.length:Int)≤1000000000:=by omega
 have HI6:=Aside0.mk (And.intro h6 (And.intro hc6 hl6))
 have m6:(l6.length:Int)≤1000000000:=by omega
 clear hck hsF h0 hc0 hl0 h2 hc2 hl2 h3 hc3 hl3 h4 hc4 hl4 h5 hc5 hl5 h6 hc6 hl6
 have HA:Aside0 (((w.alloc (.cells #[.int .i64 n,.int .i64 g,.slice A2 l2.length c2,.slice A3 l3.length c3,.slice A4 l4.length c4,.slice A5 l5.length c5,.slice A6 l6.length c6] 30)).alloc (.cells #[.int .i64 0,.int .i64 0,.slice none 0 0,.slice none 0 0,.slice none 0 0,.slice none 0 0,.slice none 0 0] 30)).heap[w.heap.size]? = some (.cells #[.int .i64 n,.int .i64 g,.slice A2 l2.length c2,.slice A3 l3.length c3,.slice A4 l4.length c4,.slice A5 l5.length c5,.slice A6 l6.length c6] 30 (0,0))):=⟨blk_old (blk_newAt _ rfl) _⟩
 have HZ:Aside0 (((w.alloc (.cells #[.int .i64 n,.int .i64 g,.slice A2 l2.length c2,.slice A3 l3.length c3,.slice A4 l4.length c4,.slice A5 l5.length c5,.slice A6 l6.length c6] 30)).alloc (.cells #[.int .i64 0,.int .i64 0,.slice none 0 0,.slice none 0 0,.slice none 0 0,.slice none 0 0,.slice none 0 0] 30)).heap[w.heap.size+1]? = some (.cells #[.int .i64 0,.int .i64 0,.slice none 0 0,.slice none 0 0,.slice none 0 0,.slice none 0 0,.slice none 0 0] 30 (0,0))):=⟨blk_newAt _ (size_alloc _ _).symm⟩
 have HB:Aside0 (Below w.heap.size w ((w.alloc (.cells #[.int .i64 n,.int .i64 g,.slice A2 l2.length c2,.slice A3 l3.length c3,.slice A4 l4.length c4,.slice A5 l5.length c5,.slice A6 l6.length c6] 30)).alloc (.cells #[.int .i64 0,.int .i64 0,.slice none 0 0,.slice none 0 0,.slice none 0 0,.slice none 0 0,.slice none 0 0] 30))):=⟨below_alloc (below_alloc (Below.refl _ _) _) _⟩
 go_enter Tryz.func18,Tryz.ntmps18
 go_upto_region 1 with (fail)
 generalize ((w.alloc (.cells #[.int .i64 n,.int .i64 g,.slice A2 l2.length c2,.slice A3 l3.length c3,.slice A4 l4.length c4,.slice A5 l5.length c5,.slice A6 l6.length c6] 30)).alloc (.cells #[.int .i64 0,.int .i64 0,.slice none 0 0,.slice none 0 0,.slice none 0 0,.slice none 0 0,.slice none 0 0] 30))=wb at HA HZ HB ⊢
 obtain⟨ga,hga⟩:∃ga,ga=w.heap.size:=⟨_,rfl⟩
 obtain⟨gr,hgr⟩:∃gr,gr=w.heap.size+1:=⟨_,rfl⟩
 rw [←hgr] at HZ ⊢
 have HGA:Aside0 (w.heap.size≤ga∧w.heap.size≤gr∧ga≠gr):=⟨by omega⟩
 rw [show wb.heap[w.heap.size]? = wb.heap[ga]? by rw [hga]] at HA
 rw [←hga]
 clear hga hgr
 have b0:=(blk_cell HA.out 0).trans (show (#[.int .i64 n,.int .i64 g,.slice A2 l2.length c2,.slice A3 l3.length c3,.slice A4 l4.length c4,.slice A5 l5.length c5,.slice A6 l6.length c6]:Array Value)[0]? = some (.int .i64 n) from rfl)
 have b1:=(blk_cell HA.out 1).trans (show (#[.int .i64 n,.int .i64 g,.slice A2 l2.length c2,.slice A3 l3.length c3,.slice A4 l4.length c4,.slice A5 l5.length c5,.slice A6 l6.length c6]:Array Value)[1]? = some (.int .i64 g) from rfl)
 have b2:=(blk_cell HA.out 2).trans (show (#[.int .i64 n,.int .i64 g,.slice A2 l2.length c2,.slice A3 l3.length c3,.slice A4 l4.length c4,.slice A5 l5.length c5,.slice A6 l6.length c6]:Array Value)[2]? = some (.slice A2 l2.length c2) from rfl)
 have b3:=(blk_cell HA.out 3).trans (show (#[.int .i64 n,.int .i64 g,.slice A2 l2.length c2,.slice A3 l3.length c3,.slice A4 l4.length c4,.slice A5 l5.length c5,.slice A6 l6.length c6]:Array Value)[3]? = some (.slice A3 l3.length c3) from rfl)
 have b4:=(blk_cell HA.out 4).trans (show (#[.int .i64 n,.int .i64 g,.slice A2 l2.length c2,.slice A3 l3.length c3,.slice A4 l4.length c4,.slice A5 l5.length c5,.slice A6 l6.length c6]:Array Value)[4]? = some (.slice A4 l4.length c4) from rfl)
 have b5:=(blk_cell HA.out 5).trans (show (#[.int .i64 n,.int .i64 g,.slice A2 l2.length c2,.slice A3 l3.length c3,.slice A4 l4.length c4,.slice A5 l5.length c5,.slice A6 l6.length c6]:Array Value)[5]? = some (.slice A5 l5.length c5) from rfl)
 have b6:=(blk_cell HA.out 6).trans (show (#[.int .i64 n,.int .i64 g,.slice A2 l2.length c2,.slice A3 l3.length c3,.slice A4 l4.length c4,.slice A5 l5.length c5,.slice A6 l6.length c6]:Array Value)[6]? = some (.slice A6 l6.length c6) from rfl)
 go_wp2_with fail
 refine(check_own A0 c0 l0 n g A2 c2 l2 A3 c3 l3 A4 c4 l4 A5 c5 l5 A6 c6 l6 _ (Kd.C_below HI0.out.1 HB.out) HI0.out.2.1 HI0.out.2.2 (Kd.C_below HI2.out.1 HB.out) HI2.out.2.1 HI2.out.2.2 (Kd.C_below HI3.out.1 HB.out) HI3.out.2.1 HI3.out.2.2 (Kd.C_below HI4.out.1 HB.out) HI4.out.2.1 HI4.out.2.2 (Kd.C_below HI5.out.1 HB.out) HI5.out.2.1 HI5.out.2.2 (Kd.C_below HI6.out.1 HB.out) HI6.out.2.1 HI6.out.2.2).mono ?_
 rintro e w1 ⟨rfl,hb1⟩
 rw [HCK.out]
 have HAn:=Aside0.mk (blk_below HA.out hb1)
 have HZn:=Aside0.mk (blk_below HZ.out hb1)
 have HBn:=Aside0.mk (below_then HB.out HB.out.size hb1)
 clear HA HZ HB hb1 b0 b1 b2 b3 b4 b5 b6
 have HA:=HAn
 have HZ:=HZn
 have HB:=HBn
 clear HAn HZn HBn
 go_upto_region 3 with (fail)
 refine start_ (n:=10) (S:=fun w'=>w'.cell? ⟨ga,0,none⟩=some (.int .i64 n)∧w'.cell? ⟨ga,1,none⟩=some (.int .i64 g)) (ds:=[8]) (pm 0 10) (by kernel_rfl) rfl rfl ⟨(blk_cell (blk_drew HA.out) 0).trans rfl,(blk_cell (blk_drew HA.out) 1).trans rfl⟩ (fun hHeld=>?_)
 have HAn:=Aside0.mk (blk_drew HA.out)
 have HZn:=Aside0.mk (blk_drew HZ.out)
 have HBn:=Aside0.mk (below_drew HB.out)
 clear HA HZ HB
 have HA:=HAn
 have HZ:=HZn
 have HB:=HBn
 clear HAn HZn HBn
 generalize w1.drew=wd at HA HZ HB hHeld ⊢
 iterate 2 (first|(refine pn_ (v:=?_) (a':=?_) rfl (rfl (a:=some _)) (by kernel_rfl) (fun _ _ _ h=>h) (Or.inl ⟨by rfl,?_⟩) ?_ ?_;rotate_left;(intro w';go_simp;with_reducible rfl);rotate_left;(simp only [Act.put,List.setIfInBounds_toArray,List.set_cons_zero,List.set_cons_succ,i64_w,i32_w];rfl))|(refine tn_ (v:=?_) (a':=?_) rfl (rfl (a:=some _)) (by kernel_rfl) (fun _ _ _ h=>h) (Or.inl ⟨by rfl,?_⟩) hHeld ?_ ?_;rotate_left;(intro w' hS_;obtain⟨s0,s1⟩:=hS_;go_simp;with_reducible rfl);rotate_left;(simp only [Act.put,List.setIfInBounds_toArray,List.set_cons_zero,List.set_cons_succ,i64_w,i32_w];rfl)))
 refine po_ 3 (v:=?_) (a':=?_) rfl (rfl (a:=some _)) (by kernel_rfl) (fun _ _ _ h=>h) (Or.inl ⟨by rfl,?_⟩) ?_ ?_;rotate_left;(intro w';go_simp;with_reducible rfl);rotate_left;(simp only [Act.put,List.setIfInBounds_toArray,List.set_cons_zero,List.set_cons_succ,i64_w,i32_w];rfl)
 refine to_ 4 (v:=?_) (a':=?_) rfl (rfl (a:=some _)) (by kernel_rfl) (fun _ _ _ h=>h) (Or.inl ⟨by rfl,?_⟩) hHeld ?_ ?_;rotate_left;(intro w' hS_;obtain⟨s0,s1⟩:=hS_;go_simp;with_reducible rfl);rotate_left;(simp only [Act.put,List.setIfInBounds_toArray,List.set_cons_zero,List.set_cons_succ,i64_w,i32_w];rfl)
 refine po_ 5 (v:=?_) (a':=?_) rfl (rfl (a:=some _)) (by kernel_rfl) (fun _ _ _ h=>h) (Or.inl ⟨by rfl,?_⟩) ?_ ?_;rotate_left;(intro w';go_simp;with_reducible rfl);rotate_left;(simp only [Act.put,List.setIfInBounds_toArray,List.set_cons_zero,List.set_cons_succ,i64_w,i32_w];rfl)
 have HG1:Aside0 ((wrap64 (g+1))=g+1):=⟨by have:=HOK.out.g0;have:=HOK.out.g1;unfold wrap64;omega⟩
 refine join_ (σ:=Value × Value) 3 #[true,true,true,true,true,true,true,false,false,false] (fun s_=>[(30,s_.1),(34,s_.2)]) (fun s_ w'=>Two w wd w' ga gr (.cells #[.int .i64 n,.int .i64 g,.slice A2 l2.length c2,.slice A3 l3.length c3,.slice A4 l4.length c4,.slice A5 l5.length c5,.slice A6 l6.length c6] 30 (0,0)) (.cells #[.int .i64 0,.int .i64 0,.slice none 0 0,.slice none 0 0,.slice none 0 0,.slice none 0 0,.slice none 0 0] 30 (0,0)) s_.1 s_.2 n.toNat (g+1).toNat) ?_ ?_
 rotate_left
 ·intro hCont
  have hCX:=Aside0.mk hCont
  clear hCont
  refine two_ (i:=2) (j:=6) (Ni:=some 30) (Nj:=some 34) #[true,true,true,true,true,true,false,false,false,false] #[true,true,false,true,true,true,true,false,false,false] rfl rfl rfl rfl (by kernel_rfl) (by decide) (by decide) (fun K hK=>?_) (fun K hK=>?_)
  ·skip
   refine Kd.R_make_step Kd.bool w.heap.size 4 (w0:=w) rfl (N:=30) rfl 56 (.tmp 29) (.tmp 29) rfl n rfl rfl Tryz.underlying56 (.bool false) 1 infoBool rfl (by decide) (by decide) false (ok:=fun _=>True) (okp:=fun _=>True) rfl (fun _ hk=>hk) trivial (by have:=HOK.out.n0;have:=HOK.out.g0;have:=HG1.out;omega) (by have:=HOK.out.n1;have:=HOK.out.g1;have:=HG1.out;omega) HB.out HB.out.size ?_
   intro va wa hra hba hga hat
   obtain⟨x,hx,hxl⟩:=hat
   have HRa:=Aside0.mk (Kd.R_tight rfl hra)
   have HBa:=Aside0.mk hba
   have HAa:=Aside0.mk (blk_grown HA.out hga nen)
   have HZa:=Aside0.mk (blk_grown HZ.out hga nen)
   have HXa:=Aside0.mk (And.intro hx (Kd.R_lt hra x hx))
   clear hra hba hga hx hxl
   refine hK.out _ _ ⟨(blk_cell HAa.out 0).trans rfl,(blk_cell HAa.out 1).trans rfl⟩ (fun hHeld=>?_)
   clear hK K
   refine norm_ (a':=?_) ?_ ?_
   rotate_left
   ·show Act.put _ (some 30) _ = _
    simp only [Act.put,List.setIfInBounds_toArray,List.set_cons_zero,List.set_cons_succ,i64_w,i32_w]
    rfl
   refine one_ (i:=6) (N:=(some 34)) #[true,true,true,true,true,true,true,false,false,false] rfl rfl (by kernel_rfl) (by decide) (fun K hK=>?_)
   refine Kd.R_make_step Kd.bool w.heap.size 4 (w0:=w) rfl (N:=34) rfl 56 (.tmp 33) (.tmp 33) rfl (wrap64 (g+1)) rfl rfl Tryz.underlying56 (.bool false) 1 infoBool rfl (by decide) (by decide) false (ok:=fun _=>True) (okp:=fun _=>True) rfl (fun _ hk=>hk) trivial (by have:=HOK.out.n0;have:=HOK.out.g0;have:=HG1.out;omega) (by have:=HOK.out.n1;have:=HOK.out.g1;have:=HG1.out;omega) HBa.out HBa.out.size ?_
   intro vb wb2 hrb hbb hgb hat
   obtain⟨y,hy,hyl⟩:=hat
   have HXY:Aside0 (x≠y):=⟨by have:=HXa.out.2;omega⟩
   have HRb:=Aside0.mk (Kd.R_tight rfl hrb)
   have HRa2:=Aside0.mk (Kd.R_grown HRa.out hgb (fun k hk e=>nen e))
   have HAb:=Aside0.mk (blk_grown HAa.out hgb nen)
   have HZb:=Aside0.mk (blk_grown HZa.out hgb nen)
   have HBb:=Aside0.mk hbb
   have HYb:=Aside0.mk hy
   clear hrb hbb hgb hy hyl
   refine hK.out _ _ ⟨(blk_cell HAb.out 0).trans rfl,(blk_cell HAb.out 1).trans rfl⟩ (fun hHeld=>?_)
   clear hK K
   refine norm_ (a':=?_) ?_ ?_
   rotate_left
   ·show Act.put _ (some 34) _ = _
    simp only [Act.put,List.setIfInBounds_toArray,List.set_cons_zero,List.set_cons_succ,i64_w,i32_w]
    rfl
   exact norm_ (by simp only [putAll,Act.put,List.setIfInBounds_toArray,List.set_cons_zero,List.set_cons_succ]) (hCX.out (va,vb) _ ⟨HBb.out,HAb.out,HZb.out,HRa2.out,by have h:=HRb.out;rw [HG1.out] at h;exact h,x,y,HXa.out.1,HYb.out,HXY.out⟩)
  ·skip
   refine Kd.R_make_step Kd.bool w.heap.size 4 (w0:=w) rfl (N:=34) rfl 56 (.tmp 33) (.tmp 33) rfl (wrap64 (g+1)) rfl rfl Tryz.underlying56 (.bool false) 1 infoBool rfl (by decide) (by decide) false (ok:=fun _=>True) (okp:=fun _=>True) rfl (fun _ hk=>hk) trivial (by have:=HOK.out.n0;have:=HOK.out.g0;have:=HG1.out;omega) (by have:=HOK.out.n1;have:=HOK.out.g1;have:=HG1.out;omega) HB.out HB.out.size ?_
   intro va wa hra hba hga hat
   obtain⟨x,hx,hxl⟩:=hat
   have HRa:=Aside0.mk (Kd.R_tight rfl hra)
   have HBa:=Aside0.mk hba
   have HAa:=Aside0.mk (blk_grown HA.out hga nen)
   have HZa:=Aside0.mk (blk_grown HZ.out hga nen)
   have HXa:=Aside0.mk (And.intro hx (Kd.R_lt hra x hx))
   clear hra hba hga hx hxl
   refine hK.out _ _ ⟨(blk_cell HAa.out 0).trans rfl,(blk_cell HAa.out 1).trans rfl⟩ (fun hHeld=>?_)
   clear hK K
   refine norm_ (a':=?_) ?_ ?_
   rotate_left
   ·show Act.put _ (some 34) _ = _
    simp only [Act.put,List.setIfInBounds_toArray,List.set_cons_zero,List.set_cons_succ,i64_w,i32_w]
    rfl
   refine one_ (i:=2) (N:=(some 30)) #[true,true,true,true,true,true,true,false,false,false] rfl rfl (by kernel_rfl) (by decide) (fun K hK=>?_)
   refine Kd.R_make_step Kd.bool w.heap.size 4 (w0:=w) rfl (N:=30) rfl 56 (.tmp 29) (.tmp 29) rfl n rfl rfl Tryz.underlying56 (.bool false) 1 infoBool rfl (by decide) (by decide) false (ok:=fun _=>True) (okp:=fun _=>True) rfl (fun _ hk=>hk) trivial (by have:=HOK.out.n0;have:=HOK.out.g0;have:=HG1.out;omega) (by have:=HOK.out.n1;have:=HOK.out.g1;have:=HG1.out;omega) HBa.out HBa.out.size ?_
   intro vb wb2 hrb hbb hgb hat
   obtain⟨y,hy,hyl⟩:=hat
   have HXY:Aside0 (x≠y):=⟨by have:=HXa.out.2;omega⟩
   have HRb:=Aside0.mk (Kd.R_tight rfl hrb)
   have HRa2:=Aside0.mk (Kd.R_grown HRa.out hgb (fun k hk e=>nen e))
   have HAb:=Aside0.mk (blk_grown HAa.out hgb nen)
   have HZb:=Aside0.mk (blk_grown HZa.out hgb nen)
   have HBb:=Aside0.mk hbb
   have HYb:=Aside0.mk hy
   clear hrb hbb hgb hy hyl
   refine hK.out _ _ ⟨(blk_cell HAb.out 0).trans rfl,(blk_cell HAb.out 1).trans rfl⟩ (fun hHeld=>?_)
   clear hK K
   refine norm_ (a':=?_) ?_ ?_
   rotate_left
   ·show Act.put _ (some 30) _ = _
    simp only [Act.put,List.setIfInBounds_toArray,List.set_cons_zero,List.set_cons_succ,i64_w,i32_w]
    rfl
   exact norm_ (by simp only [putAll,Act.put,List.setIfInBounds_toArray,List.set_cons_zero,List.set_cons_succ]) (hCX.out (vb,va) _ ⟨HBb.out,HAb.out,HZb.out,HRb.out,by have h:=HRa2.out;rw [HG1.out] at h;exact h,y,x,HYb.out,HXa.out.1,Ne.symm HXY.out⟩)
 rintro⟨vs,vm⟩ w3 ⟨hb3,ha3,hz3,hs3,hm3,bs,bm,hbs,hbm,hne⟩
 obtain⟨ns,hns⟩:∃ns,ns=n.toNat:=⟨_,rfl⟩
 obtain⟨nm,hnm⟩:∃nm,nm=(g+1).toNat:=⟨_,rfl⟩
 rw [←hns] at hs3
 rw [←hnm] at hm3
 obtain⟨cs,rfl⟩:=row_form hs3 List.length_replicate hbs
 obtain⟨cm,rfl⟩:=row_form hm3 List.length_replicate hbm
 have HS3:Aside0 (Kd.R Kd.bool 4 w3 w.heap.size (fun k=>some k=(Value.slice (some ⟨bs,0,none⟩) ns cs).ownBlock) (Value.slice (some ⟨bs,0,none⟩) ns cs) (List.replicate ns false)):=⟨hs3⟩
 have HM3:Aside0 (Kd.R Kd.bool 4 w3 w.heap.size (fun k=>some k=(Value.slice (some ⟨bm,0,none⟩) nm cm).ownBlock) (Value.slice (some ⟨bm,0,none⟩) nm cm) (List.replicate nm false)):=⟨hm3⟩
 have HA3:=Aside0.mk ha3
 have HZ3:=Aside0.mk hz3
 have HB3:=Aside0.mk hb3
 have HNE:=Aside0.mk hne
 have HNS:=Aside0.mk (And.intro hns hnm)
 clear hb3 ha3 hz3 hs3 hm3 hbs hbm hne hns hnm HA HZ HB
 refine norm_ (a':=?_) ?_ ?_
 rotate_left
 ·simp only [putAll, Act.put, List.setIfInBounds_toArray, List.set_cons_zero, List.set_cons_succ, i64_w, i32_w]
  rfl
 refine re_ (pm 7 3) (by kernel_rfl) ?_
 refine pn_ (v:=?_) (a':=?_) rfl (rfl (a:=some _)) (by kernel_rfl) (fun _ _ _ h=>h) (Or.inl ⟨by rfl,?_⟩) ?_ ?_;rotate_left;(intro w';go_simp;with_reducible rfl);rotate_left;(simp only [Act.put,List.setIfInBounds_toArray,List.set_cons_zero,List.set_cons_succ,i64_w,i32_w];rfl)
 refine last_ (i:=8) (N:=(some 36)) (pm 9 1) rfl rfl (by kernel_rfl) (by decide) (fun K hK=>?_)
 refine step_run (v:=.pointer (some ⟨w3.heap.size,0,none⟩)) (w1:=w3.alloc (.cells #[(Value.slice (some ⟨bs,0,none⟩) ns cs),(Value.slice (some ⟨bm,0,none⟩) nm cm),.bool true] 64)) rfl (by go_simp) ?_
 have HE:Aside0 (RE w (w3.alloc (.cells #[(Value.slice (some ⟨bs,0,none⟩) ns cs),(Value.slice (some ⟨bm,0,none⟩) nm cm),.bool true] 64)) w w3.heap.size (Value.slice (some ⟨bs,0,none⟩) ns cs) (Value.slice (some ⟨bm,0,none⟩) nm cm) (List.replicate ns false) (List.replicate nm false) true ga (.cells #[.int .i64 n,.int .i64 g,.slice A2 l2.length c2,.slice A3 l3.length c3,.slice A4 l4.length c4,.slice A5 l5.length c5,.slice A6 l6.length c6] 30 (0,0)) gr (.cells #[.int .i64 0,.int .i64 0,.slice none 0 0,.slice none 0 0,.slice none 0 0,.slice none 0 0,.slice none 0 0] 30 (0,0))):=⟨⟨⟨below_alloc HB3.out _,HB3.out.size,blk_newAt _ rfl,Kd.R_alloc HS3.out _,Kd.R_alloc HM3.out _,fun k h1 h2=>HNE.out (Option.some.inj (h1.symm.trans h2))⟩,Fr.of_below (below_alloc HB3.out _),blk_old HA3.out _,blk_old HZ3.out _,?na,?nx⟩⟩
 case na => rintro (e | e | e)
            ·have:=blk_lt HA3.out;omega
            ·exact Kd.R_ne HS3.out HA3.out (by decide) e
            ·exact Kd.R_ne HM3.out HA3.out (by decide) e
 case nx => rintro (e | e | e)
            ·have:=blk_lt HZ3.out;omega
            ·exact Kd.R_ne HS3.out HZ3.out (by decide) e
            ·exact Kd.R_ne HM3.out HZ3.out (by decide) e
 refine hK.out _ _ ?_
 clear hK K
 generalize w3.alloc (.cells #[(Value.slice (some ⟨bs,0,none⟩) ns cs),(Value.slice (some ⟨bm,0,none⟩) nm cm),.bool true] 64)=wq at HE ⊢
 generalize w3.heap.size=gt at HE ⊢
 clear HA3 HZ3 HB3 HS3 HM3
 refine norm_ (a':=?_) ?_ ?_
 rotate_left
 ·show Act.put _ (some 36) _ = _
  simp only [Act.put,List.setIfInBounds_toArray,List.set_cons_zero,List.set_cons_succ,i64_w,i32_w]
  rfl
 refine pn_ (v:=?_) (a':=?_) rfl (rfl (a:=some _)) (by kernel_rfl) (fun _ _ _ h=>h) (Or.inl ⟨by rfl,?_⟩) ?_ ?_;rotate_left;(intro w';go_simp;with_reducible rfl);rotate_left;(simp only [Act.put,List.setIfInBounds_toArray,List.set_cons_zero,List.set_cons_succ,i64_w,i32_w];rfl)
 refine done_ (by kernel_rfl) ?_
 clear hHeld
 have b0:=(blk_cell HE.out.A 0).trans (show (#[.int .i64 n,.int .i64 g,.slice A2 l2.length c2,.slice A3 l3.length c3,.slice A4 l4.length c4,.slice A5 l5.length c5,.slice A6 l6.length c6]:Array Value)[0]? = some (.int .i64 n) from rfl)
 have b1:=(blk_cell HE.out.A 1).trans (show (#[.int .i64 n,.int .i64 g,.slice A2 l2.length c2,.slice A3 l3.length c3,.slice A4 l4.length c4,.slice A5 l5.length c5,.slice A6 l6.length c6]:Array Value)[1]? = some (.int .i64 g) from rfl)
 have b2:=(blk_cell HE.out.A 2).trans (show (#[.int .i64 n,.int .i64 g,.slice A2 l2.length c2,.slice A3 l3.length c3,.slice A4 l4.length c4,.slice A5 l5.length c5,.slice A6 l6.length c6]:Array Value)[2]? = some (.slice A2 l2.length c2) from rfl)
 have b3:=(blk_cell HE.out.A 3).trans (show (#[.int .i64 n,.int .i64 g,.slice A2 l2.length c2,.slice A3 l3.length c3,.slice A4 l4.length c4,.slice A5 l5.length c5,.slice A6 l6.length c6]:Array Value)[3]? = some (.slice A3 l3.length c3) from rfl)
 have b4:=(blk_cell HE.out.A 4).trans (show (#[.int .i64 n,.int .i64 g,.slice A2 l2.length c2,.slice A3 l3.length c3,.slice A4 l4.length c4,.slice A5 l5.length c5,.slice A6 l6.length c6]:Array Value)[4]? = some (.slice A4 l4.length c4) from rfl)
 have b5:=(blk_cell HE.out.A 5).trans (show (#[.int .i64 n,.int .i64 g,.slice A2 l2.length c2,.slice A3 l3.length c3,.slice A4 l4.length c4,.slice A5 l5.length c5,.slice A6 l6.length c6]:Array Value)[5]? = some (.slice A5 l5.length c5) from rfl)
 have b6:=(blk_cell HE.out.A 6).trans (show (#[.int .i64 n,.int .i64 g,.slice A2 l2.length c2,.slice A3 l3.length c3,.slice A4 l4.length c4,.slice A5 l5.length c5,.slice A6 l6.length c6]:Array Value)[6]? = some (.slice A6 l6.length c6) from rfl)
 go_wp2
 clear b0 b1 b2 b3 b4 b5 b6
 go_loopg [40] l2.length (fun gk v40 w'=>∃i:Nat,v40=.int .i64 (i:Int)∧Aside0 (i≤l2.length∧l2.length - i≤gk)∧Aside0 (RE w w' w gt (Value.slice (some ⟨bs,0,none⟩) ns cs) (Value.slice (some ⟨bm,0,none⟩) nm cm) ((l2.take i).foldl (fun l k=>l.set k.toNat true) (List.replicate ns false)) (List.replicate nm false) true ga (.cells #[.int .i64 n,.int .i64 g,.slice A2 l2.length c2,.slice A3 l3.length c3,.slice A4 l4.length c4,.slice A5 l5.length c5,.slice A6 l6.length c6] 30 (0,0)) gr (.cells #[.int .i64 0,.int .i64 0,.slice none 0 0,.slice none 0 0,.slice none 0 0,.slice none 0 0,.slice none 0 0] 30 (0,0))))
 case atStart=>exact⟨0,rfl,⟨by omega,by omega⟩,HE⟩
 case round=>
  clear HE
  obtain⟨i,rfl,Hi,HE⟩:=hrel
  clear wq
  obtain⟨wq,rfl⟩:∃wq:World,wq=wr:=⟨_,rfl⟩
  by_cases hlt:i < l2.length
  ·have HLT := Aside0.mk hlt
   obtain⟨ad,eA,cx⟩:=int_at (Kd.C_below HI2.out.1 HE.out.T.below) i hlt
   have HN:Aside0 (((l2.take (i+1)).foldl (fun l k=>l.set k.toNat true) (List.replicate ns false))=(((l2.take i).foldl (fun l k=>l.set k.toNat true) (List.replicate ns false))).set (l2[i]).toNat true):=⟨foldl_next _ _ l2 i hlt⟩
   have HIN:=HOK.out.i l2[i] (List.getElem_mem hlt)
   generalize l2[i]=x at cx HN HIN
   generalize ((l2.take i).foldl (fun l k=>l.set k.toNat true) (List.replicate ns false))=st at HN HE
   have t1:=eq_true hlt
   have t2:=eq_true (show (0:Int)≤(i:Int) by omega)
   have t3:=eq_true (show (i:Int) < (l2.length:Int) by omega)
   have hxn:x < (ns:Int):=by have:=HNS.out.1;have:=HOK.out.n0;omega
   have t4:=eq_true HIN.1
   have t5:=eq_true hxn
   obtain⟨y1,y2⟩:=Kd.R_celln false HE.out.T.s x HIN.1 hxn
   have y0:=(blk_cell HE.out.T.t 0).trans (show (#[(Value.slice (some ⟨bs,0,none⟩) ns cs),(Value.slice (some ⟨bm,0,none⟩) nm cm),.bool true]:Array Value)[0]? = some (Value.slice (some ⟨bs,0,none⟩) ns cs) from rfl)
   subst eA
   clear hlt HIN hxn
   go_wp2
   go_roundg (l2.length - (i+1))
   case measure=>have:=Hi.out;have:=HLT.out;omega
   case rel=>exact⟨i+1,by first|rfl|rw [show wrap64 ((i:Int)+1)=((i+1:Nat):Int) by have:=HLT.out;have:=HI2.out.2;unfold wrap64;omega],⟨HLT.out,Nat.le_refl _⟩,⟨by rw [HN.out];exact HE.out.putS x⟩⟩
  ·have e4 : l2.take i = l2 := List.take_of_length_le (by omega)
   rw [e4] at HE
   have t1:=eq_false hlt
   clear hlt e4 Hi
   obtain⟨s,hs⟩:∃s:TS,s=initS n g l2:=⟨_,rfl⟩
   have HS:Aside0 (trimF s l4 l5 l6=sF):=⟨by rw [HSF.out,hs]⟩
   have HE1:Aside0 (RE w wq w gt (Value.slice (some ⟨bs,0,none⟩) ns cs) (Value.slice (some ⟨bm,0,none⟩) nm cm) s.st s.mr s.gr ga (.cells #[.int .i64 n,.int .i64 g,.slice A2 l2.length c2,.slice A3 l3.length c3,.slice A4 l4.length c4,.slice A5 l5.length c5,.slice A6 l6.length c6] 30 (0,0)) gr (.cells #[.int .i64 0,.int .i64 0,.slice none 0 0,.slice none 0 0,.slice none 0 0,.slice none 0 0,.slice none 0 0] 30 (0,0))):=⟨by rw [hs];unfold initS;rw [←HNS.out.1,←HNS.out.2];exact HE.out⟩
   clear hs HE
   have y2:=(blk_cell HE1.out.T.t 2).trans (show (#[(Value.slice (some ⟨bs,0,none⟩) ns cs),(Value.slice (some ⟨bm,0,none⟩) nm cm),.bool s.gr]:Array Value)[2]? = some (.bool s.gr) from rfl)
   go_wp2
   clear y2 t1
   skip
   go_loopg [] (meas s) (fun gk w'=>∃s1:TS,Aside0 (meas s1≤gk)∧Aside0 (trimF s1 l4 l5 l6=sF)∧Aside0 (RE w w' w gt (Value.slice (some ⟨bs,0,none⟩) ns cs) (Value.slice (some ⟨bm,0,none⟩) nm cm) s1.st s1.mr s1.gr ga (.cells #[.int .i64 n,.int .i64 g,.slice A2 l2.length c2,.slice A3 l3.length c3,.slice A4 l4.length c4,.slice A5 l5.length c5,.slice A6 l6.length c6] 30 (0,0)) gr (.cells #[.int .i64 0,.int .i64 0,.slice none 0 0,.slice none 0 0,.slice none 0 0,.slice none 0 0,.slice none 0 0] 30 (0,0))))
   case atStart=>exact⟨s,⟨Nat.le_refl _⟩,HS,HE1⟩
   case round=>
    clear HE1 HS
    obtain⟨s1,Hm,HS,HE⟩:=hrel
    clear wq
    obtain⟨wq,rfl⟩:∃wq:World,wq=wr:=⟨_,rfl⟩
    obtain⟨st,mk,gv⟩:=s1
    have HE1:Aside0 (RE w wq w gt (Value.slice (some ⟨bs,0,none⟩) ns cs) (Value.slice (some ⟨bm,0,none⟩) nm cm) st mk gv ga (.cells #[.int .i64 n,.int .i64 g,.slice A2 l2.length c2,.slice A3 l3.length c3,.slice A4 l4.length c4,.slice A5 l5.length c5,.slice A6 l6.length c6] 30 (0,0)) gr (.cells #[.int .i64 0,.int .i64 0,.slice none 0 0,.slice none 0 0,.slice none 0 0,.slice none 0 0,.slice none 0 0] 30 (0,0))):=HE
    clear HE
    have HE:=HE1
    clear HE1
    cases gv with
    | true=>
     have y2:=(blk_cell HE.out.T.t 2).trans (show (#[(Value.slice (some ⟨bs,0,none⟩) ns cs),(Value.slice (some ⟨bm,0,none⟩) nm cm),.bool true]:Array Value)[2]? = some (.bool true) from rfl)
     have f2:=blk_frozen HE.out.T.t 2
     go_upto_region 11 with (fail)
     clear y2 f2
     have HE1:=Aside0.mk (HE.out.setG false)
     clear HE
     have HE:=HE1
     clear HE1
     obtain⟨wv,hwv⟩:∃wv:World,wv=wq.setCell ⟨gt,2,none⟩ (.bool false):=⟨_,rfl⟩
     rw [←hwv] at HE ⊢
     clear hwv
     clear wq
     obtain⟨wq,rfl⟩:∃wq:World,wq=wv:=⟨_,rfl⟩
     have b0:=(blk_cell HE.out.A 0).trans (show (#[.int .i64 n,.int .i64 g,.slice A2 l2.length c2,.slice A3 l3.length c3,.slice A4 l4.length c4,.slice A5 l5.length c5,.slice A6 l6.length c6]:Array Value)[0]? = some (.int .i64 n) from rfl)
     have b1:=(blk_cell HE.out.A 1).trans (show (#[.int .i64 n,.int .i64 g,.slice A2 l2.length c2,.slice A3 l3.length c3,.slice A4 l4.length c4,.slice A5 l5.length c5,.slice A6 l6.length c6]:Array Value)[1]? = some (.int .i64 g) from rfl)
     have b2:=(blk_cell HE.out.A 2).trans (show (#[.int .i64 n,.int .i64 g,.slice A2 l2.length c2,.slice A3 l3.length c3,.slice A4 l4.length c4,.slice A5 l5.length c5,.slice A6 l6.length c6]:Array Value)[2]? = some (.slice A2 l2.length c2) from rfl)
     have b3:=(blk_cell HE.out.A 3).trans (show (#[.int .i64 n,.int .i64 g,.slice A2 l2.length c2,.slice A3 l3.length c3,.slice A4 l4.length c4,.slice A5 l5.length c5,.slice A6 l6.length c6]:Array Value)[3]? = some (.slice A3 l3.length c3) from rfl)
     have b4:=(blk_cell HE.out.A 4).trans (show (#[.int .i64 n,.int .i64 g,.slice A2 l2.length c2,.slice A3 l3.length c3,.slice A4 l4.length c4,.slice A5 l5.length c5,.slice A6 l6.length c6]:Array Value)[4]? = some (.slice A4 l4.length c4) from rfl)
     have b5:=(blk_cell HE.out.A 5).trans (show (#[.int .i64 n,.int .i64 g,.slice A2 l2.length c2,.slice A3 l3.length c3,.slice A4 l4.length c4,.slice A5 l5.length c5,.slice A6 l6.length c6]:Array Value)[5]? = some (.slice A5 l5.length c5) from rfl)
     have b6:=(blk_cell HE.out.A 6).trans (show (#[.int .i64 n,.int .i64 g,.slice A2 l2.length c2,.slice A3 l3.length c3,.slice A4 l4.length c4,.slice A5 l5.length c5,.slice A6 l6.length c6]:Array Value)[6]? = some (.slice A6 l6.length c6) from rfl)
     go_wp2_with fail
     refine(round_own w gt (some ⟨bs,0,none⟩) ns cs (some ⟨bm,0,none⟩) nm cm ⟨st,mk,false⟩ n g A2 c2 l2 A3 c3 l3 A4 c4 l4 A5 c5 l5 A6 c6 l6 _ HE.out.T HI4.out.1 HI4.out.2.2 HI5.out.1 HI5.out.2.2 HI6.out.1 HI6.out.2.2).mono ?_
     rintro e w1 ⟨rfl,ht,hf⟩
     have HE1:=Aside0.mk (HE.out.step ht hf)
     clear HE ht hf b0 b1 b2 b3 b4 b5 b6
     go_wp2
     go_roundg (meas (again ⟨st,mk,true⟩ l4 l5 l6))
     case measure=>exact Nat.lt_of_lt_of_le (meas_again rfl _ _ _) Hm.out
     case rel=>exact⟨again ⟨st,mk,true⟩ l4 l5 l6,⟨Nat.le_refl _⟩,⟨(trimF_go rfl _ _ _).trans HS.out⟩,HE1⟩
    | false=>
     have HSE:Aside0 (sF=⟨st,mk,false⟩):=⟨HS.out.symm.trans (trimF_end rfl _ _ _)⟩
     have y0:=(blk_cell HE.out.T.t 0).trans (show (#[(Value.slice (some ⟨bs,0,none⟩) ns cs),(Value.slice (some ⟨bm,0,none⟩) nm cm),.bool false]:Array Value)[0]? = some (Value.slice (some ⟨bs,0,none⟩) ns cs) from rfl)
     have y2:=(blk_cell HE.out.T.t 2).trans (show (#[(Value.slice (some ⟨bs,0,none⟩) ns cs),(Value.slice (some ⟨bm,0,none⟩) nm cm),.bool false]:Array Value)[2]? = some (.bool false) from rfl)
     go_wp2_with fail
     have HNL:Aside0 (ns=st.length∧nm=mk.length):=⟨(Kd.R_reads' HE.out.T.s).1,(Kd.R_reads' HE.out.T.m).1⟩
     have HNX:Aside0 (ns≤200∧nm≤10001):=⟨by have:=HNS.out;have:=HOK.out.n1;have:=HOK.out.g1;have:=HOK.out.n0;have:=HOK.out.g0;omega⟩
     refine(numbers_n (some ⟨bs,0,none⟩) cs ns st 0 _ HNL.out.1 (Kd.R_reads' HE.out.T.s).2.2 (Kd.R_reads' HE.out.T.s).2.1 (by have:=HNL.out;have:=HNX.out;omega)).mono ?_
     rintro e w1 ⟨vn,rfl,hn1,hb1⟩
     obtain⟨An,cn,rfl⟩:=rowN_form hn1 ((numR_len st 0).trans HNL.out.1.symm)
     have HE1:=Aside0.mk (HE.out.below hb1)
     have HN1:=Aside0.mk hn1
     clear HE hn1 hb1 y0 y2
     have HE:=HE1
     clear HE1
     have y1:=(blk_cell HE.out.T.t 1).trans (show (#[(Value.slice (some ⟨bs,0,none⟩) ns cs),(Value.slice (some ⟨bm,0,none⟩) nm cm),.bool false]:Array Value)[1]? = some (Value.slice (some ⟨bm,0,none⟩) nm cm) from rfl)
     go_wp2_with fail
     refine(numbers_n (some ⟨bm,0,none⟩) cm nm mk 1 _ HNL.out.2 (Kd.R_reads' HE.out.T.m).2.2 (Kd.R_reads' HE.out.T.m).2.1 (by have:=HNL.out;have:=HNX.out;omega)).mono ?_
     rintro e w2 ⟨vg,rfl,hn2,hb2⟩
     obtain⟨Ag,cg,rfl⟩:=rowN_form hn2 ((numR_len mk 1).trans HNL.out.2.symm)
     have HEo:=Aside0.mk (HE.out.below hb2)
     have HN1o:=Aside0.mk (Kd.R_reads' (Kd.R_below HN1.out hb2)).2.2
     have HN2o:=Aside0.mk (Kd.R_reads' hn2).2.2
     clear HE hn2 hb2 HN1 y1
     obtain⟨numS,hnS⟩:∃l:List Int,l=(numR st 0).1:=⟨_,rfl⟩
     obtain⟨numM,hnM⟩:∃l:List Int,l=(numR mk 1).1:=⟨_,rfl⟩
     obtain⟨cS,hcS⟩:∃l:Int,l=(numR st 0).2:=⟨_,rfl⟩
     obtain⟨cM,hcM⟩:∃l:Int,l=(numR mk 1).2:=⟨_,rfl⟩
     rw [←hnS] at HN1o
     rw [←hnM] at HN2o
     rw [←hcS,←hcM]
     have HLN:Aside0 (numS.length=ns∧numM.length=nm):=⟨by rw [hnS,numR_len];exact HNL.out.1.symm,by rw [hnM,numR_len];exact HNL.out.2.symm⟩
     have HQ:=Aside0.mk (And.intro hnS (And.intro hnM (And.intro hcS hcM)))
     clear hnS hnM hcS hcM HS Hm
     have HO:Aside0 (OutR (w2.alloc (.cells #[.int .i64 cS,.int .i64 (wrap64 (cM - 1)),.slice none 0 0,.slice none 0 0,.slice none 0 0,.slice none 0 0,.slice none 0 0] 30)) w2 w2.heap.size (.int .i64 cS) (.int .i64 (wrap64 (cM - 1))) (.slice none 0 0) (.slice none 0 0) (.slice none 0 0) (.slice none 0 0) (.slice none 0 0) [] [] [] [] []):=⟨OutR.made (below_alloc (Below.refl _ _) _) (Nat.le_refl _) (blk_newAt _ rfl)⟩
     go_upto_region 15 with (fail)
     obtain⟨wO,hwO⟩:∃wO:World,wO=w2:=⟨_,rfl⟩
     obtain⟨go,hgo⟩:∃go:Nat,go=w2.heap.size:=⟨_,rfl⟩
     obtain⟨wq2,hwq⟩:∃wq2:World,wq2=(w2.alloc (.cells #[.int .i64 cS,.int .i64 (wrap64 (cM - 1)),.slice none 0 0,.slice none 0 0,.slice none 0 0,.slice none 0 0,.slice none 0 0] 30)):=⟨_,rfl⟩
     rw [←hwq,←hgo] at HO ⊢
     rw [←hwO] at HO HEo HN1o HN2o
     clear hwq hgo hwO
     clear wq w1 w2
     obtain⟨wq,rfl⟩:∃wq:World,wq=wq2:=⟨_,rfl⟩
     obtain⟨gG,hgG⟩:∃gG:Int,gG=wrap64 (cM - 1):=⟨_,rfl⟩
     rw [←hgG] at HO ⊢
     have HGG:=Aside0.mk hgG
     clear hgG
     have HAq:Aside0 (wq.heap[ga]? = some (.cells #[.int .i64 n,.int .i64 g,.slice A2 l2.length c2,.slice A3 l3.length c3,.slice A4 l4.length c4,.slice A5 l5.length c5,.slice A6 l6.length c6] 30 (0,0))):=⟨blk_below HEo.out.A HO.out.b⟩
     have b0:=(blk_cell HAq.out 0).trans (show (#[.int .i64 n,.int .i64 g,.slice A2 l2.length c2,.slice A3 l3.length c3,.slice A4 l4.length c4,.slice A5 l5.length c5,.slice A6 l6.length c6]:Array Value)[0]? = some (.int .i64 n) from rfl)
     have b1:=(blk_cell HAq.out 1).trans (show (#[.int .i64 n,.int .i64 g,.slice A2 l2.length c2,.slice A3 l3.length c3,.slice A4 l4.length c4,.slice A5 l5.length c5,.slice A6 l6.length c6]:Array Value)[1]? = some (.int .i64 g) from rfl)
     have b2:=(blk_cell HAq.out 2).trans (show (#[.int .i64 n,.int .i64 g,.slice A2 l2.length c2,.slice A3 l3.length c3,.slice A4 l4.length c4,.slice A5 l5.length c5,.slice A6 l6.length c6]:Array Value)[2]? = some (.slice A2 l2.length c2) from rfl)
     have b3:=(blk_cell HAq.out 3).trans (show (#[.int .i64 n,.int .i64 g,.slice A2 l2.length c2,.slice A3 l3.length c3,.slice A4 l4.length c4,.slice A5 l5.length c5,.slice A6 l6.length c6]:Array Value)[3]? = some (.slice A3 l3.length c3) from rfl)
     have b4:=(blk_cell HAq.out 4).trans (show (#[.int .i64 n,.int .i64 g,.slice A2 l2.length c2,.slice A3 l3.length c3,.slice A4 l4.length c4,.slice A5 l5.length c5,.slice A6 l6.length c6]:Array Value)[4]? = some (.slice A4 l4.length c4) from rfl)
     have b5:=(blk_cell HAq.out 5).trans (show (#[.int .i64 n,.int .i64 g,.slice A2 l2.length c2,.slice A3 l3.length c3,.slice A4 l4.length c4,.slice A5 l5.length c5,.slice A6 l6.length c6]:Array Value)[5]? = some (.slice A5 l5.length c5) from rfl)
     have b6:=(blk_cell HAq.out 6).trans (show (#[.int .i64 n,.int .i64 g,.slice A2 l2.length c2,.slice A3 l3.length c3,.slice A4 l4.length c4,.slice A5 l5.length c5,.slice A6 l6.length c6]:Array Value)[6]? = some (.slice A6 l6.length c6) from rfl)
     go_wp2
     clear b0 b1 b2 b3 b4 b5 b6
     try clear t1
     go_loopg [84] l2.length (fun gk v84 w'=>∃(i:Nat) (vj:Value),v84=.int .i64 (i:Int)∧Aside0 (i≤l2.length∧l2.length - i≤gk)∧Aside0 (OutR w' wO go (.int .i64 cS) (.int .i64 gG) vj (Value.slice none 0 0) (Value.slice none 0 0) (Value.slice none 0 0) (Value.slice none 0 0) ((l2.take i).map (rdI numS)) [] [] [] []))
     case atStart=>exact⟨0,(.slice none 0 0),rfl,⟨by omega,by omega⟩,HO⟩
     case round=>
      clear HO HAq
      try clear HBq
      obtain⟨i,vj,rfl,Hi,HO⟩:=hrel
      clear wq
      obtain⟨wq,rfl⟩:∃wq:World,wq=wr:=⟨_,rfl⟩
      have HAq:Aside0 (wq.heap[ga]? = some (.cells #[.int .i64 n,.int .i64 g,.slice A2 l2.length c2,.slice A3 l3.length c3,.slice A4 l4.length c4,.slice A5 l5.length c5,.slice A6 l6.length c6] 30 (0,0))):=⟨blk_below HEo.out.A HO.out.b⟩
      have HBq:Aside0 (Below w.heap.size w wq):=⟨below_then HEo.out.T.below HEo.out.T.below.size HO.out.b⟩
      by_cases hlt:¬i < l2.length
      ·have e4 : l2.take i = l2 := List.take_of_length_le (by omega)
       rw [e4] at HO
       have t1:=eq_false hlt
       clear hlt e4 Hi
       obtain⟨v2,rfl⟩:∃v:Value,v=vj:=⟨_,rfl⟩
       have t9:True:=trivial
       have b0:=(blk_cell HAq.out 0).trans (show (#[.int .i64 n,.int .i64 g,.slice A2 l2.length c2,.slice A3 l3.length c3,.slice A4 l4.length c4,.slice A5 l5.length c5,.slice A6 l6.length c6]:Array Value)[0]? = some (.int .i64 n) from rfl)
       have b1:=(blk_cell HAq.out 1).trans (show (#[.int .i64 n,.int .i64 g,.slice A2 l2.length c2,.slice A3 l3.length c3,.slice A4 l4.length c4,.slice A5 l5.length c5,.slice A6 l6.length c6]:Array Value)[1]? = some (.int .i64 g) from rfl)
       have b2:=(blk_cell HAq.out 2).trans (show (#[.int .i64 n,.int .i64 g,.slice A2 l2.length c2,.slice A3 l3.length c3,.slice A4 l4.length c4,.slice A5 l5.length c5,.slice A6 l6.length c6]:Array Value)[2]? = some (.slice A2 l2.length c2) from rfl)
       have b3:=(blk_cell HAq.out 3).trans (show (#[.int .i64 n,.int .i64 g,.slice A2 l2.length c2,.slice A3 l3.length c3,.slice A4 l4.length c4,.slice A5 l5.length c5,.slice A6 l6.length c6]:Array Value)[3]? = some (.slice A3 l3.length c3) from rfl)
       have b4:=(blk_cell HAq.out 4).trans (show (#[.int .i64 n,.int .i64 g,.slice A2 l2.length c2,.slice A3 l3.length c3,.slice A4 l4.length c4,.slice A5 l5.length c5,.slice A6 l6.length c6]:Array Value)[4]? = some (.slice A4 l4.length c4) from rfl)
       have b5:=(blk_cell HAq.out 5).trans (show (#[.int .i64 n,.int .i64 g,.slice A2 l2.length c2,.slice A3 l3.length c3,.slice A4 l4.length c4,.slice A5 l5.length c5,.slice A6 l6.length c6]:Array Value)[5]? = some (.slice A5 l5.length c5) from rfl)
       have b6:=(blk_cell HAq.out 6).trans (show (#[.int .i64 n,.int .i64 g,.slice A2 l2.length c2,.slice A3 l3.length c3,.slice A4 l4.length c4,.slice A5 l5.length c5,.slice A6 l6.length c6]:Array Value)[6]? = some (.slice A6 l6.length c6) from rfl)
       go_wp2
       clear b0 b1 b2 b3 b4 b5 b6
       try clear t1
       go_loopg [101] l3.length (fun gk v101 w'=>∃(i:Nat) (vj:Value),v101=.int .i64 (i:Int)∧Aside0 (i≤l3.length∧l3.length - i≤gk)∧Aside0 (OutR w' wO go (.int .i64 cS) (.int .i64 gG) v2 vj (Value.slice none 0 0) (Value.slice none 0 0) (Value.slice none 0 0) ((l2).map (rdI numS)) (((l3.take i).filter (rdB st)).map (rdI numS)) [] [] []))
       case atStart=>exact⟨0,(.slice none 0 0),rfl,⟨by omega,by omega⟩,HO⟩
       case round=>
        clear HO HAq
        try clear HBq
        obtain⟨i,vj,rfl,Hi,HO⟩:=hrel
        clear wq
        obtain⟨wq,rfl⟩:∃wq:World,wq=wr:=⟨_,rfl⟩
        have HAq:Aside0 (wq.heap[ga]? = some (.cells #[.int .i64 n,.int .i64 g,.slice A2 l2.length c2,.slice A3 l3.length c3,.slice A4 l4.length c4,.slice A5 l5.length c5,.slice A6 l6.length c6] 30 (0,0))):=⟨blk_below HEo.out.A HO.out.b⟩
        have HBq:Aside0 (Below w.heap.size w wq):=⟨below_then HEo.out.T.below HEo.out.T.below.size HO.out.b⟩
        by_cases hlt:¬i < l3.length
        ·have e4 : l3.take i = l3 := List.take_of_length_le (by omega)
         rw [e4] at HO
         have t1:=eq_false hlt
         clear hlt e4 Hi
         obtain⟨v3,rfl⟩:∃v:Value,v=vj:=⟨_,rfl⟩
         have b0:=(blk_cell HAq.out 0).trans (show (#[.int .i64 n,.int .i64 g,.slice A2 l2.length c2,.slice A3 l3.length c3,.slice A4 l4.length c4,.slice A5 l5.length c5,.slice A6 l6.length c6]:Array Value)[0]? = some (.int .i64 n) from rfl)
         have b1:=(blk_cell HAq.out 1).trans (show (#[.int .i64 n,.int .i64 g,.slice A2 l2.length c2,.slice A3 l3.length c3,.slice A4 l4.length c4,.slice A5 l5.length c5,.slice A6 l6.length c6]:Array Value)[1]? = some (.int .i64 g) from rfl)
         have b2:=(blk_cell HAq.out 2).trans (show (#[.int .i64 n,.int .i64 g,.slice A2 l2.length c2,.slice A3 l3.length c3,.slice A4 l4.length c4,.slice A5 l5.length c5,.slice A6 l6.length c6]:Array Value)[2]? = some (.slice A2 l2.length c2) from rfl)
         have b3:=(blk_cell HAq.out 3).trans (show (#[.int .i64 n,.int .i64 g,.slice A2 l2.length c2,.slice A3 l3.length c3,.slice A4 l4.length c4,.slice A5 l5.length c5,.slice A6 l6.length c6]:Array Value)[3]? = some (.slice A3 l3.length c3) from rfl)
         have b4:=(blk_cell HAq.out 4).trans (show (#[.int .i64 n,.int .i64 g,.slice A2 l2.length c2,.slice A3 l3.length c3,.slice A4 l4.length c4,.slice A5 l5.length c5,.slice A6 l6.length c6]:Array Value)[4]? = some (.slice A4 l4.length c4) from rfl)
         have b5:=(blk_cell HAq.out 5).trans (show (#[.int .i64 n,.int .i64 g,.slice A2 l2.length c2,.slice A3 l3.length c3,.slice A4 l4.length c4,.slice A5 l5.length c5,.slice A6 l6.length c6]:Array Value)[5]? = some (.slice A5 l5.length c5) from rfl)
         have b6:=(blk_cell HAq.out 6).trans (show (#[.int .i64 n,.int .i64 g,.slice A2 l2.length c2,.slice A3 l3.length c3,.slice A4 l4.length c4,.slice A5 l5.length c5,.slice A6 l6.length c6]:Array Value)[6]? = some (.slice A6 l6.length c6) from rfl)
         go_wp2
         clear b0 b1 b2 b3 b4 b5 b6
         try clear t1
         go_loopg [125] l4.length (fun gk v125 w'=>∃(i:Nat) (vj:Value),v125=.int .i64 (i:Int)∧Aside0 (i≤l4.length∧l4.length - i≤gk)∧Aside0 (OutR w' wO go (.int .i64 cS) (.int .i64 gG) v2 v3 vj (Value.slice none 0 0) (Value.slice none 0 0) ((l2).map (rdI numS)) (((l3).filter (rdB st)).map (rdI numS)) (trimO st numS numM (l4.take i)) [] []))
         case atStart=>exact⟨0,(.slice none 0 0),rfl,⟨by omega,by omega⟩,HO⟩
         case round=>
          clear HO HAq
          try clear HBq
          obtain⟨i,vj,rfl,Hi,HO⟩:=hrel
          clear wq
          obtain⟨wq,rfl⟩:∃wq:World,wq=wr:=⟨_,rfl⟩
          have HAq:Aside0 (wq.heap[ga]? = some (.cells #[.int .i64 n,.int .i64 g,.slice A2 l2.length c2,.slice A3 l3.length c3,.slice A4 l4.length c4,.slice A5 l5.length c5,.slice A6 l6.length c6] 30 (0,0))):=⟨blk_below HEo.out.A HO.out.b⟩
          have HBq:Aside0 (Below w.heap.size w wq):=⟨below_then HEo.out.T.below HEo.out.T.below.size HO.out.b⟩
          by_cases hlt:¬i < l4.length
          ·have e4 : l4.take i = l4 := List.take_of_length_le (by omega)
           rw [e4] at HO
           have t1:=eq_false hlt
           clear hlt e4 Hi
           obtain⟨v4,rfl⟩:∃v:Value,v=vj:=⟨_,rfl⟩
           have b0:=(blk_cell HAq.out 0).trans (show (#[.int .i64 n,.int .i64 g,.slice A2 l2.length c2,.slice A3 l3.length c3,.slice A4 l4.length c4,.slice A5 l5.length c5,.slice A6 l6.length c6]:Array Value)[0]? = some (.int .i64 n) from rfl)
           have b1:=(blk_cell HAq.out 1).trans (show (#[.int .i64 n,.int .i64 g,.slice A2 l2.length c2,.slice A3 l3.length c3,.slice A4 l4.length c4,.slice A5 l5.length c5,.slice A6 l6.length c6]:Array Value)[1]? = some (.int .i64 g) from rfl)
           have b2:=(blk_cell HAq.out 2).trans (show (#[.int .i64 n,.int .i64 g,.slice A2 l2.length c2,.slice A3 l3.length c3,.slice A4 l4.length c4,.slice A5 l5.length c5,.slice A6 l6.length c6]:Array Value)[2]? = some (.slice A2 l2.length c2) from rfl)
           have b3:=(blk_cell HAq.out 3).trans (show (#[.int .i64 n,.int .i64 g,.slice A2 l2.length c2,.slice A3 l3.length c3,.slice A4 l4.length c4,.slice A5 l5.length c5,.slice A6 l6.length c6]:Array Value)[3]? = some (.slice A3 l3.length c3) from rfl)
           have b4:=(blk_cell HAq.out 4).trans (show (#[.int .i64 n,.int .i64 g,.slice A2 l2.length c2,.slice A3 l3.length c3,.slice A4 l4.length c4,.slice A5 l5.length c5,.slice A6 l6.length c6]:Array Value)[4]? = some (.slice A4 l4.length c4) from rfl)
           have b5:=(blk_cell HAq.out 5).trans (show (#[.int .i64 n,.int .i64 g,.slice A2 l2.length c2,.slice A3 l3.length c3,.slice A4 l4.length c4,.slice A5 l5.length c5,.slice A6 l6.length c6]:Array Value)[5]? = some (.slice A5 l5.length c5) from rfl)
           have b6:=(blk_cell HAq.out 6).trans (show (#[.int .i64 n,.int .i64 g,.slice A2 l2.length c2,.slice A3 l3.length c3,.slice A4 l4.length c4,.slice A5 l5.length c5,.slice A6 l6.length c6]:Array Value)[6]? = some (.slice A6 l6.length c6) from rfl)
           go_wp2
           clear b0 b1 b2 b3 b4 b5 b6
           try clear t1
           go_loopg [164] l5.length (fun gk v164 w'=>∃(i:Nat) (vj:Value),v164=.int .i64 (i:Int)∧Aside0 (i≤l5.length∧l5.length - i≤gk)∧Aside0 (OutR w' wO go (.int .i64 cS) (.int .i64 gG) v2 v3 v4 vj (Value.slice none 0 0) ((l2).map (rdI numS)) (((l3).filter (rdB st)).map (rdI numS)) (trimO st numS numM (l4)) (trimC st mk numS numM (l5.take i)) []))
           case atStart=>exact⟨0,(.slice none 0 0),rfl,⟨by omega,by omega⟩,HO⟩
           case round=>
            clear HO HAq
            try clear HBq
            obtain⟨i,vj,rfl,Hi,HO⟩:=hrel
            clear wq
            obtain⟨wq,rfl⟩:∃wq:World,wq=wr:=⟨_,rfl⟩
            have HAq:Aside0 (wq.heap[ga]? = some (.cells #[.int .i64 n,.int .i64 g,.slice A2 l2.length c2,.slice A3 l3.length c3,.slice A4 l4.length c4,.slice A5 l5.length c5,.slice A6 l6.length c6] 30 (0,0))):=⟨blk_below HEo.out.A HO.out.b⟩
            have HBq:Aside0 (Below w.heap.size w wq):=⟨below_then HEo.out.T.below HEo.out.T.below.size HO.out.b⟩
            by_cases hlt:¬i < l5.length
            ·have e4 : l5.take i = l5 := List.take_of_length_le (by omega)
             rw [e4] at HO
             have t1:=eq_false hlt
             clear hlt e4 Hi
             obtain⟨v5,rfl⟩:∃v:Value,v=vj:=⟨_,rfl⟩
             have b0:=(blk_cell HAq.out 0).trans (show (#[.int .i64 n,.int .i64 g,.slice A2 l2.length c2,.slice A3 l3.length c3,.slice A4 l4.length c4,.slice A5 l5.length c5,.slice A6 l6.length c6]:Array Value)[0]? = some (.int .i64 n) from rfl)
             have b1:=(blk_cell HAq.out 1).trans (show (#[.int .i64 n,.int .i64 g,.slice A2 l2.length c2,.slice A3 l3.length c3,.slice A4 l4.length c4,.slice A5 l5.length c5,.slice A6 l6.length c6]:Array Value)[1]? = some (.int .i64 g) from rfl)
             have b2:=(blk_cell HAq.out 2).trans (show (#[.int .i64 n,.int .i64 g,.slice A2 l2.length c2,.slice A3 l3.length c3,.slice A4 l4.length c4,.slice A5 l5.length c5,.slice A6 l6.length c6]:Array Value)[2]? = some (.slice A2 l2.length c2) from rfl)
             have b3:=(blk_cell HAq.out 3).trans (show (#[.int .i64 n,.int .i64 g,.slice A2 l2.length c2,.slice A3 l3.length c3,.slice A4 l4.length c4,.slice A5 l5.length c5,.slice A6 l6.length c6]:Array Value)[3]? = some (.slice A3 l3.length c3) from rfl)
             have b4:=(blk_cell HAq.out 4).trans (show (#[.int .i64 n,.int .i64 g,.slice A2 l2.length c2,.slice A3 l3.length c3,.slice A4 l4.length c4,.slice A5 l5.length c5,.slice A6 l6.length c6]:Array Value)[4]? = some (.slice A4 l4.length c4) from rfl)
             have b5:=(blk_cell HAq.out 5).trans (show (#[.int .i64 n,.int .i64 g,.slice A2 l2.length c2,.slice A3 l3.length c3,.slice A4 l4.length c4,.slice A5 l5.length c5,.slice A6 l6.length c6]:Array Value)[5]? = some (.slice A5 l5.length c5) from rfl)
             have b6:=(blk_cell HAq.out 6).trans (show (#[.int .i64 n,.int .i64 g,.slice A2 l2.length c2,.slice A3 l3.length c3,.slice A4 l4.length c4,.slice A5 l5.length c5,.slice A6 l6.length c6]:Array Value)[6]? = some (.slice A6 l6.length c6) from rfl)
             go_wp2
             clear b0 b1 b2 b3 b4 b5 b6
             try clear t1
             go_loopg [218] l6.length (fun gk v218 w'=>∃(i:Nat) (vj:Value),v218=.int .i64 (i:Int)∧Aside0 (i≤l6.length∧l6.length - i≤gk)∧Aside0 (OutR w' wO go (.int .i64 cS) (.int .i64 gG) v2 v3 v4 v5 vj ((l2).map (rdI numS)) (((l3).filter (rdB st)).map (rdI numS)) (trimO st numS numM (l4)) (trimC st mk numS numM (l5)) (trimI st numS (l6.take i))))
             case atStart=>exact⟨0,(.slice none 0 0),rfl,⟨by omega,by omega⟩,HO⟩
             case round=>
              clear HO HAq
              try clear HBq
              obtain⟨i,vj,rfl,Hi,HO⟩:=hrel
              clear wq
              obtain⟨wq,rfl⟩:∃wq:World,wq=wr:=⟨_,rfl⟩
              have HAq:Aside0 (wq.heap[ga]? = some (.cells #[.int .i64 n,.int .i64 g,.slice A2 l2.length c2,.slice A3 l3.length c3,.slice A4 l4.length c4,.slice A5 l5.length c5,.slice A6 l6.length c6] 30 (0,0))):=⟨blk_below HEo.out.A HO.out.b⟩
              have HBq:Aside0 (Below w.heap.size w wq):=⟨below_then HEo.out.T.below HEo.out.T.below.size HO.out.b⟩
              by_cases hlt:¬i < l6.length
              ·have e4 : l6.take i = l6 := List.take_of_length_le (by omega)
               rw [e4] at HO
               have t1:=eq_false hlt
               clear hlt e4 Hi
               obtain⟨v6,rfl⟩:∃v:Value,v=vj:=⟨_,rfl⟩
               obtain⟨e2,he2⟩:∃e:List Int,e=((l2).map (rdI numS)):=⟨_,rfl⟩
               rw [←he2] at HO
               have HLE2:Aside0 (e2.length≤1000000000):=⟨by have h1:=HI2.out.2.2;have h2:(((l2).map (rdI numS))).length≤l2.length:=(by rw [List.length_map];exact Nat.le_refl _);rw [he2];omega⟩
               have HEE2:=Aside0.mk he2
               clear he2
               obtain⟨B2,q2,rfl⟩:=Kd.R_slice HO.out.r2
               obtain⟨e3,he3⟩:∃e:List Int,e=(((l3).filter (rdB st)).map (rdI numS)):=⟨_,rfl⟩
               rw [←he3] at HO
               have HLE3:Aside0 (e3.length≤1000000000):=⟨by have h1:=HI3.out.2.2;have h2:((((l3).filter (rdB st)).map (rdI numS))).length≤l3.length:=(by rw [List.length_map];exact Nat.le_trans (List.length_filter_le _ _) (Nat.le_refl _));rw [he3];omega⟩
               have HEE3:=Aside0.mk he3
               clear he3
               obtain⟨B3,q3,rfl⟩:=Kd.R_slice HO.out.r3
               obtain⟨e4,he4⟩:∃e:List TOpen,e=(trimO st numS numM (l4)):=⟨_,rfl⟩
               rw [←he4] at HO
               have HLE4:Aside0 (e4.length≤1000000000):=⟨by have h1:=HI4.out.2.2;have h2:((trimO st numS numM (l4))).length≤l4.length:=(by unfold trimO;rw [List.length_map];exact Nat.le_trans (List.length_filter_le _ _) (Nat.le_refl _));rw [he4];omega⟩
               have HEE4:=Aside0.mk he4
               clear he4
               obtain⟨B4,q4,rfl⟩:=Kd.R_slice HO.out.r4
               obtain⟨e5,he5⟩:∃e:List TClose,e=(trimC st mk numS numM (l5)):=⟨_,rfl⟩
               rw [←he5] at HO
               have HLE5:Aside0 (e5.length≤1000000000):=⟨by have h1:=HI5.out.2.2;have h2:((trimC st mk numS numM (l5))).length≤l5.length:=(by unfold trimC;rw [List.length_map];exact Nat.le_trans (List.length_filter_le _ _) (Nat.le_refl _));rw [he5];omega⟩
               have HEE5:=Aside0.mk he5
               clear he5
               obtain⟨B5,q5,rfl⟩:=Kd.R_slice HO.out.r5
               obtain⟨e6,he6⟩:∃e:List TInner,e=(trimI st numS (l6)):=⟨_,rfl⟩
               rw [←he6] at HO
               have HLE6:Aside0 (e6.length≤1000000000):=⟨by have h1:=HI6.out.2.2;have h2:((trimI st numS (l6))).length≤l6.length:=(by unfold trimI;rw [List.length_map];exact Nat.le_trans (List.length_filter_le _ _) (Nat.le_refl _));rw [he6];omega⟩
               have HEE6:=Aside0.mk he6
               clear he6
               obtain⟨B6,q6,rfl⟩:=Kd.R_slice HO.out.r6
               have HZq:Aside0 (wq.heap[gr]? = some (.cells #[.int .i64 0,.int .i64 0,.slice none 0 0,.slice none 0 0,.slice none 0 0,.slice none 0 0,.slice none 0 0] 30 (0,0))):=⟨blk_below HEo.out.X HO.out.b⟩
               have d0:=(blk_cell HO.out.t 0).trans (show (#[.int .i64 cS,.int .i64 gG,.slice B2 e2.length q2,.slice B3 e3.length q3,.slice B4 e4.length q4,.slice B5 e5.length q5,.slice B6 e6.length q6]:Array Value)[0]? = some (.int .i64 cS) from rfl)
               have d1:=(blk_cell HO.out.t 1).trans (show (#[.int .i64 cS,.int .i64 gG,.slice B2 e2.length q2,.slice B3 e3.length q3,.slice B4 e4.length q4,.slice B5 e5.length q5,.slice B6 e6.length q6]:Array Value)[1]? = some (.int .i64 gG) from rfl)
               have d2:=(blk_cell HO.out.t 2).trans (show (#[.int .i64 cS,.int .i64 gG,.slice B2 e2.length q2,.slice B3 e3.length q3,.slice B4 e4.length q4,.slice B5 e5.length q5,.slice B6 e6.length q6]:Array Value)[2]? = some (.slice B2 e2.length q2) from rfl)
               have d3:=(blk_cell HO.out.t 3).trans (show (#[.int .i64 cS,.int .i64 gG,.slice B2 e2.length q2,.slice B3 e3.length q3,.slice B4 e4.length q4,.slice B5 e5.length q5,.slice B6 e6.length q6]:Array Value)[3]? = some (.slice B3 e3.length q3) from rfl)
               have d4:=(blk_cell HO.out.t 4).trans (show (#[.int .i64 cS,.int .i64 gG,.slice B2 e2.length q2,.slice B3 e3.length q3,.slice B4 e4.length q4,.slice B5 e5.length q5,.slice B6 e6.length q6]:Array Value)[4]? = some (.slice B4 e4.length q4) from rfl)
               have d5:=(blk_cell HO.out.t 5).trans (show (#[.int .i64 cS,.int .i64 gG,.slice B2 e2.length q2,.slice B3 e3.length q3,.slice B4 e4.length q4,.slice B5 e5.length q5,.slice B6 e6.length q6]:Array Value)[5]? = some (.slice B5 e5.length q5) from rfl)
               have d6:=(blk_cell HO.out.t 6).trans (show (#[.int .i64 cS,.int .i64 gG,.slice B2 e2.length q2,.slice B3 e3.length q3,.slice B4 e4.length q4,.slice B5 e5.length q5,.slice B6 e6.length q6]:Array Value)[6]? = some (.slice B6 e6.length q6) from rfl)
               have HNM:=Aside0.mk (norm_own cS gG B2 q2 e2 B3 q3 e3 B4 q4 e4 B5 q5 e5 B6 q6 e6 wq (Kd.R_reads' HO.out.r2).2.2 (Kd.R_reads' HO.out.r2).2.1 HLE2.out (Kd.R_reads' HO.out.r3).2.2 (Kd.R_reads' HO.out.r3).2.1 HLE3.out (Kd.R_reads' HO.out.r4).2.2 (Kd.R_reads' HO.out.r4).2.1 HLE4.out (Kd.R_reads' HO.out.r5).2.2 (Kd.R_reads' HO.out.r5).2.1 HLE5.out (Kd.R_reads' HO.out.r6).2.2 (Kd.R_reads' HO.out.r6).2.1 HLE6.out)
               obtain⟨z2,hz2⟩:∃z:List Int,z=onceC cmpInt e2:=⟨_,rfl⟩
               rw [←hz2] at HNM
               have HZZ2:=Aside0.mk hz2
               clear hz2
               obtain⟨z3,hz3⟩:∃z:List Int,z=onceC cmpInt e3:=⟨_,rfl⟩
               rw [←hz3] at HNM
               have HZZ3:=Aside0.mk hz3
               clear hz3
               obtain⟨z4,hz4⟩:∃z:List TOpen,z=onceC cmpOpen e4:=⟨_,rfl⟩
               rw [←hz4] at HNM
               have HZZ4:=Aside0.mk hz4
               clear hz4
               obtain⟨z5,hz5⟩:∃z:List TClose,z=onceC cmpClose e5:=⟨_,rfl⟩
               rw [←hz5] at HNM
               have HZZ5:=Aside0.mk hz5
               clear hz5
               obtain⟨z6,hz6⟩:∃z:List TInner,z=onceC cmpInner e6:=⟨_,rfl⟩
               rw [←hz6] at HNM
               have HZZ6:=Aside0.mk hz6
               clear hz6
               go_wp2_with fail
               refine HNM.out.mono ?_
               rintro e w1 ⟨u2,u3,u4,u5,u6,rfl,hu2,hu3,hu4,hu5,hu6,hb1⟩
               clear d0 d1 d2 d3 d4 d5 d6
               obtain⟨C2,k2,rfl⟩:=Kd.V_slice hu2
               obtain⟨C3,k3,rfl⟩:=Kd.V_slice hu3
               obtain⟨C4,k4,rfl⟩:=Kd.V_slice hu4
               obtain⟨C5,k5,rfl⟩:=Kd.V_slice hu5
               obtain⟨C6,k6,rfl⟩:=Kd.V_slice hu6
               have HZ1:=Aside0.mk (blk_below HZq.out hb1)
               have HGL:Aside0 (gr < wq.heap.size):=⟨blk_lt HZq.out⟩
               have HBz:=Aside0.mk (below_then HBq.out HBq.out.size hb1)
               have HWS:Aside0 (w.heap.size≤wq.heap.size):=⟨HBq.out.size⟩
               have HU2:=Aside0.mk hu2
               clear hu2
               have HU3:=Aside0.mk hu3
               clear hu3
               have HU4:=Aside0.mk hu4
               clear hu4
               have HU5:=Aside0.mk hu5
               clear hu5
               have HU6:=Aside0.mk hu6
               clear hu6
               clear hb1 HNM HO HAq HBq HZq
               have hcz:=fun j=>blk_cell HZ1.out j
               have hc_0:=(hcz 0).trans (show (#[.int .i64 0,.int .i64 0,.slice none 0 0,.slice none 0 0,.slice none 0 0,.slice none 0 0,.slice none 0 0]:Array Value)[0]? = some (.int .i64 0) from rfl)
               have hf_0:=blk_frozen HZ1.out 0
               have hc_1:=(hcz 1).trans (show (#[.int .i64 0,.int .i64 0,.slice none 0 0,.slice none 0 0,.slice none 0 0,.slice none 0 0,.slice none 0 0]:Array Value)[1]? = some (.int .i64 0) from rfl)
               have hf_1:=blk_frozen HZ1.out 1
               have hc_2:=(hcz 2).trans (show (#[.int .i64 0,.int .i64 0,.slice none 0 0,.slice none 0 0,.slice none 0 0,.slice none 0 0,.slice none 0 0]:Array Value)[2]? = some ((Value.slice none 0 0)) from rfl)
               have hf_2:=blk_frozen HZ1.out 2
               have hc_3:=(hcz 3).trans (show (#[.int .i64 0,.int .i64 0,.slice none 0 0,.slice none 0 0,.slice none 0 0,.slice none 0 0,.slice none 0 0]:Array Value)[3]? = some ((Value.slice none 0 0)) from rfl)
               have hf_3:=blk_frozen HZ1.out 3
               have hc_4:=(hcz 4).trans (show (#[.int .i64 0,.int .i64 0,.slice none 0 0,.slice none 0 0,.slice none 0 0,.slice none 0 0,.slice none 0 0]:Array Value)[4]? = some ((Value.slice none 0 0)) from rfl)
               have hf_4:=blk_frozen HZ1.out 4
               have hc_5:=(hcz 5).trans (show (#[.int .i64 0,.int .i64 0,.slice none 0 0,.slice none 0 0,.slice none 0 0,.slice none 0 0,.slice none 0 0]:Array Value)[5]? = some ((Value.slice none 0 0)) from rfl)
               have hf_5:=blk_frozen HZ1.out 5
               have hc_6:=(hcz 6).trans (show (#[.int .i64 0,.int .i64 0,.slice none 0 0,.slice none 0 0,.slice none 0 0,.slice none 0 0,.slice none 0 0]:Array Value)[6]? = some ((Value.slice none 0 0)) from rfl)
               have hf_6:=blk_frozen HZ1.out 6
               clear hcz
               have HRES:=Aside0.mk (blk_set (blk_set (blk_set (blk_set (blk_set (blk_set (blk_set HZ1.out 0 (.int .i64 cS)) 1 (.int .i64 gG)) 2 (.slice C2 z2.length k2)) 3 (.slice C3 z3.length k3)) 4 (.slice C4 z4.length k4)) 5 (.slice C5 z5.length k5)) 6 (.slice C6 z6.length k6))
               go_wp2
               refine bodyPost_ret (results_cell_row rfl _ _ gr 30 #[.int .i64 cS,.int .i64 gG,.slice C2 z2.length k2,.slice C3 z3.length k3,.slice C4 z4.length k4,.slice C5 z5.length k5,.slice C6 z6.length k6] (0,0) _ rfl HRES.out Tryz.underlying30 rfl (by kernel_rfl)) rfl ?_
               rw [HSE.out]
               have hw2:onceC cmpInt (l2.map (rdI (numR st 0).1))=z2:=by rw [HZZ2.out,HEE2.out,HQ.out.1]
               have hw3:onceC cmpInt ((l3.filter (rdB st)).map (rdI (numR st 0).1))=z3:=by rw [HZZ3.out,HEE3.out,HQ.out.1]
               have hw4:onceC cmpOpen (trimO st (numR st 0).1 (numR mk 1).1 l4)=z4:=by rw [HZZ4.out,HEE4.out,HQ.out.1,HQ.out.2.1]
               have hw5:onceC cmpClose (trimC st mk (numR st 0).1 (numR mk 1).1 l5)=z5:=by rw [HZZ5.out,HEE5.out,HQ.out.1,HQ.out.2.1]
               have hw6:onceC cmpInner (trimI st (numR st 0).1 l6)=z6:=by rw [HZZ6.out,HEE6.out,HQ.out.1]
               refine⟨_,_,_,_,_,by rw [HGG.out,HQ.out.2.2.1,HQ.out.2.2.2],by show Kd.V (Kd.int .i64) 3 _ _ _ _ (onceC cmpInt (l2.map (rdI (numR st 0).1)));rw [hw2];exact Kd.V_mono (Kd.V_far (p:=⟨gr,6,none⟩) (Kd.V_far (p:=⟨gr,5,none⟩) (Kd.V_far (p:=⟨gr,4,none⟩) (Kd.V_far (p:=⟨gr,3,none⟩) (Kd.V_far (p:=⟨gr,2,none⟩) (Kd.V_far (p:=⟨gr,1,none⟩) (Kd.V_far (p:=⟨gr,0,none⟩) HU2.out (fun k hk e=>by have e2:k=gr:=e;have e3:wq.heap.size≤k:=hk;have:=HGL.out;omega) _) (fun k hk e=>by have e2:k=gr:=e;have e3:wq.heap.size≤k:=hk;have:=HGL.out;omega) _) (fun k hk e=>by have e2:k=gr:=e;have e3:wq.heap.size≤k:=hk;have:=HGL.out;omega) _) (fun k hk e=>by have e2:k=gr:=e;have e3:wq.heap.size≤k:=hk;have:=HGL.out;omega) _) (fun k hk e=>by have e2:k=gr:=e;have e3:wq.heap.size≤k:=hk;have:=HGL.out;omega) _) (fun k hk e=>by have e2:k=gr:=e;have e3:wq.heap.size≤k:=hk;have:=HGL.out;omega) _) (fun k hk e=>by have e2:k=gr:=e;have e3:wq.heap.size≤k:=hk;have:=HGL.out;omega) _) (fun k hk=>Nat.le_trans HWS.out hk),by show Kd.V (Kd.int .i64) 3 _ _ _ _ (onceC cmpInt ((l3.filter (rdB st)).map (rdI (numR st 0).1)));rw [hw3];exact Kd.V_mono (Kd.V_far (p:=⟨gr,6,none⟩) (Kd.V_far (p:=⟨gr,5,none⟩) (Kd.V_far (p:=⟨gr,4,none⟩) (Kd.V_far (p:=⟨gr,3,none⟩) (Kd.V_far (p:=⟨gr,2,none⟩) (Kd.V_far (p:=⟨gr,1,none⟩) (Kd.V_far (p:=⟨gr,0,none⟩) HU3.out (fun k hk e=>by have e2:k=gr:=e;have e3:wq.heap.size≤k:=hk;have:=HGL.out;omega) _) (fun k hk e=>by have e2:k=gr:=e;have e3:wq.heap.size≤k:=hk;have:=HGL.out;omega) _) (fun k hk e=>by have e2:k=gr:=e;have e3:wq.heap.size≤k:=hk;have:=HGL.out;omega) _) (fun k hk e=>by have e2:k=gr:=e;have e3:wq.heap.size≤k:=hk;have:=HGL.out;omega) _) (fun k hk e=>by have e2:k=gr:=e;have e3:wq.heap.size≤k:=hk;have:=HGL.out;omega) _) (fun k hk e=>by have e2:k=gr:=e;have e3:wq.heap.size≤k:=hk;have:=HGL.out;omega) _) (fun k hk e=>by have e2:k=gr:=e;have e3:wq.heap.size≤k:=hk;have:=HGL.out;omega) _) (fun k hk=>Nat.le_trans HWS.out hk),by show Kd.V k36 36 _ _ _ _ (onceC cmpOpen (trimO st (numR st 0).1 (numR mk 1).1 l4));rw [hw4];exact Kd.V_mono (Kd.V_far (p:=⟨gr,6,none⟩) (Kd.V_far (p:=⟨gr,5,none⟩) (Kd.V_far (p:=⟨gr,4,none⟩) (Kd.V_far (p:=⟨gr,3,none⟩) (Kd.V_far (p:=⟨gr,2,none⟩) (Kd.V_far (p:=⟨gr,1,none⟩) (Kd.V_far (p:=⟨gr,0,none⟩) HU4.out (fun k hk e=>by have e2:k=gr:=e;have e3:wq.heap.size≤k:=hk;have:=HGL.out;omega) _) (fun k hk e=>by have e2:k=gr:=e;have e3:wq.heap.size≤k:=hk;have:=HGL.out;omega) _) (fun k hk e=>by have e2:k=gr:=e;have e3:wq.heap.size≤k:=hk;have:=HGL.out;omega) _) (fun k hk e=>by have e2:k=gr:=e;have e3:wq.heap.size≤k:=hk;have:=HGL.out;omega) _) (fun k hk e=>by have e2:k=gr:=e;have e3:wq.heap.size≤k:=hk;have:=HGL.out;omega) _) (fun k hk e=>by have e2:k=gr:=e;have e3:wq.heap.size≤k:=hk;have:=HGL.out;omega) _) (fun k hk e=>by have e2:k=gr:=e;have e3:wq.heap.size≤k:=hk;have:=HGL.out;omega) _) (fun k hk=>Nat.le_trans HWS.out hk),by show Kd.V k38 38 _ _ _ _ (onceC cmpClose (trimC st mk (numR st 0).1 (numR mk 1).1 l5));rw [hw5];exact Kd.V_mono (Kd.V_far (p:=⟨gr,6,none⟩) (Kd.V_far (p:=⟨gr,5,none⟩) (Kd.V_far (p:=⟨gr,4,none⟩) (Kd.V_far (p:=⟨gr,3,none⟩) (Kd.V_far (p:=⟨gr,2,none⟩) (Kd.V_far (p:=⟨gr,1,none⟩) (Kd.V_far (p:=⟨gr,0,none⟩) HU5.out (fun k hk e=>by have e2:k=gr:=e;have e3:wq.heap.size≤k:=hk;have:=HGL.out;omega) _) (fun k hk e=>by have e2:k=gr:=e;have e3:wq.heap.size≤k:=hk;have:=HGL.out;omega) _) (fun k hk e=>by have e2:k=gr:=e;have e3:wq.heap.size≤k:=hk;have:=HGL.out;omega) _) (fun k hk e=>by have e2:k=gr:=e;have e3:wq.heap.size≤k:=hk;have:=HGL.out;omega) _) (fun k hk e=>by have e2:k=gr:=e;have e3:wq.heap.size≤k:=hk;have:=HGL.out;omega) _) (fun k hk e=>by have e2:k=gr:=e;have e3:wq.heap.size≤k:=hk;have:=HGL.out;omega) _) (fun k hk e=>by have e2:k=gr:=e;have e3:wq.heap.size≤k:=hk;have:=HGL.out;omega) _) (fun k hk=>Nat.le_trans HWS.out hk),by show Kd.V k40 40 _ _ _ _ (onceC cmpInner (trimI st (numR st 0).1 l6));rw [hw6];exact Kd.V_mono (Kd.V_far (p:=⟨gr,6,none⟩) (Kd.V_far (p:=⟨gr,5,none⟩) (Kd.V_far (p:=⟨gr,4,none⟩) (Kd.V_far (p:=⟨gr,3,none⟩) (Kd.V_far (p:=⟨gr,2,none⟩) (Kd.V_far (p:=⟨gr,1,none⟩) (Kd.V_far (p:=⟨gr,0,none⟩) HU6.out (fun k hk e=>by have e2:k=gr:=e;have e3:wq.heap.size≤k:=hk;have:=HGL.out;omega) _) (fun k hk e=>by have e2:k=gr:=e;have e3:wq.heap.size≤k:=hk;have:=HGL.out;omega) _) (fun k hk e=>by have e2:k=gr:=e;have e3:wq.heap.size≤k:=hk;have:=HGL.out;omega) _) (fun k hk e=>by have e2:k=gr:=e;have e3:wq.heap.size≤k:=hk;have:=HGL.out;omega) _) (fun k hk e=>by have e2:k=gr:=e;have e3:wq.heap.size≤k:=hk;have:=HGL.out;omega) _) (fun k hk e=>by have e2:k=gr:=e;have e3:wq.heap.size≤k:=hk;have:=HGL.out;omega) _) (fun k hk e=>by have e2:k=gr:=e;have e3:wq.heap.size≤k:=hk;have:=HGL.out;omega) _) (fun k hk=>Nat.le_trans HWS.out hk),?_⟩
               have hb0:=HBz.out
               have hg:=HGA.out.2.1
               exact below_setCells7g hb0 hg
              ·have hlt := Classical.not_not.1 hlt
               have HLT:=Aside0.mk hlt
               obtain⟨ad,eA,k0,k1,k2⟩:=at_T40 (Kd.C_below HI6.out.1 HBq.out) (i:Int) (by omega) (by omega)
               have hrd:rd_T40 l6 (i:Int)=l6[i]:=by unfold rd_T40;rw [Int.toNat_natCast,List.getD_eq_getElem?_getD,List.getElem?_eq_getElem hlt];rfl
               rw [hrd,Int.toNat_natCast] at k0 k1 k2
               have HNy:Aside0 (rdB st (l6[i]).f0=true→(trimI st numS (l6.take (i+1)))=(trimI st numS (l6.take i)) ++ [(⟨rdI numS (l6[i]).f0,(l6[i]).f1,rdI numS (l6[i]).f2⟩:TInner)]):=⟨fun hp=>by unfold trimI;exact fm_yes _ _ l6 i hlt hp⟩
               have HNn:Aside0 (¬rdB st (l6[i]).f0=true→(trimI st numS (l6.take (i+1)))=(trimI st numS (l6.take i))):=⟨fun hp=>by unfold trimI;exact fm_no _ _ l6 i hlt hp⟩
               have HIN:=HOK.out.p l6[i] (List.getElem_mem hlt)
               generalize l6[i]=x at HNy HNn HIN k0 k1 k2
               obtain⟨x0,x1,x2⟩:=x
               clear hrd
               simp only at HIN
               have hns:=HNS.out.1
               have hnm:=HNS.out.2
               have hn0:=HOK.out.n0
               have hg0:=HOK.out.g0
               have hl1:=HLN.out.1
               have hl2:=HLN.out.2
               have pzx0:(0:Int)≤x0:=by omega
               have qzx0:x0 < (ns:Int):=by omega
               obtain⟨a_,e_,h_⟩:=num_at HN1o.out x0 pzx0 (by omega)
               obtain⟨aS,e2_⟩:∃a,a=a_:=⟨_,rfl⟩
               subst e2_
               subst e_
               have Cx0:=Aside0.mk h_
               clear h_
               have pzx2:(0:Int)≤x2:=by omega
               have qzx2:x2 < (ns:Int):=by omega
               obtain⟨a_,e_,h_⟩:=num_at HN1o.out x2 pzx2 (by omega)
               cases e_
               have Cx2:=Aside0.mk h_
               clear h_
               have t1:=eq_true hlt
               have t2:=eq_true (show (0:Int)≤(i:Int) by omega)
               have t3:=eq_true (show (i:Int) < (l6.length:Int) by omega)
               subst eA
               clear hlt
               have HVN:Aside0 (some wq.heap.size≠(vj:Value).ownBlock):=⟨fun e=>by have:=Kd.R_lt HO.out.r6 _ e.symm;omega⟩
               have HX:Aside0 ((wq.alloc (.cells #[.int .i64 x0,.int .i64 x1,.int .i64 x2] 40)).heap[wq.heap.size]? = some (.cells #[.int .i64 x0,.int .i64 x1,.int .i64 x2] 40 (0,0))):=⟨blk_newAt _ rfl⟩
               have HO1:=Aside0.mk (HO.out.below (below_alloc (Below.refl _ wq) (.cells #[.int .i64 x0,.int .i64 x1,.int .i64 x2] 40)))
               clear HO
               go_upto_region 41 with (fail)
               obtain⟨wv,hwv⟩:∃wv:World,wv=wq.alloc (.cells #[.int .i64 x0,.int .i64 x1,.int .i64 x2] 40):=⟨_,rfl⟩
               rw [←hwv] at HX HO1 ⊢
               generalize wq.heap.size=vb at HX HVN ⊢
               clear hwv t1 t2 t3 HAq HBq k0 k1 k2
               clear wq
               obtain⟨wq,rfl⟩:∃wq:World,wq=wv:=⟨_,rfl⟩
               have HO:=HO1
               clear HO1
               have hy0:=(Kd.R_celln false (TrimR.then_ HEo.out.T HO.out.b).s x0 pzx0 qzx0).1
               obtain⟨bx,hbx⟩:∃b:Bool,b=rdOf false st x0:=⟨_,rfl⟩
               rw [←hbx] at hy0
               have HBX:Aside0 (bx=rdB st x0):=⟨hbx⟩
               clear hbx
               have Y0:=Aside0.mk hy0
               clear hy0
               have G0:Aside0 (wq.cell? ⟨gt,0,none⟩=some (Value.slice (some ⟨bs,0,none⟩) ns cs)):=⟨(blk_cell (TrimR.then_ HEo.out.T HO.out.b).t 0).trans rfl⟩
               have G1:Aside0 (wq.cell? ⟨gt,1,none⟩=some (Value.slice (some ⟨bm,0,none⟩) nm cm)):=⟨(blk_cell (TrimR.then_ HEo.out.T HO.out.b).t 1).trans rfl⟩
               have X0:Aside0 (wq.cell? ⟨vb,0,none⟩=some (.int .i64 x0)):=⟨(blk_cell HX.out 0).trans rfl⟩
               have X1:Aside0 (wq.cell? ⟨vb,1,none⟩=some (.int .i64 x1)):=⟨(blk_cell HX.out 1).trans rfl⟩
               have X2:Aside0 (wq.cell? ⟨vb,2,none⟩=some (.int .i64 x2)):=⟨(blk_cell HX.out 2).trans rfl⟩
               have px0:=eq_true pzx0
               have qx0:=eq_true qzx0
               clear pzx0 qzx0
               have px2:=eq_true pzx2
               have qx2:=eq_true qzx2
               clear pzx2 qzx2
               clear HIN hns hnm hn0 hg0 hl1 hl2
               refine start_ (n:=8) (S:=fun w'=>w'.cell? ⟨gt,0,none⟩=some (Value.slice (some ⟨bs,0,none⟩) ns cs)∧w'.cell? ⟨bs,x0.toNat,none⟩=some (.bool bx)∧w'.cell? ⟨vb,0,none⟩=some (.int .i64 x0)) (ds:=[]) (pm 0 8) (by kernel_rfl) rfl rfl ⟨below_cell (below_drew (Below.refl _ _)) G0.out,below_cell (below_drew (Below.refl _ _)) Y0.out,below_cell (below_drew (Below.refl _ _)) X0.out⟩ (fun hHeld=>?_)
               have HO1:=Aside0.mk (HO.out.below (below_drew (Below.refl _ _)))
               have HX1:=Aside0.mk (blk_drew HX.out)
               clear HO HX G0 G1 Y0 X0 X1 X2
               have HO:=HO1
               have HX:=HX1
               clear HO1 HX1
               obtain⟨wd,hwd⟩:∃wd:World,wd=wq.drew:=⟨_,rfl⟩
               rw [←hwd] at HO HX hHeld ⊢
               clear hwd
               try clear wq
               obtain⟨wq,rfl⟩:∃wq:World,wq=wd:=⟨_,rfl⟩
               iterate 8 (first|(refine pn_ (v:=?_) (a':=?_) rfl (rfl (a:=some _)) (by kernel_rfl) (fun _ _ _ h=>h) (Or.inl ⟨by rfl,?_⟩) ?_ ?_;rotate_left;(intro w';go_simp;with_reducible rfl);rotate_left;(simp only [Act.put,List.setIfInBounds_toArray,List.set_cons_zero,List.set_cons_succ,i64_w,i32_w];rfl))|(refine tn_ (v:=?_) (a':=?_) rfl (rfl (a:=some _)) (by kernel_rfl) (fun _ _ _ h=>h) (Or.inl ⟨by rfl,?_⟩) hHeld ?_ ?_;rotate_left;(intro w' hS_;obtain⟨s0,s1,s2⟩:=hS_;go_simp;with_reducible rfl);rotate_left;(simp only [Act.put,List.setIfInBounds_toArray,List.set_cons_zero,List.set_cons_succ,i64_w,i32_w];rfl)))
               refine done_ (by kernel_rfl) ?_
               clear hHeld
               cases bx with
               | false=>
                have HC:Aside0 (¬rdB st x0=true):=⟨by rw [←HBX.out];decide⟩
                go_wp2
                go_roundg (l6.length - (i+1))
                case measure=>have:=Hi.out;have:=HLT.out;omega
                case rel=>exact⟨i+1,vj,by first|rfl|rw [show wrap64 ((i:Int)+1)=((i+1:Nat):Int) by have:=HLT.out;have:=HI6.out.2.2;unfold wrap64;omega],⟨HLT.out,Nat.le_refl _⟩,⟨by rw [HNn.out HC.out];exact HO.out⟩⟩
               | true=>
                have HC:Aside0 (rdB st x0=true):=⟨HBX.out.symm⟩
                go_upto_region 42 with (fail)
                refine start_ (n:=19) (S:=fun w'=>w'.cell? ⟨go,6,none⟩=some vj∧w'.cell? ⟨vb,0,none⟩=some (.int .i64 x0)∧w'.cell? ⟨vb,1,none⟩=some (.int .i64 x1)∧w'.cell? ⟨vb,2,none⟩=some (.int .i64 x2)∧w'.cell? (aS.add x0.toNat)=some (.int .i64 (rdI numS x0))∧w'.cell? (aS.add x2.toNat)=some (.int .i64 (rdI numS x2))) (ds:=[18]) (pm 0 19) (by kernel_rfl) rfl rfl ⟨(blk_cell (blk_drew HO.out.t) 6).trans rfl,(blk_cell (blk_drew HX.out) 0).trans rfl,(blk_cell (blk_drew HX.out) 1).trans rfl,(blk_cell (blk_drew HX.out) 2).trans rfl,below_cell (below_drew HO.out.b) Cx0.out,below_cell (below_drew HO.out.b) Cx2.out⟩ (fun hHeld=>?_)
                have HO1:=Aside0.mk (HO.out.below (below_drew (Below.refl _ _)))
                have HX1:=Aside0.mk (blk_drew HX.out)
                clear HO HX
                try clear HAq
                try clear HBq
                have HO:=HO1
                clear HO1
                have HX:=HX1
                clear HX1
                obtain⟨wd,hwd⟩:∃wd:World,wd=wq.drew:=⟨_,rfl⟩
                rw [←hwd] at HO HX hHeld ⊢
                clear hwd
                try clear wq
                obtain⟨wq,rfl⟩:∃wq:World,wq=wd:=⟨_,rfl⟩
                iterate 15 (first|(refine pn_ (v:=?_) (a':=?_) rfl (rfl (a:=some _)) (by kernel_rfl) (fun _ _ _ h=>h) (Or.inl ⟨by rfl,?_⟩) ?_ ?_;rotate_left;(intro w';go_simp;with_reducible rfl);rotate_left;(simp only [Act.put,List.setIfInBounds_toArray,List.set_cons_zero,List.set_cons_succ,i64_w,i32_w];rfl))|(refine tn_ (v:=?_) (a':=?_) rfl (rfl (a:=some _)) (by kernel_rfl) (fun _ _ _ h=>h) (Or.inl ⟨by rfl,?_⟩) hHeld ?_ ?_;rotate_left;(intro w' hS_;obtain⟨s0,s1,s2,s3,s4,s5⟩:=hS_;go_simp;with_reducible rfl);rotate_left;(simp only [Act.put,List.setIfInBounds_toArray,List.set_cons_zero,List.set_cons_succ,i64_w,i32_w];rfl)))
                refine one_ (i:=15) (N:=(some 245)) (pm 16 3) rfl rfl (by kernel_rfl) (by decide) (fun K hK=>?_)
                refine step_run (v:=.slice (some ⟨wq.heap.size,0,none⟩) 1 1) (w1:=wq.alloc (.cells #[.int .i64 (rdI numS x0),.int .i64 x1,.int .i64 (rdI numS x2)] 40)) rfl (by go_simp) ?_
                clear hHeld
                refine hK.out _ _ ⟨(blk_cell (blk_old HO.out.t (.cells #[.int .i64 (rdI numS x0),.int .i64 x1,.int .i64 (rdI numS x2)] 40)) 6).trans rfl,(blk_cell (blk_old HX.out (.cells #[.int .i64 (rdI numS x0),.int .i64 x1,.int .i64 (rdI numS x2)] 40)) 0).trans rfl,(blk_cell (blk_old HX.out (.cells #[.int .i64 (rdI numS x0),.int .i64 x1,.int .i64 (rdI numS x2)] 40)) 1).trans rfl,(blk_cell (blk_old HX.out (.cells #[.int .i64 (rdI numS x0),.int .i64 x1,.int .i64 (rdI numS x2)] 40)) 2).trans rfl,below_cell (below_alloc HO.out.b (.cells #[.int .i64 (rdI numS x0),.int .i64 x1,.int .i64 (rdI numS x2)] 40)) Cx0.out,below_cell (below_alloc HO.out.b (.cells #[.int .i64 (rdI numS x0),.int .i64 x1,.int .i64 (rdI numS x2)] 40)) Cx2.out⟩ (fun hHeld=>?_)
                clear hK K
                refine norm_ (a':=?_) ?_ ?_
                rotate_left
                ·show Act.put _ (some 245) _ = _
                 simp only [Act.put,List.setIfInBounds_toArray,List.set_cons_zero,List.set_cons_succ,i64_w,i32_w]
                 rfl
                refine one_ (i:=16) (N:=(some 246)) (pm 17 2) rfl rfl (by kernel_rfl) (by decide) (fun K hK=>?_)
                refine Kd.R_append_step k40 (w0:=wO) wO.heap.size rfl (.tmp 231) (.tmp 245) 28 40 (.agg #[.int .i64 0,.int .i64 0,.int .i64 0]) 24 rfl Tryz.underlying28 infoInner rfl (by decide) (by decide) vj (trimI st numS (l6.take i)) ((⟨rdI numS x0,x1,rdI numS x2⟩:TInner)) [.int .i64 (rdI numS x0),.int .i64 x1,.int .i64 (rdI numS x2)] (fun k=>some k=(vj:Value).ownBlock∨wq.heap.size≤k) (fun _=>False) rfl rfl (k40_mkM _ _ _ _) (fun _ h=>h.elim) (fun k h=>.inr h) (Kd.R_mono HO.out.r6 (fun k h=>.inl h)) HO.out.b HO.out.b.size ?ql ?_
                case ql=>have h1:=HI6.out.2.2;have h2:((trimI st numS (l6.take i))).length≤l6.length:=(by unfold trimI;rw [List.length_map];exact Nat.le_trans (List.length_filter_le _ _) (by rw [List.length_take];omega));omega
                intro v1 w1 hr1 hb1 hg1 hat1
                obtain⟨A1,m1,k1,rfl⟩:=slice3 hr1
                have HO1:=Aside0.mk (HO.out.app6 hr1 hb1 hg1 hat1)
                have HT1:=Aside0.mk (blk_grown HO.out.t hg1 (Kd.R_ne HO.out.r6 HO.out.t (by decide)))
                have HX1:=Aside0.mk (blk_grown HX.out hg1 HVN.out)
                have HB1:=Aside0.mk hb1
                clear hr1 hb1 hg1 hat1 HO HX
                clear hHeld
                refine hK.out _ _ ⟨(blk_cell HT1.out 6).trans rfl,(blk_cell HX1.out 0).trans rfl,(blk_cell HX1.out 1).trans rfl,(blk_cell HX1.out 2).trans rfl,below_cell HB1.out Cx0.out,below_cell HB1.out Cx2.out⟩ (fun hHeld=>?_)
                clear hK K
                refine norm_ (a':=?_) ?_ ?_
                rotate_left
                ·show Act.put _ (some 246) _ = _
                 simp only [Act.put,List.setIfInBounds_toArray,List.set_cons_zero,List.set_cons_succ,i64_w,i32_w]
                 rfl
                refine pn_ (v:=?_) (a':=?_) rfl (rfl (a:=some _)) (by kernel_rfl) (fun _ _ _ h=>h) (Or.inl ⟨by rfl,?_⟩) ?_ ?_;rotate_left;(intro w';go_simp;with_reducible rfl);rotate_left;(simp only [Act.put,List.setIfInBounds_toArray,List.set_cons_zero,List.set_cons_succ,i64_w,i32_w];rfl)
                refine last_ (i:=18) (N:=none) (pm 19 0) rfl rfl (by kernel_rfl) (by decide) (fun K hK=>?_)
                have hc2:=(blk_cell HT1.out 6).trans (show (#[Value.int .i64 cS,.int .i64 gG,v2,v3,v4,v5,vj]:Array Value)[6]? = some vj from rfl)
                have hf2:=blk_frozen HT1.out 6
                refine Go.Proofs.YtejpijgfpbcibaaGreat.M.step_skip (w1:=w1.setCell ⟨go,6,none⟩ (.slice A1 m1 k1)) rfl rfl (by go_simp) ?_
                clear hc2 hf2 HT1 HB1 hHeld HX1
                refine hK.out _ _ ?_
                clear hK K
                obtain⟨wd,hwd⟩:∃wd:World,wd=w1.setCell ⟨go,6,none⟩ (.slice A1 m1 k1):=⟨_,rfl⟩
                rw [←hwd] at HO1 ⊢
                clear hwd
                have HO:=HO1
                clear HO1
                clear w1
                try clear wq
                obtain⟨wq,rfl⟩:∃wq:World,wq=wd:=⟨_,rfl⟩
                refine done_ (by kernel_rfl) ?_
                go_wp2
                go_roundg (l6.length - (i+1))
                case measure=>have:=Hi.out;have:=HLT.out;omega
                case rel=>exact⟨i+1,_,by first|rfl|rw [show wrap64 ((i:Int)+1)=((i+1:Nat):Int) by have:=HLT.out;have:=HI6.out.2.2;unfold wrap64;omega],⟨HLT.out,Nat.le_refl _⟩,⟨by rw [HNy.out HC.out];exact HO.out⟩⟩
            ·have hlt := Classical.not_not.1 hlt
             have HLT:=Aside0.mk hlt
             obtain⟨ad,eA,k0,k1,k2,k3⟩:=at_T38 (Kd.C_below HI5.out.1 HBq.out) (i:Int) (by omega) (by omega)
             have hrd:rd_T38 l5 (i:Int)=l5[i]:=by unfold rd_T38;rw [Int.toNat_natCast,List.getD_eq_getElem?_getD,List.getElem?_eq_getElem hlt];rfl
             rw [hrd,Int.toNat_natCast] at k0 k1 k2 k3
             have HNy:Aside0 ((rdB st (l5[i]).f0 && (decide ((l5[i]).f2=0) || rdB mk (l5[i]).f2))=true→(trimC st mk numS numM (l5.take (i+1)))=(trimC st mk numS numM (l5.take i)) ++ [(⟨rdI numS (l5[i]).f0,(l5[i]).f1,rdI numM (l5[i]).f2,rdI numS (l5[i]).f3⟩:TClose)]):=⟨fun hp=>by unfold trimC;exact fm_yes _ _ l5 i hlt hp⟩
             have HNn:Aside0 (¬(rdB st (l5[i]).f0 && (decide ((l5[i]).f2=0) || rdB mk (l5[i]).f2))=true→(trimC st mk numS numM (l5.take (i+1)))=(trimC st mk numS numM (l5.take i))):=⟨fun hp=>by unfold trimC;exact fm_no _ _ l5 i hlt hp⟩
             have HIN:=HOK.out.c l5[i] (List.getElem_mem hlt)
             generalize l5[i]=x at HNy HNn HIN k0 k1 k2 k3
             obtain⟨x0,x1,x2,x3⟩:=x
             clear hrd
             simp only at HIN
             have hns:=HNS.out.1
             have hnm:=HNS.out.2
             have hn0:=HOK.out.n0
             have hg0:=HOK.out.g0
             have hl1:=HLN.out.1
             have hl2:=HLN.out.2
             have pzx0:(0:Int)≤x0:=by omega
             have qzx0:x0 < (ns:Int):=by omega
             obtain⟨a_,e_,h_⟩:=num_at HN1o.out x0 pzx0 (by omega)
             obtain⟨aS,e2_⟩:∃a,a=a_:=⟨_,rfl⟩
             subst e2_
             subst e_
             have Cx0:=Aside0.mk h_
             clear h_
             have pzx2:(0:Int)≤x2:=by omega
             have qzx2:x2 < (nm:Int):=by omega
             obtain⟨a_,e_,h_⟩:=num_at HN2o.out x2 pzx2 (by omega)
             obtain⟨aM,e2_⟩:∃a,a=a_:=⟨_,rfl⟩
             subst e2_
             subst e_
             have Cx2:=Aside0.mk h_
             clear h_
             have pzx3:(0:Int)≤x3:=by omega
             have qzx3:x3 < (ns:Int):=by omega
             obtain⟨a_,e_,h_⟩:=num_at HN1o.out x3 pzx3 (by omega)
             cases e_
             have Cx3:=Aside0.mk h_
             clear h_
             have t1:=eq_true hlt
             have t2:=eq_true (show (0:Int)≤(i:Int) by omega)
             have t3:=eq_true (show (i:Int) < (l5.length:Int) by omega)
             subst eA
             clear hlt
             have HVN:Aside0 (some wq.heap.size≠(vj:Value).ownBlock):=⟨fun e=>by have:=Kd.R_lt HO.out.r5 _ e.symm;omega⟩
             have HX:Aside0 ((wq.alloc (.cells #[.int .i64 x0,.int .i64 x1,.int .i64 x2,.int .i64 x3] 38)).heap[wq.heap.size]? = some (.cells #[.int .i64 x0,.int .i64 x1,.int .i64 x2,.int .i64 x3] 38 (0,0))):=⟨blk_newAt _ rfl⟩
             have HO1:=Aside0.mk (HO.out.below (below_alloc (Below.refl _ wq) (.cells #[.int .i64 x0,.int .i64 x1,.int .i64 x2,.int .i64 x3] 38)))
             clear HO
             go_upto_region 35 with (fail)
             obtain⟨wv,hwv⟩:∃wv:World,wv=wq.alloc (.cells #[.int .i64 x0,.int .i64 x1,.int .i64 x2,.int .i64 x3] 38):=⟨_,rfl⟩
             rw [←hwv] at HX HO1 ⊢
             generalize wq.heap.size=vb at HX HVN ⊢
             clear hwv t1 t2 t3 HAq HBq k0 k1 k2 k3
             clear wq
             obtain⟨wq,rfl⟩:∃wq:World,wq=wv:=⟨_,rfl⟩
             have HO:=HO1
             clear HO1
             have hy0:=(Kd.R_celln false (TrimR.then_ HEo.out.T HO.out.b).s x0 pzx0 qzx0).1
             obtain⟨bx,hbx⟩:∃b:Bool,b=rdOf false st x0:=⟨_,rfl⟩
             rw [←hbx] at hy0
             have HBX:Aside0 (bx=rdB st x0):=⟨hbx⟩
             clear hbx
             have Y0:=Aside0.mk hy0
             clear hy0
             have G0:Aside0 (wq.cell? ⟨gt,0,none⟩=some (Value.slice (some ⟨bs,0,none⟩) ns cs)):=⟨(blk_cell (TrimR.then_ HEo.out.T HO.out.b).t 0).trans rfl⟩
             have G1:Aside0 (wq.cell? ⟨gt,1,none⟩=some (Value.slice (some ⟨bm,0,none⟩) nm cm)):=⟨(blk_cell (TrimR.then_ HEo.out.T HO.out.b).t 1).trans rfl⟩
             have X0:Aside0 (wq.cell? ⟨vb,0,none⟩=some (.int .i64 x0)):=⟨(blk_cell HX.out 0).trans rfl⟩
             have X1:Aside0 (wq.cell? ⟨vb,1,none⟩=some (.int .i64 x1)):=⟨(blk_cell HX.out 1).trans rfl⟩
             have X2:Aside0 (wq.cell? ⟨vb,2,none⟩=some (.int .i64 x2)):=⟨(blk_cell HX.out 2).trans rfl⟩
             have X3:Aside0 (wq.cell? ⟨vb,3,none⟩=some (.int .i64 x3)):=⟨(blk_cell HX.out 3).trans rfl⟩
             have hy2:=(Kd.R_celln false (TrimR.then_ HEo.out.T HO.out.b).m x2 pzx2 qzx2).1
             obtain⟨by_,hby⟩:∃b:Bool,b=rdOf false mk x2:=⟨_,rfl⟩
             rw [←hby] at hy2
             have HBY:Aside0 (by_=rdB mk x2):=⟨hby⟩
             clear hby
             have Y2:=Aside0.mk hy2
             clear hy2
             have px0:=eq_true pzx0
             have qx0:=eq_true qzx0
             clear pzx0 qzx0
             have px2:=eq_true pzx2
             have qx2:=eq_true qzx2
             clear pzx2 qzx2
             have px3:=eq_true pzx3
             have qx3:=eq_true qzx3
             clear pzx3 qzx3
             clear HIN hns hnm hn0 hg0 hl1 hl2
             refine start_ (n:=23) (S:=fun w'=>w'.cell? ⟨gt,0,none⟩=some (Value.slice (some ⟨bs,0,none⟩) ns cs)∧w'.cell? ⟨gt,1,none⟩=some (Value.slice (some ⟨bm,0,none⟩) nm cm)∧w'.cell? ⟨bs,x0.toNat,none⟩=some (.bool bx)∧w'.cell? ⟨bm,x2.toNat,none⟩=some (.bool by_)∧w'.cell? ⟨vb,0,none⟩=some (.int .i64 x0)∧w'.cell? ⟨vb,2,none⟩=some (.int .i64 x2)) (ds:=[]) (pm 0 23) (by kernel_rfl) rfl rfl ⟨below_cell (below_drew (Below.refl _ _)) G0.out,below_cell (below_drew (Below.refl _ _)) G1.out,below_cell (below_drew (Below.refl _ _)) Y0.out,below_cell (below_drew (Below.refl _ _)) Y2.out,below_cell (below_drew (Below.refl _ _)) X0.out,below_cell (below_drew (Below.refl _ _)) X2.out⟩ (fun hHeld=>?_)
             have HO1:=Aside0.mk (HO.out.below (below_drew (Below.refl _ _)))
             have HX1:=Aside0.mk (blk_drew HX.out)
             clear HO HX G0 G1 Y0 X0 X1 X2 X3 Y2
             have HO:=HO1
             have HX:=HX1
             clear HO1 HX1
             obtain⟨wd,hwd⟩:∃wd:World,wd=wq.drew:=⟨_,rfl⟩
             rw [←hwd] at HO HX hHeld ⊢
             clear hwd
             try clear wq
             obtain⟨wq,rfl⟩:∃wq:World,wq=wd:=⟨_,rfl⟩
             iterate 8 (first|(refine pn_ (v:=?_) (a':=?_) rfl (rfl (a:=some _)) (by kernel_rfl) (fun _ _ _ h=>h) (Or.inl ⟨by rfl,?_⟩) ?_ ?_;rotate_left;(intro w';go_simp;with_reducible rfl);rotate_left;(simp only [Act.put,List.setIfInBounds_toArray,List.set_cons_zero,List.set_cons_succ,i64_w,i32_w];rfl))|(refine tn_ (v:=?_) (a':=?_) rfl (rfl (a:=some _)) (by kernel_rfl) (fun _ _ _ h=>h) (Or.inl ⟨by rfl,?_⟩) hHeld ?_ ?_;rotate_left;(intro w' hS_;obtain⟨s0,s1,s2,s3,s4,s5⟩:=hS_;go_simp;with_reducible rfl);rotate_left;(simp only [Act.put,List.setIfInBounds_toArray,List.set_cons_zero,List.set_cons_succ,i64_w,i32_w];rfl)))
             cases bx with
             | false=>
              refine pn_ (v:=?_) (a':=?_) rfl (rfl (a:=some _)) (by kernel_rfl) (fun _ _ _ h=>h) (Or.inl ⟨by rfl,?_⟩) ?_ ?_;rotate_left;(intro w';go_simp;with_reducible rfl);rotate_left;(simp only [Act.put,List.setIfInBounds_toArray,List.set_cons_zero,List.set_cons_succ,i64_w,i32_w];rfl)
              iterate 13 (refine pn_ (v:=undef) (a':=?_) rfl (rfl (a:=some _)) (by kernel_rfl) (fun _ _ _ h=>h) (Or.inr ⟨by rfl,rfl⟩) ?_ ?_;rotate_left;(simp only [Act.put,List.setIfInBounds_toArray,List.set_cons_zero,List.set_cons_succ,i64_w,i32_w];rfl))
              refine pn_ (v:=?_) (a':=?_) rfl (rfl (a:=some _)) (by kernel_rfl) (fun _ _ _ h=>h) (Or.inl ⟨by rfl,?_⟩) ?_ ?_;rotate_left;(intro w';go_simp;with_reducible rfl);rotate_left;(simp only [Act.put,List.setIfInBounds_toArray,List.set_cons_zero,List.set_cons_succ,i64_w,i32_w];rfl)
              refine done_ (by kernel_rfl) ?_
              clear hHeld
              have HC:Aside0 (¬(rdB st x0 && (decide (x2=0) || rdB mk x2))=true):=⟨by rw [←HBX.out];simp⟩
              go_wp2
              go_roundg (l5.length - (i+1))
              case measure=>have:=Hi.out;have:=HLT.out;omega
              case rel=>exact⟨i+1,vj,by first|rfl|rw [show wrap64 ((i:Int)+1)=((i+1:Nat):Int) by have:=HLT.out;have:=HI5.out.2.2;unfold wrap64;omega],⟨HLT.out,Nat.le_refl _⟩,⟨by rw [HNn.out HC.out];exact HO.out⟩⟩
             | true=>
              by_cases hx:x2=0
              ·have HC : Aside0 ((rdB st x0 && (decide (x2 = 0) || rdB mk x2)) = true) := ⟨by rw [← HBX.out, decide_eq_true hx]; rfl⟩
               have z1:=eq_true hx
               have z2:(x2 == 0)=true:=beq_iff_eq.2 hx
               clear hx
               iterate 5 (first|(refine pn_ (v:=?_) (a':=?_) rfl (rfl (a:=some _)) (by kernel_rfl) (fun _ _ _ h=>h) (Or.inl ⟨by rfl,?_⟩) ?_ ?_;rotate_left;(intro w';go_simp;with_reducible rfl);rotate_left;(simp only [Act.put,List.setIfInBounds_toArray,List.set_cons_zero,List.set_cons_succ,i64_w,i32_w];rfl))|(refine tn_ (v:=?_) (a':=?_) rfl (rfl (a:=some _)) (by kernel_rfl) (fun _ _ _ h=>h) (Or.inl ⟨by rfl,?_⟩) hHeld ?_ ?_;rotate_left;(intro w' hS_;obtain⟨s0,s1,s2,s3,s4,s5⟩:=hS_;go_simp;with_reducible rfl);rotate_left;(simp only [Act.put,List.setIfInBounds_toArray,List.set_cons_zero,List.set_cons_succ,i64_w,i32_w];rfl)))
               iterate 8 (refine pn_ (v:=undef) (a':=?_) rfl (rfl (a:=some _)) (by kernel_rfl) (fun _ _ _ h=>h) (Or.inr ⟨by rfl,rfl⟩) ?_ ?_;rotate_left;(simp only [Act.put,List.setIfInBounds_toArray,List.set_cons_zero,List.set_cons_succ,i64_w,i32_w];rfl))
               iterate 2 (refine pn_ (v:=?_) (a':=?_) rfl (rfl (a:=some _)) (by kernel_rfl) (fun _ _ _ h=>h) (Or.inl ⟨by rfl,?_⟩) ?_ ?_;rotate_left;(intro w';go_simp;with_reducible rfl);rotate_left;(simp only [Act.put,List.setIfInBounds_toArray,List.set_cons_zero,List.set_cons_succ,i64_w,i32_w];rfl))
               refine done_ (by kernel_rfl) ?_
               clear hHeld z1 z2
               go_upto_region 36 with (fail)
               refine start_ (n:=24) (S:=fun w'=>w'.cell? ⟨go,5,none⟩=some vj∧w'.cell? ⟨vb,0,none⟩=some (.int .i64 x0)∧w'.cell? ⟨vb,1,none⟩=some (.int .i64 x1)∧w'.cell? ⟨vb,2,none⟩=some (.int .i64 x2)∧w'.cell? ⟨vb,3,none⟩=some (.int .i64 x3)∧w'.cell? (aS.add x0.toNat)=some (.int .i64 (rdI numS x0))∧w'.cell? (aM.add x2.toNat)=some (.int .i64 (rdI numM x2))∧w'.cell? (aS.add x3.toNat)=some (.int .i64 (rdI numS x3))) (ds:=[23]) (pm 0 24) (by kernel_rfl) rfl rfl ⟨(blk_cell (blk_drew HO.out.t) 5).trans rfl,(blk_cell (blk_drew HX.out) 0).trans rfl,(blk_cell (blk_drew HX.out) 1).trans rfl,(blk_cell (blk_drew HX.out) 2).trans rfl,(blk_cell (blk_drew HX.out) 3).trans rfl,below_cell (below_drew HO.out.b) Cx0.out,below_cell (below_drew HO.out.b) Cx2.out,below_cell (below_drew HO.out.b) Cx3.out⟩ (fun hHeld=>?_)
               have HO1:=Aside0.mk (HO.out.below (below_drew (Below.refl _ _)))
               have HX1:=Aside0.mk (blk_drew HX.out)
               clear HO HX
               try clear HAq
               try clear HBq
               have HO:=HO1
               clear HO1
               have HX:=HX1
               clear HX1
               obtain⟨wd,hwd⟩:∃wd:World,wd=wq.drew:=⟨_,rfl⟩
               rw [←hwd] at HO HX hHeld ⊢
               clear hwd
               try clear wq
               obtain⟨wq,rfl⟩:∃wq:World,wq=wd:=⟨_,rfl⟩
               iterate 20 (first|(refine pn_ (v:=?_) (a':=?_) rfl (rfl (a:=some _)) (by kernel_rfl) (fun _ _ _ h=>h) (Or.inl ⟨by rfl,?_⟩) ?_ ?_;rotate_left;(intro w';go_simp;with_reducible rfl);rotate_left;(simp only [Act.put,List.setIfInBounds_toArray,List.set_cons_zero,List.set_cons_succ,i64_w,i32_w];rfl))|(refine tn_ (v:=?_) (a':=?_) rfl (rfl (a:=some _)) (by kernel_rfl) (fun _ _ _ h=>h) (Or.inl ⟨by rfl,?_⟩) hHeld ?_ ?_;rotate_left;(intro w' hS_;obtain⟨s0,s1,s2,s3,s4,s5,s6,s7⟩:=hS_;go_simp;with_reducible rfl);rotate_left;(simp only [Act.put,List.setIfInBounds_toArray,List.set_cons_zero,List.set_cons_succ,i64_w,i32_w];rfl)))
               refine one_ (i:=20) (N:=(some 211)) (pm 21 3) rfl rfl (by kernel_rfl) (by decide) (fun K hK=>?_)
               refine step_run (v:=.slice (some ⟨wq.heap.size,0,none⟩) 1 1) (w1:=wq.alloc (.cells #[.int .i64 (rdI numS x0),.int .i64 x1,.int .i64 (rdI numM x2),.int .i64 (rdI numS x3)] 38)) rfl (by go_simp) ?_
               clear hHeld
               refine hK.out _ _ ⟨(blk_cell (blk_old HO.out.t (.cells #[.int .i64 (rdI numS x0),.int .i64 x1,.int .i64 (rdI numM x2),.int .i64 (rdI numS x3)] 38)) 5).trans rfl,(blk_cell (blk_old HX.out (.cells #[.int .i64 (rdI numS x0),.int .i64 x1,.int .i64 (rdI numM x2),.int .i64 (rdI numS x3)] 38)) 0).trans rfl,(blk_cell (blk_old HX.out (.cells #[.int .i64 (rdI numS x0),.int .i64 x1,.int .i64 (rdI numM x2),.int .i64 (rdI numS x3)] 38)) 1).trans rfl,(blk_cell (blk_old HX.out (.cells #[.int .i64 (rdI numS x0),.int .i64 x1,.int .i64 (rdI numM x2),.int .i64 (rdI numS x3)] 38)) 2).trans rfl,(blk_cell (blk_old HX.out (.cells #[.int .i64 (rdI numS x0),.int .i64 x1,.int .i64 (rdI numM x2),.int .i64 (rdI numS x3)] 38)) 3).trans rfl,below_cell (below_alloc HO.out.b (.cells #[.int .i64 (rdI numS x0),.int .i64 x1,.int .i64 (rdI numM x2),.int .i64 (rdI numS x3)] 38)) Cx0.out,below_cell (below_alloc HO.out.b (.cells #[.int .i64 (rdI numS x0),.int .i64 x1,.int .i64 (rdI numM x2),.int .i64 (rdI numS x3)] 38)) Cx2.out,below_cell (below_alloc HO.out.b (.cells #[.int .i64 (rdI numS x0),.int .i64 x1,.int .i64 (rdI numM x2),.int .i64 (rdI numS x3)] 38)) Cx3.out⟩ (fun hHeld=>?_)
               clear hK K
               refine norm_ (a':=?_) ?_ ?_
               rotate_left
               ·show Act.put _ (some 211) _ = _
                simp only [Act.put,List.setIfInBounds_toArray,List.set_cons_zero,List.set_cons_succ,i64_w,i32_w]
                rfl
               refine one_ (i:=21) (N:=(some 212)) (pm 22 2) rfl rfl (by kernel_rfl) (by decide) (fun K hK=>?_)
               refine Kd.R_append_step k38 (w0:=wO) wO.heap.size rfl (.tmp 192) (.tmp 211) 27 38 (.agg #[.int .i64 0,.int .i64 0,.int .i64 0,.int .i64 0]) 32 rfl Tryz.underlying27 infoClose rfl (by decide) (by decide) vj (trimC st mk numS numM (l5.take i)) ((⟨rdI numS x0,x1,rdI numM x2,rdI numS x3⟩:TClose)) [.int .i64 (rdI numS x0),.int .i64 x1,.int .i64 (rdI numM x2),.int .i64 (rdI numS x3)] (fun k=>some k=(vj:Value).ownBlock∨wq.heap.size≤k) (fun _=>False) rfl rfl (k38_mkM _ _ _ _) (fun _ h=>h.elim) (fun k h=>.inr h) (Kd.R_mono HO.out.r5 (fun k h=>.inl h)) HO.out.b HO.out.b.size ?ql ?_
               case ql=>have h1:=HI5.out.2.2;have h2:((trimC st mk numS numM (l5.take i))).length≤l5.length:=(by unfold trimC;rw [List.length_map];exact Nat.le_trans (List.length_filter_le _ _) (by rw [List.length_take];omega));omega
               intro v1 w1 hr1 hb1 hg1 hat1
               obtain⟨A1,m1,k1,rfl⟩:=slice3 hr1
               have HO1:=Aside0.mk (HO.out.app5 hr1 hb1 hg1 hat1)
               have HT1:=Aside0.mk (blk_grown HO.out.t hg1 (Kd.R_ne HO.out.r5 HO.out.t (by decide)))
               have HX1:=Aside0.mk (blk_grown HX.out hg1 HVN.out)
               have HB1:=Aside0.mk hb1
               clear hr1 hb1 hg1 hat1 HO HX
               clear hHeld
               refine hK.out _ _ ⟨(blk_cell HT1.out 5).trans rfl,(blk_cell HX1.out 0).trans rfl,(blk_cell HX1.out 1).trans rfl,(blk_cell HX1.out 2).trans rfl,(blk_cell HX1.out 3).trans rfl,below_cell HB1.out Cx0.out,below_cell HB1.out Cx2.out,below_cell HB1.out Cx3.out⟩ (fun hHeld=>?_)
               clear hK K
               refine norm_ (a':=?_) ?_ ?_
               rotate_left
               ·show Act.put _ (some 212) _ = _
                simp only [Act.put,List.setIfInBounds_toArray,List.set_cons_zero,List.set_cons_succ,i64_w,i32_w]
                rfl
               refine pn_ (v:=?_) (a':=?_) rfl (rfl (a:=some _)) (by kernel_rfl) (fun _ _ _ h=>h) (Or.inl ⟨by rfl,?_⟩) ?_ ?_;rotate_left;(intro w';go_simp;with_reducible rfl);rotate_left;(simp only [Act.put,List.setIfInBounds_toArray,List.set_cons_zero,List.set_cons_succ,i64_w,i32_w];rfl)
               refine last_ (i:=23) (N:=none) (pm 24 0) rfl rfl (by kernel_rfl) (by decide) (fun K hK=>?_)
               have hc2:=(blk_cell HT1.out 5).trans (show (#[Value.int .i64 cS,.int .i64 gG,v2,v3,v4,vj,(Value.slice none 0 0)]:Array Value)[5]? = some vj from rfl)
               have hf2:=blk_frozen HT1.out 5
               refine Go.Proofs.YtejpijgfpbcibaaGreat.M.step_skip (w1:=w1.setCell ⟨go,5,none⟩ (.slice A1 m1 k1)) rfl rfl (by go_simp) ?_
               clear hc2 hf2 HT1 HB1 hHeld HX1
               refine hK.out _ _ ?_
               clear hK K
               obtain⟨wd,hwd⟩:∃wd:World,wd=w1.setCell ⟨go,5,none⟩ (.slice A1 m1 k1):=⟨_,rfl⟩
               rw [←hwd] at HO1 ⊢
               clear hwd
               have HO:=HO1
               clear HO1
               clear w1
               try clear wq
               obtain⟨wq,rfl⟩:∃wq:World,wq=wd:=⟨_,rfl⟩
               refine done_ (by kernel_rfl) ?_
               go_wp2
               go_roundg (l5.length - (i+1))
               case measure=>have:=Hi.out;have:=HLT.out;omega
               case rel=>exact⟨i+1,_,by first|rfl|rw [show wrap64 ((i:Int)+1)=((i+1:Nat):Int) by have:=HLT.out;have:=HI5.out.2.2;unfold wrap64;omega],⟨HLT.out,Nat.le_refl _⟩,⟨by rw [HNy.out HC.out];exact HO.out⟩⟩
              ·have HX0 := Aside0.mk hx
               have z1:=eq_false hx
               have z2:(x2 == 0)=false:=beq_eq_false_iff_ne.2 hx
               clear hx
               iterate 15 (first|(refine pn_ (v:=?_) (a':=?_) rfl (rfl (a:=some _)) (by kernel_rfl) (fun _ _ _ h=>h) (Or.inl ⟨by rfl,?_⟩) ?_ ?_;rotate_left;(intro w';go_simp;with_reducible rfl);rotate_left;(simp only [Act.put,List.setIfInBounds_toArray,List.set_cons_zero,List.set_cons_succ,i64_w,i32_w];rfl))|(refine tn_ (v:=?_) (a':=?_) rfl (rfl (a:=some _)) (by kernel_rfl) (fun _ _ _ h=>h) (Or.inl ⟨by rfl,?_⟩) hHeld ?_ ?_;rotate_left;(intro w' hS_;obtain⟨s0,s1,s2,s3,s4,s5⟩:=hS_;go_simp;with_reducible rfl);rotate_left;(simp only [Act.put,List.setIfInBounds_toArray,List.set_cons_zero,List.set_cons_succ,i64_w,i32_w];rfl)))
               refine done_ (by kernel_rfl) ?_
               clear hHeld z1 z2
               cases by_ with
               | false=>
                have HC:Aside0 (¬(rdB st x0 && (decide (x2=0) || rdB mk x2))=true):=⟨by rw [←HBX.out,←HBY.out,decide_eq_false HX0.out];simp⟩
                go_wp2
                go_roundg (l5.length - (i+1))
                case measure=>have:=Hi.out;have:=HLT.out;omega
                case rel=>exact⟨i+1,vj,by first|rfl|rw [show wrap64 ((i:Int)+1)=((i+1:Nat):Int) by have:=HLT.out;have:=HI5.out.2.2;unfold wrap64;omega],⟨HLT.out,Nat.le_refl _⟩,⟨by rw [HNn.out HC.out];exact HO.out⟩⟩
               | true=>
                have HC:Aside0 ((rdB st x0 && (decide (x2=0) || rdB mk x2))=true):=⟨by rw [←HBX.out,←HBY.out];simp⟩
                go_upto_region 36 with (fail)
                refine start_ (n:=24) (S:=fun w'=>w'.cell? ⟨go,5,none⟩=some vj∧w'.cell? ⟨vb,0,none⟩=some (.int .i64 x0)∧w'.cell? ⟨vb,1,none⟩=some (.int .i64 x1)∧w'.cell? ⟨vb,2,none⟩=some (.int .i64 x2)∧w'.cell? ⟨vb,3,none⟩=some (.int .i64 x3)∧w'.cell? (aS.add x0.toNat)=some (.int .i64 (rdI numS x0))∧w'.cell? (aM.add x2.toNat)=some (.int .i64 (rdI numM x2))∧w'.cell? (aS.add x3.toNat)=some (.int .i64 (rdI numS x3))) (ds:=[23]) (pm 0 24) (by kernel_rfl) rfl rfl ⟨(blk_cell (blk_drew HO.out.t) 5).trans rfl,(blk_cell (blk_drew HX.out) 0).trans rfl,(blk_cell (blk_drew HX.out) 1).trans rfl,(blk_cell (blk_drew HX.out) 2).trans rfl,(blk_cell (blk_drew HX.out) 3).trans rfl,below_cell (below_drew HO.out.b) Cx0.out,below_cell (below_drew HO.out.b) Cx2.out,below_cell (below_drew HO.out.b) Cx3.out⟩ (fun hHeld=>?_)
                have HO1:=Aside0.mk (HO.out.below (below_drew (Below.refl _ _)))
                have HX1:=Aside0.mk (blk_drew HX.out)
                clear HO HX
                try clear HAq
                try clear HBq
                have HO:=HO1
                clear HO1
                have HX:=HX1
                clear HX1
                obtain⟨wd,hwd⟩:∃wd:World,wd=wq.drew:=⟨_,rfl⟩
                rw [←hwd] at HO HX hHeld ⊢
                clear hwd
                try clear wq
                obtain⟨wq,rfl⟩:∃wq:World,wq=wd:=⟨_,rfl⟩
                iterate 20 (first|(refine pn_ (v:=?_) (a':=?_) rfl (rfl (a:=some _)) (by kernel_rfl) (fun _ _ _ h=>h) (Or.inl ⟨by rfl,?_⟩) ?_ ?_;rotate_left;(intro w';go_simp;with_reducible rfl);rotate_left;(simp only [Act.put,List.setIfInBounds_toArray,List.set_cons_zero,List.set_cons_succ,i64_w,i32_w];rfl))|(refine tn_ (v:=?_) (a':=?_) rfl (rfl (a:=some _)) (by kernel_rfl) (fun _ _ _ h=>h) (Or.inl ⟨by rfl,?_⟩) hHeld ?_ ?_;rotate_left;(intro w' hS_;obtain⟨s0,s1,s2,s3,s4,s5,s6,s7⟩:=hS_;go_simp;with_reducible rfl);rotate_left;(simp only [Act.put,List.setIfInBounds_toArray,List.set_cons_zero,List.set_cons_succ,i64_w,i32_w];rfl)))
                refine one_ (i:=20) (N:=(some 211)) (pm 21 3) rfl rfl (by kernel_rfl) (by decide) (fun K hK=>?_)
                refine step_run (v:=.slice (some ⟨wq.heap.size,0,none⟩) 1 1) (w1:=wq.alloc (.cells #[.int .i64 (rdI numS x0),.int .i64 x1,.int .i64 (rdI numM x2),.int .i64 (rdI numS x3)] 38)) rfl (by go_simp) ?_
                clear hHeld
                refine hK.out _ _ ⟨(blk_cell (blk_old HO.out.t (.cells #[.int .i64 (rdI numS x0),.int .i64 x1,.int .i64 (rdI numM x2),.int .i64 (rdI numS x3)] 38)) 5).trans rfl,(blk_cell (blk_old HX.out (.cells #[.int .i64 (rdI numS x0),.int .i64 x1,.int .i64 (rdI numM x2),.int .i64 (rdI numS x3)] 38)) 0).trans rfl,(blk_cell (blk_old HX.out (.cells #[.int .i64 (rdI numS x0),.int .i64 x1,.int .i64 (rdI numM x2),.int .i64 (rdI numS x3)] 38)) 1).trans rfl,(blk_cell (blk_old HX.out (.cells #[.int .i64 (rdI numS x0),.int .i64 x1,.int .i64 (rdI numM x2),.int .i64 (rdI numS x3)] 38)) 2).trans rfl,(blk_cell (blk_old HX.out (.cells #[.int .i64 (rdI numS x0),.int .i64 x1,.int .i64 (rdI numM x2),.int .i64 (rdI numS x3)] 38)) 3).trans rfl,below_cell (below_alloc HO.out.b (.cells #[.int .i64 (rdI numS x0),.int .i64 x1,.int .i64 (rdI numM x2),.int .i64 (rdI numS x3)] 38)) Cx0.out,below_cell (below_alloc HO.out.b (.cells #[.int .i64 (rdI numS x0),.int .i64 x1,.int .i64 (rdI numM x2),.int .i64 (rdI numS x3)] 38)) Cx2.out,below_cell (below_alloc HO.out.b (.cells #[.int .i64 (rdI numS x0),.int .i64 x1,.int .i64 (rdI numM x2),.int .i64 (rdI numS x3)] 38)) Cx3.out⟩ (fun hHeld=>?_)
                clear hK K
                refine norm_ (a':=?_) ?_ ?_
                rotate_left
                ·show Act.put _ (some 211) _ = _
                 simp only [Act.put,List.setIfInBounds_toArray,List.set_cons_zero,List.set_cons_succ,i64_w,i32_w]
                 rfl
                refine one_ (i:=21) (N:=(some 212)) (pm 22 2) rfl rfl (by kernel_rfl) (by decide) (fun K hK=>?_)
                refine Kd.R_append_step k38 (w0:=wO) wO.heap.size rfl (.tmp 192) (.tmp 211) 27 38 (.agg #[.int .i64 0,.int .i64 0,.int .i64 0,.int .i64 0]) 32 rfl Tryz.underlying27 infoClose rfl (by decide) (by decide) vj (trimC st mk numS numM (l5.take i)) ((⟨rdI numS x0,x1,rdI numM x2,rdI numS x3⟩:TClose)) [.int .i64 (rdI numS x0),.int .i64 x1,.int .i64 (rdI numM x2),.int .i64 (rdI numS x3)] (fun k=>some k=(vj:Value).ownBlock∨wq.heap.size≤k) (fun _=>False) rfl rfl (k38_mkM _ _ _ _) (fun _ h=>h.elim) (fun k h=>.inr h) (Kd.R_mono HO.out.r5 (fun k h=>.inl h)) HO.out.b HO.out.b.size ?ql ?_
                case ql=>have h1:=HI5.out.2.2;have h2:((trimC st mk numS numM (l5.take i))).length≤l5.length:=(by unfold trimC;rw [List.length_map];exact Nat.le_trans (List.length_filter_le _ _) (by rw [List.length_take];omega));omega
                intro v1 w1 hr1 hb1 hg1 hat1
                obtain⟨A1,m1,k1,rfl⟩:=slice3 hr1
                have HO1:=Aside0.mk (HO.out.app5 hr1 hb1 hg1 hat1)
                have HT1:=Aside0.mk (blk_grown HO.out.t hg1 (Kd.R_ne HO.out.r5 HO.out.t (by decide)))
                have HX1:=Aside0.mk (blk_grown HX.out hg1 HVN.out)
                have HB1:=Aside0.mk hb1
                clear hr1 hb1 hg1 hat1 HO HX
                clear hHeld
                refine hK.out _ _ ⟨(blk_cell HT1.out 5).trans rfl,(blk_cell HX1.out 0).trans rfl,(blk_cell HX1.out 1).trans rfl,(blk_cell HX1.out 2).trans rfl,(blk_cell HX1.out 3).trans rfl,below_cell HB1.out Cx0.out,below_cell HB1.out Cx2.out,below_cell HB1.out Cx3.out⟩ (fun hHeld=>?_)
                clear hK K
                refine norm_ (a':=?_) ?_ ?_
                rotate_left
                ·show Act.put _ (some 212) _ = _
                 simp only [Act.put,List.setIfInBounds_toArray,List.set_cons_zero,List.set_cons_succ,i64_w,i32_w]
                 rfl
                refine pn_ (v:=?_) (a':=?_) rfl (rfl (a:=some _)) (by kernel_rfl) (fun _ _ _ h=>h) (Or.inl ⟨by rfl,?_⟩) ?_ ?_;rotate_left;(intro w';go_simp;with_reducible rfl);rotate_left;(simp only [Act.put,List.setIfInBounds_toArray,List.set_cons_zero,List.set_cons_succ,i64_w,i32_w];rfl)
                refine last_ (i:=23) (N:=none) (pm 24 0) rfl rfl (by kernel_rfl) (by decide) (fun K hK=>?_)
                have hc2:=(blk_cell HT1.out 5).trans (show (#[Value.int .i64 cS,.int .i64 gG,v2,v3,v4,vj,(Value.slice none 0 0)]:Array Value)[5]? = some vj from rfl)
                have hf2:=blk_frozen HT1.out 5
                refine Go.Proofs.YtejpijgfpbcibaaGreat.M.step_skip (w1:=w1.setCell ⟨go,5,none⟩ (.slice A1 m1 k1)) rfl rfl (by go_simp) ?_
                clear hc2 hf2 HT1 HB1 hHeld HX1
                refine hK.out _ _ ?_
                clear hK K
                obtain⟨wd,hwd⟩:∃wd:World,wd=w1.setCell ⟨go,5,none⟩ (.slice A1 m1 k1):=⟨_,rfl⟩
                rw [←hwd] at HO1 ⊢
                clear hwd
                have HO:=HO1
                clear HO1
                clear w1
                try clear wq
                obtain⟨wq,rfl⟩:∃wq:World,wq=wd:=⟨_,rfl⟩
                refine done_ (by kernel_rfl) ?_
                go_wp2
                go_roundg (l5.length - (i+1))
                case measure=>have:=Hi.out;have:=HLT.out;omega
                case rel=>exact⟨i+1,_,by first|rfl|rw [show wrap64 ((i:Int)+1)=((i+1:Nat):Int) by have:=HLT.out;have:=HI5.out.2.2;unfold wrap64;omega],⟨HLT.out,Nat.le_refl _⟩,⟨by rw [HNy.out HC.out];exact HO.out⟩⟩
          ·have hlt := Classical.not_not.1 hlt
           have HLT:=Aside0.mk hlt
           obtain⟨ad,eA,k0,k1,k2,k3⟩:=at_T36 (Kd.C_below HI4.out.1 HBq.out) (i:Int) (by omega) (by omega)
           have hrd:rd_T36 l4 (i:Int)=l4[i]:=by unfold rd_T36;rw [Int.toNat_natCast,List.getD_eq_getElem?_getD,List.getElem?_eq_getElem hlt];rfl
           rw [hrd,Int.toNat_natCast] at k0 k1 k2 k3
           have HNy:Aside0 (rdB st (l4[i]).f0=true→(trimO st numS numM (l4.take (i+1)))=(trimO st numS numM (l4.take i)) ++ [(⟨rdI numS (l4[i]).f0,(l4[i]).f1,rdI numS (l4[i]).f2,rdI numM (l4[i]).f3⟩:TOpen)]):=⟨fun hp=>by unfold trimO;exact fm_yes _ _ l4 i hlt hp⟩
           have HNn:Aside0 (¬rdB st (l4[i]).f0=true→(trimO st numS numM (l4.take (i+1)))=(trimO st numS numM (l4.take i))):=⟨fun hp=>by unfold trimO;exact fm_no _ _ l4 i hlt hp⟩
           have HIN:=HOK.out.o l4[i] (List.getElem_mem hlt)
           generalize l4[i]=x at HNy HNn HIN k0 k1 k2 k3
           obtain⟨x0,x1,x2,x3⟩:=x
           clear hrd
           simp only at HIN
           have hns:=HNS.out.1
           have hnm:=HNS.out.2
           have hn0:=HOK.out.n0
           have hg0:=HOK.out.g0
           have hl1:=HLN.out.1
           have hl2:=HLN.out.2
           have pzx0:(0:Int)≤x0:=by omega
           have qzx0:x0 < (ns:Int):=by omega
           obtain⟨a_,e_,h_⟩:=num_at HN1o.out x0 pzx0 (by omega)
           obtain⟨aS,e2_⟩:∃a,a=a_:=⟨_,rfl⟩
           subst e2_
           subst e_
           have Cx0:=Aside0.mk h_
           clear h_
           have pzx2:(0:Int)≤x2:=by omega
           have qzx2:x2 < (ns:Int):=by omega
           obtain⟨a_,e_,h_⟩:=num_at HN1o.out x2 pzx2 (by omega)
           cases e_
           have Cx2:=Aside0.mk h_
           clear h_
           have pzx3:(0:Int)≤x3:=by omega
           have qzx3:x3 < (nm:Int):=by omega
           obtain⟨a_,e_,h_⟩:=num_at HN2o.out x3 pzx3 (by omega)
           obtain⟨aM,e2_⟩:∃a,a=a_:=⟨_,rfl⟩
           subst e2_
           subst e_
           have Cx3:=Aside0.mk h_
           clear h_
           have t1:=eq_true hlt
           have t2:=eq_true (show (0:Int)≤(i:Int) by omega)
           have t3:=eq_true (show (i:Int) < (l4.length:Int) by omega)
           subst eA
           clear hlt
           have HVN:Aside0 (some wq.heap.size≠(vj:Value).ownBlock):=⟨fun e=>by have:=Kd.R_lt HO.out.r4 _ e.symm;omega⟩
           have HX:Aside0 ((wq.alloc (.cells #[.int .i64 x0,.int .i64 x1,.int .i64 x2,.int .i64 x3] 36)).heap[wq.heap.size]? = some (.cells #[.int .i64 x0,.int .i64 x1,.int .i64 x2,.int .i64 x3] 36 (0,0))):=⟨blk_newAt _ rfl⟩
           have HO1:=Aside0.mk (HO.out.below (below_alloc (Below.refl _ wq) (.cells #[.int .i64 x0,.int .i64 x1,.int .i64 x2,.int .i64 x3] 36)))
           clear HO
           go_upto_region 29 with (fail)
           obtain⟨wv,hwv⟩:∃wv:World,wv=wq.alloc (.cells #[.int .i64 x0,.int .i64 x1,.int .i64 x2,.int .i64 x3] 36):=⟨_,rfl⟩
           rw [←hwv] at HX HO1 ⊢
           generalize wq.heap.size=vb at HX HVN ⊢
           clear hwv t1 t2 t3 HAq HBq k0 k1 k2 k3
           clear wq
           obtain⟨wq,rfl⟩:∃wq:World,wq=wv:=⟨_,rfl⟩
           have HO:=HO1
           clear HO1
           have hy0:=(Kd.R_celln false (TrimR.then_ HEo.out.T HO.out.b).s x0 pzx0 qzx0).1
           obtain⟨bx,hbx⟩:∃b:Bool,b=rdOf false st x0:=⟨_,rfl⟩
           rw [←hbx] at hy0
           have HBX:Aside0 (bx=rdB st x0):=⟨hbx⟩
           clear hbx
           have Y0:=Aside0.mk hy0
           clear hy0
           have G0:Aside0 (wq.cell? ⟨gt,0,none⟩=some (Value.slice (some ⟨bs,0,none⟩) ns cs)):=⟨(blk_cell (TrimR.then_ HEo.out.T HO.out.b).t 0).trans rfl⟩
           have G1:Aside0 (wq.cell? ⟨gt,1,none⟩=some (Value.slice (some ⟨bm,0,none⟩) nm cm)):=⟨(blk_cell (TrimR.then_ HEo.out.T HO.out.b).t 1).trans rfl⟩
           have X0:Aside0 (wq.cell? ⟨vb,0,none⟩=some (.int .i64 x0)):=⟨(blk_cell HX.out 0).trans rfl⟩
           have X1:Aside0 (wq.cell? ⟨vb,1,none⟩=some (.int .i64 x1)):=⟨(blk_cell HX.out 1).trans rfl⟩
           have X2:Aside0 (wq.cell? ⟨vb,2,none⟩=some (.int .i64 x2)):=⟨(blk_cell HX.out 2).trans rfl⟩
           have X3:Aside0 (wq.cell? ⟨vb,3,none⟩=some (.int .i64 x3)):=⟨(blk_cell HX.out 3).trans rfl⟩
           have px0:=eq_true pzx0
           have qx0:=eq_true qzx0
           clear pzx0 qzx0
           have px2:=eq_true pzx2
           have qx2:=eq_true qzx2
           clear pzx2 qzx2
           have px3:=eq_true pzx3
           have qx3:=eq_true qzx3
           clear pzx3 qzx3
           clear HIN hns hnm hn0 hg0 hl1 hl2
           refine start_ (n:=8) (S:=fun w'=>w'.cell? ⟨gt,0,none⟩=some (Value.slice (some ⟨bs,0,none⟩) ns cs)∧w'.cell? ⟨bs,x0.toNat,none⟩=some (.bool bx)∧w'.cell? ⟨vb,0,none⟩=some (.int .i64 x0)) (ds:=[]) (pm 0 8) (by kernel_rfl) rfl rfl ⟨below_cell (below_drew (Below.refl _ _)) G0.out,below_cell (below_drew (Below.refl _ _)) Y0.out,below_cell (below_drew (Below.refl _ _)) X0.out⟩ (fun hHeld=>?_)
           have HO1:=Aside0.mk (HO.out.below (below_drew (Below.refl _ _)))
           have HX1:=Aside0.mk (blk_drew HX.out)
           clear HO HX G0 G1 Y0 X0 X1 X2 X3
           have HO:=HO1
           have HX:=HX1
           clear HO1 HX1
           obtain⟨wd,hwd⟩:∃wd:World,wd=wq.drew:=⟨_,rfl⟩
           rw [←hwd] at HO HX hHeld ⊢
           clear hwd
           try clear wq
           obtain⟨wq,rfl⟩:∃wq:World,wq=wd:=⟨_,rfl⟩
           iterate 8 (first|(refine pn_ (v:=?_) (a':=?_) rfl (rfl (a:=some _)) (by kernel_rfl) (fun _ _ _ h=>h) (Or.inl ⟨by rfl,?_⟩) ?_ ?_;rotate_left;(intro w';go_simp;with_reducible rfl);rotate_left;(simp only [Act.put,List.setIfInBounds_toArray,List.set_cons_zero,List.set_cons_succ,i64_w,i32_w];rfl))|(refine tn_ (v:=?_) (a':=?_) rfl (rfl (a:=some _)) (by kernel_rfl) (fun _ _ _ h=>h) (Or.inl ⟨by rfl,?_⟩) hHeld ?_ ?_;rotate_left;(intro w' hS_;obtain⟨s0,s1,s2⟩:=hS_;go_simp;with_reducible rfl);rotate_left;(simp only [Act.put,List.setIfInBounds_toArray,List.set_cons_zero,List.set_cons_succ,i64_w,i32_w];rfl)))
           refine done_ (by kernel_rfl) ?_
           clear hHeld
           cases bx with
           | false=>
            have HC:Aside0 (¬rdB st x0=true):=⟨by rw [←HBX.out];decide⟩
            go_wp2
            go_roundg (l4.length - (i+1))
            case measure=>have:=Hi.out;have:=HLT.out;omega
            case rel=>exact⟨i+1,vj,by first|rfl|rw [show wrap64 ((i:Int)+1)=((i+1:Nat):Int) by have:=HLT.out;have:=HI4.out.2.2;unfold wrap64;omega],⟨HLT.out,Nat.le_refl _⟩,⟨by rw [HNn.out HC.out];exact HO.out⟩⟩
           | true=>
            have HC:Aside0 (rdB st x0=true):=⟨HBX.out.symm⟩
            go_upto_region 30 with (fail)
            refine start_ (n:=24) (S:=fun w'=>w'.cell? ⟨go,4,none⟩=some vj∧w'.cell? ⟨vb,0,none⟩=some (.int .i64 x0)∧w'.cell? ⟨vb,1,none⟩=some (.int .i64 x1)∧w'.cell? ⟨vb,2,none⟩=some (.int .i64 x2)∧w'.cell? ⟨vb,3,none⟩=some (.int .i64 x3)∧w'.cell? (aS.add x0.toNat)=some (.int .i64 (rdI numS x0))∧w'.cell? (aS.add x2.toNat)=some (.int .i64 (rdI numS x2))∧w'.cell? (aM.add x3.toNat)=some (.int .i64 (rdI numM x3))) (ds:=[23]) (pm 0 24) (by kernel_rfl) rfl rfl ⟨(blk_cell (blk_drew HO.out.t) 4).trans rfl,(blk_cell (blk_drew HX.out) 0).trans rfl,(blk_cell (blk_drew HX.out) 1).trans rfl,(blk_cell (blk_drew HX.out) 2).trans rfl,(blk_cell (blk_drew HX.out) 3).trans rfl,below_cell (below_drew HO.out.b) Cx0.out,below_cell (below_drew HO.out.b) Cx2.out,below_cell (below_drew HO.out.b) Cx3.out⟩ (fun hHeld=>?_)
            have HO1:=Aside0.mk (HO.out.below (below_drew (Below.refl _ _)))
            have HX1:=Aside0.mk (blk_drew HX.out)
            clear HO HX
            try clear HAq
            try clear HBq
            have HO:=HO1
            clear HO1
            have HX:=HX1
            clear HX1
            obtain⟨wd,hwd⟩:∃wd:World,wd=wq.drew:=⟨_,rfl⟩
            rw [←hwd] at HO HX hHeld ⊢
            clear hwd
            try clear wq
            obtain⟨wq,rfl⟩:∃wq:World,wq=wd:=⟨_,rfl⟩
            iterate 20 (first|(refine pn_ (v:=?_) (a':=?_) rfl (rfl (a:=some _)) (by kernel_rfl) (fun _ _ _ h=>h) (Or.inl ⟨by rfl,?_⟩) ?_ ?_;rotate_left;(intro w';go_simp;with_reducible rfl);rotate_left;(simp only [Act.put,List.setIfInBounds_toArray,List.set_cons_zero,List.set_cons_succ,i64_w,i32_w];rfl))|(refine tn_ (v:=?_) (a':=?_) rfl (rfl (a:=some _)) (by kernel_rfl) (fun _ _ _ h=>h) (Or.inl ⟨by rfl,?_⟩) hHeld ?_ ?_;rotate_left;(intro w' hS_;obtain⟨s0,s1,s2,s3,s4,s5,s6,s7⟩:=hS_;go_simp;with_reducible rfl);rotate_left;(simp only [Act.put,List.setIfInBounds_toArray,List.set_cons_zero,List.set_cons_succ,i64_w,i32_w];rfl)))
            refine one_ (i:=20) (N:=(some 157)) (pm 21 3) rfl rfl (by kernel_rfl) (by decide) (fun K hK=>?_)
            refine step_run (v:=.slice (some ⟨wq.heap.size,0,none⟩) 1 1) (w1:=wq.alloc (.cells #[.int .i64 (rdI numS x0),.int .i64 x1,.int .i64 (rdI numS x2),.int .i64 (rdI numM x3)] 36)) rfl (by go_simp) ?_
            clear hHeld
            refine hK.out _ _ ⟨(blk_cell (blk_old HO.out.t (.cells #[.int .i64 (rdI numS x0),.int .i64 x1,.int .i64 (rdI numS x2),.int .i64 (rdI numM x3)] 36)) 4).trans rfl,(blk_cell (blk_old HX.out (.cells #[.int .i64 (rdI numS x0),.int .i64 x1,.int .i64 (rdI numS x2),.int .i64 (rdI numM x3)] 36)) 0).trans rfl,(blk_cell (blk_old HX.out (.cells #[.int .i64 (rdI numS x0),.int .i64 x1,.int .i64 (rdI numS x2),.int .i64 (rdI numM x3)] 36)) 1).trans rfl,(blk_cell (blk_old HX.out (.cells #[.int .i64 (rdI numS x0),.int .i64 x1,.int .i64 (rdI numS x2),.int .i64 (rdI numM x3)] 36)) 2).trans rfl,(blk_cell (blk_old HX.out (.cells #[.int .i64 (rdI numS x0),.int .i64 x1,.int .i64 (rdI numS x2),.int .i64 (rdI numM x3)] 36)) 3).trans rfl,below_cell (below_alloc HO.out.b (.cells #[.int .i64 (rdI numS x0),.int .i64 x1,.int .i64 (rdI numS x2),.int .i64 (rdI numM x3)] 36)) Cx0.out,below_cell (below_alloc HO.out.b (.cells #[.int .i64 (rdI numS x0),.int .i64 x1,.int .i64 (rdI numS x2),.int .i64 (rdI numM x3)] 36)) Cx2.out,below_cell (below_alloc HO.out.b (.cells #[.int .i64 (rdI numS x0),.int .i64 x1,.int .i64 (rdI numS x2),.int .i64 (rdI numM x3)] 36)) Cx3.out⟩ (fun hHeld=>?_)
            clear hK K
            refine norm_ (a':=?_) ?_ ?_
            rotate_left
            ·show Act.put _ (some 157) _ = _
             simp only [Act.put,List.setIfInBounds_toArray,List.set_cons_zero,List.set_cons_succ,i64_w,i32_w]
             rfl
            refine one_ (i:=21) (N:=(some 158)) (pm 22 2) rfl rfl (by kernel_rfl) (by decide) (fun K hK=>?_)
            refine Kd.R_append_step k36 (w0:=wO) wO.heap.size rfl (.tmp 138) (.tmp 157) 26 36 (.agg #[.int .i64 0,.int .i64 0,.int .i64 0,.int .i64 0]) 32 rfl Tryz.underlying26 infoOpen rfl (by decide) (by decide) vj (trimO st numS numM (l4.take i)) ((⟨rdI numS x0,x1,rdI numS x2,rdI numM x3⟩:TOpen)) [.int .i64 (rdI numS x0),.int .i64 x1,.int .i64 (rdI numS x2),.int .i64 (rdI numM x3)] (fun k=>some k=(vj:Value).ownBlock∨wq.heap.size≤k) (fun _=>False) rfl rfl (k36_mkM _ _ _ _) (fun _ h=>h.elim) (fun k h=>.inr h) (Kd.R_mono HO.out.r4 (fun k h=>.inl h)) HO.out.b HO.out.b.size ?ql ?_
            case ql=>have h1:=HI4.out.2.2;have h2:((trimO st numS numM (l4.take i))).length≤l4.length:=(by unfold trimO;rw [List.length_map];exact Nat.le_trans (List.length_filter_le _ _) (by rw [List.length_take];omega));omega
            intro v1 w1 hr1 hb1 hg1 hat1
            obtain⟨A1,m1,k1,rfl⟩:=slice3 hr1
            have HO1:=Aside0.mk (HO.out.app4 hr1 hb1 hg1 hat1)
            have HT1:=Aside0.mk (blk_grown HO.out.t hg1 (Kd.R_ne HO.out.r4 HO.out.t (by decide)))
            have HX1:=Aside0.mk (blk_grown HX.out hg1 HVN.out)
            have HB1:=Aside0.mk hb1
            clear hr1 hb1 hg1 hat1 HO HX
            clear hHeld
            refine hK.out _ _ ⟨(blk_cell HT1.out 4).trans rfl,(blk_cell HX1.out 0).trans rfl,(blk_cell HX1.out 1).trans rfl,(blk_cell HX1.out 2).trans rfl,(blk_cell HX1.out 3).trans rfl,below_cell HB1.out Cx0.out,below_cell HB1.out Cx2.out,below_cell HB1.out Cx3.out⟩ (fun hHeld=>?_)
            clear hK K
            refine norm_ (a':=?_) ?_ ?_
            rotate_left
            ·show Act.put _ (some 158) _ = _
             simp only [Act.put,List.setIfInBounds_toArray,List.set_cons_zero,List.set_cons_succ,i64_w,i32_w]
             rfl
            refine pn_ (v:=?_) (a':=?_) rfl (rfl (a:=some _)) (by kernel_rfl) (fun _ _ _ h=>h) (Or.inl ⟨by rfl,?_⟩) ?_ ?_;rotate_left;(intro w';go_simp;with_reducible rfl);rotate_left;(simp only [Act.put,List.setIfInBounds_toArray,List.set_cons_zero,List.set_cons_succ,i64_w,i32_w];rfl)
            refine last_ (i:=23) (N:=none) (pm 24 0) rfl rfl (by kernel_rfl) (by decide) (fun K hK=>?_)
            have hc2:=(blk_cell HT1.out 4).trans (show (#[Value.int .i64 cS,.int .i64 gG,v2,v3,vj,(Value.slice none 0 0),(Value.slice none 0 0)]:Array Value)[4]? = some vj from rfl)
            have hf2:=blk_frozen HT1.out 4
            refine Go.Proofs.YtejpijgfpbcibaaGreat.M.step_skip (w1:=w1.setCell ⟨go,4,none⟩ (.slice A1 m1 k1)) rfl rfl (by go_simp) ?_
            clear hc2 hf2 HT1 HB1 hHeld HX1
            refine hK.out _ _ ?_
            clear hK K
            obtain⟨wd,hwd⟩:∃wd:World,wd=w1.setCell ⟨go,4,none⟩ (.slice A1 m1 k1):=⟨_,rfl⟩
            rw [←hwd] at HO1 ⊢
            clear hwd
            have HO:=HO1
            clear HO1
            clear w1
            try clear wq
            obtain⟨wq,rfl⟩:∃wq:World,wq=wd:=⟨_,rfl⟩
            refine done_ (by kernel_rfl) ?_
            go_wp2
            go_roundg (l4.length - (i+1))
            case measure=>have:=Hi.out;have:=HLT.out;omega
            case rel=>exact⟨i+1,_,by first|rfl|rw [show wrap64 ((i:Int)+1)=((i+1:Nat):Int) by have:=HLT.out;have:=HI4.out.2.2;unfold wrap64;omega],⟨HLT.out,Nat.le_refl _⟩,⟨by rw [HNy.out HC.out];exact HO.out⟩⟩
        ·have hlt := Classical.not_not.1 hlt
         have HLT:=Aside0.mk hlt
         obtain⟨ad,eA,cx⟩:=int_at (Kd.C_below HI3.out.1 HBq.out) i hlt
         have HNy:Aside0 (rdB st l3[i]=true→(((l3.take (i+1)).filter (rdB st)).map (rdI numS))=(((l3.take i).filter (rdB st)).map (rdI numS)) ++ [rdI numS l3[i]]):=⟨fm_yes _ _ l3 i hlt⟩
         have HNn:Aside0 (¬rdB st l3[i]=true→(((l3.take (i+1)).filter (rdB st)).map (rdI numS))=(((l3.take i).filter (rdB st)).map (rdI numS))):=⟨fm_no _ _ l3 i hlt⟩
         have HIN:=HOK.out.f l3[i] (List.getElem_mem hlt)
         generalize l3[i]=x at cx HNy HNn HIN
         have hxn:x < (ns:Int):=by have:=HNS.out.1;have:=HOK.out.n0;omega
         obtain⟨aS,eS,hcs⟩:=num_at HN1o.out x HIN.1 (by have:=HLN.out.1;omega)
         have CS:=Aside0.mk hcs
         subst eS
         obtain⟨y1,_⟩:=Kd.R_celln false (TrimR.then_ HEo.out.T HO.out.b).s x HIN.1 hxn
         have y0:=(blk_cell (TrimR.then_ HEo.out.T HO.out.b).t 0).trans (show (#[(Value.slice (some ⟨bs,0,none⟩) ns cs),(Value.slice (some ⟨bm,0,none⟩) nm cm),.bool false]:Array Value)[0]? = some (Value.slice (some ⟨bs,0,none⟩) ns cs) from rfl)
         obtain⟨bx,hbx⟩:∃b:Bool,b=rdOf false st x:=⟨_,rfl⟩
         rw [←hbx] at y1
         have HBX:Aside0 (bx=rdB st x):=⟨hbx⟩
         clear hbx
         have t1:=eq_true hlt
         have t2:=eq_true (show (0:Int)≤(i:Int) by omega)
         have t3:=eq_true (show (i:Int) < (l3.length:Int) by omega)
         subst eA
         clear hlt hcs
         have px:=eq_true (show (0:Int)≤x from HIN.1)
         have qx:=eq_true (show x < (ns:Int) from hxn)
         clear HIN hxn
         cases bx with
         | false=>
          go_wp2
          go_roundg (l3.length - (i+1))
          case measure=>have:=Hi.out;have:=HLT.out;omega
          case rel=>exact⟨i+1,vj,by first|rfl|rw [show wrap64 ((i:Int)+1)=((i+1:Nat):Int) by have:=HLT.out;have:=HI3.out.2.2;unfold wrap64;omega],⟨HLT.out,Nat.le_refl _⟩,⟨by rw [HNn.out (by rw [←HBX.out];decide)];exact HO.out⟩⟩
         | true=>
          go_upto_region 24 with (fail)
          clear cx t1 t2 t3 y0 y1
          refine start_ (n:=10) (S:=fun w'=>w'.cell? ⟨go,3,none⟩=some vj∧w'.cell? (aS.add x.toNat)=some (.int .i64 (rdI numS x))) (ds:=[9]) (pm 0 10) (by kernel_rfl) rfl rfl ⟨(blk_cell (blk_drew HO.out.t) 3).trans rfl,below_cell (below_drew HO.out.b) CS.out⟩ (fun hHeld=>?_)
          have HO1:=Aside0.mk (HO.out.below (below_drew (Below.refl _ _)))
          clear HO
          try clear HAq
          try clear HBq
          have HO:=HO1
          clear HO1
          obtain⟨wd,hwd⟩:∃wd:World,wd=wq.drew:=⟨_,rfl⟩
          rw [←hwd] at HO hHeld ⊢
          clear hwd
          try clear wq
          obtain⟨wq,rfl⟩:∃wq:World,wq=wd:=⟨_,rfl⟩
          iterate 6 (first|(refine pn_ (v:=?_) (a':=?_) rfl (rfl (a:=some _)) (by kernel_rfl) (fun _ _ _ h=>h) (Or.inl ⟨by rfl,?_⟩) ?_ ?_;rotate_left;(intro w';go_simp;with_reducible rfl);rotate_left;(simp only [Act.put,List.setIfInBounds_toArray,List.set_cons_zero,List.set_cons_succ,i64_w,i32_w];rfl))|(refine tn_ (v:=?_) (a':=?_) rfl (rfl (a:=some _)) (by kernel_rfl) (fun _ _ _ h=>h) (Or.inl ⟨by rfl,?_⟩) hHeld ?_ ?_;rotate_left;(intro w' hS_;obtain⟨s0,s1⟩:=hS_;go_simp;with_reducible rfl);rotate_left;(simp only [Act.put,List.setIfInBounds_toArray,List.set_cons_zero,List.set_cons_succ,i64_w,i32_w];rfl)))
          refine one_ (i:=6) (N:=(some 118)) (pm 7 3) rfl rfl (by kernel_rfl) (by decide) (fun K hK=>?_)
          refine step_run (v:=.slice (some ⟨wq.heap.size,0,none⟩) 1 1) (w1:=wq.alloc (.cells #[.int .i64 (rdI numS x)] 3)) rfl (by go_simp) ?_
          clear hHeld
          refine hK.out _ _ ⟨(blk_cell (blk_old HO.out.t (.cells #[.int .i64 (rdI numS x)] 3)) 3).trans rfl,below_cell (below_alloc HO.out.b (.cells #[.int .i64 (rdI numS x)] 3)) CS.out⟩ (fun hHeld=>?_)
          clear hK K
          refine norm_ (a':=?_) ?_ ?_
          rotate_left
          ·show Act.put _ (some 118) _ = _
           simp only [Act.put,List.setIfInBounds_toArray,List.set_cons_zero,List.set_cons_succ,i64_w,i32_w]
           rfl
          refine one_ (i:=7) (N:=(some 119)) (pm 8 2) rfl rfl (by kernel_rfl) (by decide) (fun K hK=>?_)
          refine Kd.R_append_step (Kd.int .i64) (w0:=wO) wO.heap.size rfl (.tmp 113) (.tmp 118) 22 3 (.int .i64 0) 8 rfl Tryz.underlying22 infoInt rfl (by decide) (by decide) vj (((l3.take i).filter (rdB st)).map (rdI numS)) (rdI numS x) [.int .i64 (rdI numS x)] (fun k=>some k=(vj:Value).ownBlock∨wq.heap.size≤k) (fun _=>False) rfl rfl rfl (fun _ h=>h.elim) (fun k h=>.inr h) (Kd.R_mono HO.out.r3 (fun k h=>.inl h)) HO.out.b HO.out.b.size ?ql ?_
          case ql=>have h1:=HI3.out.2.2;have h2:((((l3.take i).filter (rdB st)).map (rdI numS))).length≤l3.length:=(by rw [List.length_map];exact Nat.le_trans (List.length_filter_le _ _) (by rw [List.length_take];omega));omega
          intro v1 w1 hr1 hb1 hg1 hat1
          obtain⟨A1,m1,k1,rfl⟩:=slice3 hr1
          have HO1:=Aside0.mk (HO.out.app3 hr1 hb1 hg1 hat1)
          have HT1:=Aside0.mk (blk_grown HO.out.t hg1 (Kd.R_ne HO.out.r3 HO.out.t (by decide)))
          have HB1:=Aside0.mk hb1
          clear hr1 hb1 hg1 hat1 HO
          clear hHeld
          refine hK.out _ _ ⟨(blk_cell HT1.out 3).trans rfl,below_cell HB1.out CS.out⟩ (fun hHeld=>?_)
          clear hK K
          refine norm_ (a':=?_) ?_ ?_
          rotate_left
          ·show Act.put _ (some 119) _ = _
           simp only [Act.put,List.setIfInBounds_toArray,List.set_cons_zero,List.set_cons_succ,i64_w,i32_w]
           rfl
          refine pn_ (v:=?_) (a':=?_) rfl (rfl (a:=some _)) (by kernel_rfl) (fun _ _ _ h=>h) (Or.inl ⟨by rfl,?_⟩) ?_ ?_;rotate_left;(intro w';go_simp;with_reducible rfl);rotate_left;(simp only [Act.put,List.setIfInBounds_toArray,List.set_cons_zero,List.set_cons_succ,i64_w,i32_w];rfl)
          refine last_ (i:=9) (N:=none) (pm 10 0) rfl rfl (by kernel_rfl) (by decide) (fun K hK=>?_)
          have hc2:=(blk_cell HT1.out 3).trans (show (#[Value.int .i64 cS,.int .i64 gG,v2,vj,(Value.slice none 0 0),(Value.slice none 0 0),(Value.slice none 0 0)]:Array Value)[3]? = some vj from rfl)
          have hf2:=blk_frozen HT1.out 3
          refine Go.Proofs.YtejpijgfpbcibaaGreat.M.step_skip (w1:=w1.setCell ⟨go,3,none⟩ (.slice A1 m1 k1)) rfl rfl (by go_simp) ?_
          clear hc2 hf2 HT1 HB1 hHeld
          refine hK.out _ _ ?_
          clear hK K
          obtain⟨wd,hwd⟩:∃wd:World,wd=w1.setCell ⟨go,3,none⟩ (.slice A1 m1 k1):=⟨_,rfl⟩
          rw [←hwd] at HO1 ⊢
          clear hwd
          have HO:=HO1
          clear HO1
          clear w1
          try clear wq
          obtain⟨wq,rfl⟩:∃wq:World,wq=wd:=⟨_,rfl⟩
          refine done_ (by kernel_rfl) ?_
          clear px qx
          go_wp2
          go_roundg (l3.length - (i+1))
          case measure=>have:=Hi.out;have:=HLT.out;omega
          case rel=>exact⟨i+1,_,by first|rfl|rw [show wrap64 ((i:Int)+1)=((i+1:Nat):Int) by have:=HLT.out;have:=HI3.out.2.2;unfold wrap64;omega],⟨HLT.out,Nat.le_refl _⟩,⟨by rw [HNy.out HBX.out.symm];exact HO.out⟩⟩
      ·have hlt := Classical.not_not.1 hlt
       have HLT:=Aside0.mk hlt
       obtain⟨ad,eA,cx⟩:=int_at (Kd.C_below HI2.out.1 HBq.out) i hlt
       have HN:Aside0 ((l2.take (i+1)).map (rdI numS)=(l2.take i).map (rdI numS) ++ [rdI numS l2[i]]):=⟨by rw [List.take_add_one,List.getElem?_eq_getElem hlt,List.map_append];rfl⟩
       have HIN:=HOK.out.i l2[i] (List.getElem_mem hlt)
       generalize l2[i]=x at cx HN HIN
       have hxn:x < (ns:Int):=by have:=HNS.out.1;have:=HOK.out.n0;omega
       obtain⟨aS,eS,hcs⟩:=num_at HN1o.out x HIN.1 (by have:=HLN.out.1;omega)
       have CS:=Aside0.mk hcs
       subst eS
       have t1:=eq_true hlt
       have t2:=eq_true (show (0:Int)≤(i:Int) by omega)
       have t3:=eq_true (show (i:Int) < (l2.length:Int) by omega)
       subst eA
       clear hlt hcs
       go_upto_region 18 with (fail)
       clear cx t1 t2 t3
       have px:=eq_true (show (0:Int)≤x from HIN.1)
       have qx:=eq_true (show x < (ns:Int) from hxn)
       clear HIN hxn
       refine start_ (n:=10) (S:=fun w'=>w'.cell? ⟨go,2,none⟩=some vj∧w'.cell? (aS.add x.toNat)=some (.int .i64 (rdI numS x))) (ds:=[9]) (pm 0 10) (by kernel_rfl) rfl rfl ⟨(blk_cell (blk_drew HO.out.t) 2).trans rfl,below_cell (below_drew HO.out.b) CS.out⟩ (fun hHeld=>?_)
       have HO1:=Aside0.mk (HO.out.below (below_drew (Below.refl _ _)))
       clear HO
       try clear HAq
       try clear HBq
       have HO:=HO1
       clear HO1
       obtain⟨wd,hwd⟩:∃wd:World,wd=wq.drew:=⟨_,rfl⟩
       rw [←hwd] at HO hHeld ⊢
       clear hwd
       try clear wq
       obtain⟨wq,rfl⟩:∃wq:World,wq=wd:=⟨_,rfl⟩
       iterate 6 (first|(refine pn_ (v:=?_) (a':=?_) rfl (rfl (a:=some _)) (by kernel_rfl) (fun _ _ _ h=>h) (Or.inl ⟨by rfl,?_⟩) ?_ ?_;rotate_left;(intro w';go_simp;with_reducible rfl);rotate_left;(simp only [Act.put,List.setIfInBounds_toArray,List.set_cons_zero,List.set_cons_succ,i64_w,i32_w];rfl))|(refine tn_ (v:=?_) (a':=?_) rfl (rfl (a:=some _)) (by kernel_rfl) (fun _ _ _ h=>h) (Or.inl ⟨by rfl,?_⟩) hHeld ?_ ?_;rotate_left;(intro w' hS_;obtain⟨s0,s1⟩:=hS_;go_simp;with_reducible rfl);rotate_left;(simp only [Act.put,List.setIfInBounds_toArray,List.set_cons_zero,List.set_cons_succ,i64_w,i32_w];rfl)))
       refine one_ (i:=6) (N:=(some 94)) (pm 7 3) rfl rfl (by kernel_rfl) (by decide) (fun K hK=>?_)
       refine step_run (v:=.slice (some ⟨wq.heap.size,0,none⟩) 1 1) (w1:=wq.alloc (.cells #[.int .i64 (rdI numS x)] 3)) rfl (by go_simp) ?_
       clear hHeld
       refine hK.out _ _ ⟨(blk_cell (blk_old HO.out.t (.cells #[.int .i64 (rdI numS x)] 3)) 2).trans rfl,below_cell (below_alloc HO.out.b (.cells #[.int .i64 (rdI numS x)] 3)) CS.out⟩ (fun hHeld=>?_)
       clear hK K
       refine norm_ (a':=?_) ?_ ?_
       rotate_left
       ·show Act.put _ (some 94) _ = _
        simp only [Act.put,List.setIfInBounds_toArray,List.set_cons_zero,List.set_cons_succ,i64_w,i32_w]
        rfl
       refine one_ (i:=7) (N:=(some 95)) (pm 8 2) rfl rfl (by kernel_rfl) (by decide) (fun K hK=>?_)
       refine Kd.R_append_step (Kd.int .i64) (w0:=wO) wO.heap.size rfl (.tmp 89) (.tmp 94) 22 3 (.int .i64 0) 8 rfl Tryz.underlying22 infoInt rfl (by decide) (by decide) vj ((l2.take i).map (rdI numS)) (rdI numS x) [.int .i64 (rdI numS x)] (fun k=>some k=(vj:Value).ownBlock∨wq.heap.size≤k) (fun _=>False) rfl rfl rfl (fun _ h=>h.elim) (fun k h=>.inr h) (Kd.R_mono HO.out.r2 (fun k h=>.inl h)) HO.out.b HO.out.b.size ?ql ?_
       case ql=>have h1:=HI2.out.2.2;have h2:(((l2.take i).map (rdI numS))).length≤l2.length:=(by rw [List.length_map,List.length_take];omega);omega
       intro v1 w1 hr1 hb1 hg1 hat1
       obtain⟨A1,m1,k1,rfl⟩:=slice3 hr1
       have HO1:=Aside0.mk (HO.out.app2 hr1 hb1 hg1 hat1)
       have HT1:=Aside0.mk (blk_grown HO.out.t hg1 (Kd.R_ne HO.out.r2 HO.out.t (by decide)))
       have HB1:=Aside0.mk hb1
       clear hr1 hb1 hg1 hat1 HO
       clear hHeld
       refine hK.out _ _ ⟨(blk_cell HT1.out 2).trans rfl,below_cell HB1.out CS.out⟩ (fun hHeld=>?_)
       clear hK K
       refine norm_ (a':=?_) ?_ ?_
       rotate_left
       ·show Act.put _ (some 95) _ = _
        simp only [Act.put,List.setIfInBounds_toArray,List.set_cons_zero,List.set_cons_succ,i64_w,i32_w]
        rfl
       refine pn_ (v:=?_) (a':=?_) rfl (rfl (a:=some _)) (by kernel_rfl) (fun _ _ _ h=>h) (Or.inl ⟨by rfl,?_⟩) ?_ ?_;rotate_left;(intro w';go_simp;with_reducible rfl);rotate_left;(simp only [Act.put,List.setIfInBounds_toArray,List.set_cons_zero,List.set_cons_succ,i64_w,i32_w];rfl)
       refine last_ (i:=9) (N:=none) (pm 10 0) rfl rfl (by kernel_rfl) (by decide) (fun K hK=>?_)
       have hc2:=(blk_cell HT1.out 2).trans (show (#[Value.int .i64 cS,.int .i64 gG,vj,(Value.slice none 0 0),(Value.slice none 0 0),(Value.slice none 0 0),(Value.slice none 0 0)]:Array Value)[2]? = some vj from rfl)
       have hf2:=blk_frozen HT1.out 2
       refine Go.Proofs.YtejpijgfpbcibaaGreat.M.step_skip (w1:=w1.setCell ⟨go,2,none⟩ (.slice A1 m1 k1)) rfl rfl (by go_simp) ?_
       clear hc2 hf2 HT1 HB1 hHeld
       refine hK.out _ _ ?_
       clear hK K
       obtain⟨wd,hwd⟩:∃wd:World,wd=w1.setCell ⟨go,2,none⟩ (.slice A1 m1 k1):=⟨_,rfl⟩
       rw [←hwd] at HO1 ⊢
       clear hwd
       have HO:=HO1
       clear HO1
       clear w1
       try clear wq
       obtain⟨wq,rfl⟩:∃wq:World,wq=wd:=⟨_,rfl⟩
       refine done_ (by kernel_rfl) ?_
       clear px qx
       go_wp2
       go_roundg (l2.length - (i+1))
       case measure=>have:=Hi.out;have:=HLT.out;omega
       case rel=>exact⟨i+1,_,by first|rfl|rw [show wrap64 ((i:Int)+1)=((i+1:Nat):Int) by have:=HLT.out;have:=HI2.out.2.2;unfold wrap64;omega],⟨HLT.out,Nat.le_refl _⟩,⟨by rw [HN.out];exact HO.out⟩⟩
def trimS (n g:Int) (i:List Int) (o:List TOpen) (c:List TClose) (p:List TInner):TS:=trimF (initS n g i) o c p
def trimV (s:TS) (l2 l3:List Int) (l4:List TOpen) (l5:List TClose) (l6:List TInner):Int × Int × List Int × List Int × List TOpen × List TClose × List TInner:=
 ((numR s.st 0).2,wrap64 ((numR s.mr 1).2 - 1),onceC cmpInt (l2.map (rdI (numR s.st 0).1)),onceC cmpInt ((l3.filter (rdB s.st)).map (rdI (numR s.st 0).1)),onceC cmpOpen (trimO s.st (numR s.st 0).1 (numR s.mr 1).1 l4),onceC cmpClose (trimC s.st s.mr (numR s.st 0).1 (numR s.mr 1).1 l5),onceC cmpInner (trimI s.st (numR s.st 0).1 l6))
def auto_Trim.f (l0:List S51) (a1_0 a1_1:Int) (l1_2 l1_3:List Int) (l1_4:List TOpen) (l1_5:List TClose) (l1_6:List TInner):Option (Int × Int × List Int × List Int × List TOpen × List TClose × List TInner):=
 if auto_Check.f l0 a1_0 a1_1 l1_2 l1_3 l1_4 l1_5 l1_6=some 0 then some (trimV (trimS a1_0 a1_1 l1_2 l1_4 l1_5 l1_6) l1_2 l1_3 l1_4 l1_5 l1_6) else none
theorem auto_Trim.calls (A0:Option Addr) (c0:Nat) (l0:List S51) (a1_0 a1_1:Int) (A1_2:Option Addr) (c1_2:Nat) (l1_2:List Int) (A1_3:Option Addr) (c1_3:Nat) (l1_3:List Int) (A1_4:Option Addr) (c1_4:Nat) (l1_4:List TOpen) (A1_5:Option Addr) (c1_5:Nat) (l1_5:List TClose) (A1_6:Option Addr) (c1_6:Nat) (l1_6:List TInner) (r1 r2:Int) (r3 r4:List Int) (r5:List TOpen) (r6:List TClose) (r7:List TInner) (w:World) (hr0:Kd.C k51 w A0 l0.length l0) (hc0:l0.length≤c0) (hr1_2:Kd.C (Kd.int .i64) w A1_2 l1_2.length l1_2) (hc1_2:l1_2.length≤c1_2) (hr1_3:Kd.C (Kd.int .i64) w A1_3 l1_3.length l1_3) (hc1_3:l1_3.length≤c1_3) (hr1_4:Kd.C k36 w A1_4 l1_4.length l1_4) (hc1_4:l1_4.length≤c1_4) (hr1_5:Kd.C k38 w A1_5 l1_5.length l1_5) (hc1_5:l1_5.length≤c1_5) (hr1_6:Kd.C k40 w A1_6 l1_6.length l1_6) (hc1_6:l1_6.length≤c1_6) (h:auto_Trim.f l0 a1_0 a1_1 l1_2 l1_3 l1_4 l1_5 l1_6=some (r1,r2,r3,r4,r5,r6,r7)) :
 Calls Tryz.prog 18 #[.slice A0 l0.length c0,.agg #[.int .i64 a1_0,.int .i64 a1_1,.slice A1_2 l1_2.length c1_2,.slice A1_3 l1_3.length c1_3,.slice A1_4 l1_4.length c1_4,.slice A1_5 l1_5.length c1_5,.slice A1_6 l1_6.length c1_6]] w fun e w'=>∃v2_ v3_ v4_ v5_ v6_:Value,e=.returned (.agg #[.int .i64 r1,.int .i64 r2,v2_,v3_,v4_,v5_,v6_])∧Kd.V (Kd.int .i64) 3 w' w.heap.size (fun k_=>w.heap.size≤k_) v2_ r3∧Kd.V (Kd.int .i64) 3 w' w.heap.size (fun k_=>w.heap.size≤k_) v3_ r4∧Kd.V k36 36 w' w.heap.size (fun k_=>w.heap.size≤k_) v4_ r5∧Kd.V k38 38 w' w.heap.size (fun k_=>w.heap.size≤k_) v5_ r6∧Kd.V k40 40 w' w.heap.size (fun k_=>w.heap.size≤k_) v6_ r7∧Below w.heap.size w w':=by
 unfold auto_Trim.f at h
 split at h
 case isFalse=>cases h
 rename_i hk
 unfold auto_Check.f at hk
 split at hk
 case isFalse=>cases hk
 rename_i hl
 obtain⟨q0,q2,q3,q4,q5,q6⟩:=hl
 have hk:=Option.some.inj hk
 have h:=Option.some.inj h
 unfold trimV at h
 simp only [Prod.mk.injEq] at h
 obtain⟨rfl,rfl,rfl,rfl,rfl,rfl,rfl⟩:=h
 exact trim_own A0 c0 l0 a1_0 a1_1 A1_2 c1_2 l1_2 A1_3 c1_3 l1_3 A1_4 c1_4 l1_4 A1_5 c1_5 l1_5 A1_6 c1_6 l1_6 _ w hr0 hc0 q0 hr1_2 hc1_2 q2 hr1_3 hc1_3 q3 hr1_4 hc1_4 q4 hr1_5 hc1_5 q5 hr1_6 hc1_6 q6 hk rfl
end Go.Proofs.YtejpijgfpbcibaaGreat.P
