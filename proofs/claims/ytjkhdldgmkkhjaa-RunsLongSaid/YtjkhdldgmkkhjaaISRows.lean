/- Words and walks of this claim: SRows. -/
import Derived.Test.YtjkhdldgmkkhjaaIMFar
import Derived.Test.YtjkhdldgmkkhjaaIUTyEtc
import Derived.BigQuiet
set_option linter.unusedVariables false
set_option linter.unusedSimpArgs false
set_option linter.unnecessarySimpa false
namespace Go.Proofs.Ytjkhdldgmkkhjaa.P
open Go.RowKit Go.Proofs.YtjkhdldgmkkhjaaW.PrintWords Go.Proofs.YtjkhdldgmkkhjaaW.PrintLast Go.Proofs.YtjkhdldgmkkhjaaW.PrintMore Go.Proofs.Ytjkhdldgmkkhjaa.M
theorem infoArr:(Try.prog.info? 83).map (fun i=>(i.zero,i.size,i.bytes))=some (some (.agg #[.int .i64 0,.int .i64 0,.int .i64 0,.int .i64 0]),4,32):=by kernel_rfl
def rowsPost (l:List TOpen) (w:World):Ending→World→Prop:=fun e w'=>∃(A' : Option Addr) (c' : Nat),e=.returned (.slice A' (onceC cmpOpen l).length c')∧Kd.C k52 w' A' (onceC cmpOpen l).length (onceC cmpOpen l)∧(onceC cmpOpen l).length≤c'∧Below w.heap.size w w'
set_option maxHeartbeats 8000000 in
set_option maxRecDepth 100000 in
theorem rows_small (A:Option Addr) (c:Nat) (l:List TOpen) (w:World) (hr:Kd.C k52 w A l.length l) (hc:l.length≤c) (h2:l.length < 2):Calls Try.prog 42 #[.slice A l.length c] w (rowsPost l w):=by
 have HR:=Aside0.mk (And.intro hr hc)
 have HE:=Aside0.mk (once_small (cmp:=cmpOpen) h2)
 have t1:=eq_true (show (l.length:Int) < 2 by omega)
 have t2:=decide_eq_true (show (l.length:Int) < 2 by omega)
 clear hr hc h2
 go_enter Try.func42,Try.ntmps42
 go_wp2
 go_ret
 unfold rowsPost
 rw [HE.out]
 exact⟨A,c,rfl,HR.out.1,HR.out.2,Below.refl _ _⟩
attribute [local go_sem high] eqArr
theorem cell_below {w w' : World} {ad:Addr} {v:Value} (hb:Below w.heap.size w w') (h:w.cell? ad=some v):w'.cell? ad=some v:=(World.cell?_of_block (hb.block ad.block (World.block_lt_of_cell? w _ h))).trans h
theorem zip_mid {l:List TOpen} {i:Nat} (h:i < l.length):rd_T52 l (i:Int)=l[i]:=by unfold rd_T52;rw [Int.toNat_natCast,List.getD_eq_getElem?_getD,List.getElem?_eq_getElem h];rfl
theorem eqOpen_true {x y:TOpen} : (x.f0 == y.f0 && (x.f1 == y.f1 && (x.f2 == y.f2 && x.f3 == y.f3)))=true↔x=y:=by
 obtain⟨x0,x1,x2,x3⟩:=x
 obtain⟨y0,y1,y2,y3⟩:=y
 simp only [Bool.and_eq_true,beq_iff_eq,S52.mk.injEq]
set_option maxHeartbeats 16000000 in
set_option maxRecDepth 100000 in
theorem rows_big (A:Option Addr) (c:Nat) (l:List TOpen) (w:World) (hr:Kd.C k52 w A l.length l) (hc:l.length≤c) (h2:¬l.length < 2) (hl:l.length≤1000000000)
 (ih:∀(A:Option Addr) (c:Nat) (m:List TOpen) (w:World),m.length < l.length→Kd.C k52 w A m.length m→m.length≤c→Calls Try.prog 42 #[.slice A m.length c] w (rowsPost m w)):Calls Try.prog 42 #[.slice A l.length c] w (rowsPost l w):=by
 obtain⟨h,hh⟩:∃h:Nat,h=l.length / 2:=⟨_,rfl⟩
 have hh1:1≤h∧h < l.length:=by omega
 have e1:Int.tdiv (l.length:Int) 2=(h:Int):=by rw [Int.tdiv_eq_ediv_of_nonneg (by omega),hh];omega
 have e2:wrap64 (Int.tdiv (l.length:Int) 2)=(h:Int):=by rw [e1];unfold wrap64;omega
 have e3:wrap64 (h:Int)=(h:Int):=by unfold wrap64;omega
 have t1:=eq_false (show ¬(l.length:Int) < 2 by omega)
 have t2:=decide_eq_false (show ¬(l.length:Int) < 2 by omega)
 obtain⟨i0,hi0,_,hsz0,_⟩:=info_parts infoArr
 have hcut1:=cut_to (P:=Try.prog) 82 83 .i64 Try.underlying82 hi0 A l.length c (h:Int) (by omega) (by omega) hc
 have hcut2:=cut_from (P:=Try.prog) 82 83 .i64 Try.underlying82 hi0 4 hsz0 A l.length c (h:Int) (by omega) (by omega)
 rw [Int.toNat_natCast] at hcut1 hcut2
 have hd1:=Kd.C_take (m:=h) hr (by omega)
 have hd2:=Kd.C_drop (m:=h) (c:=c) hr (by omega) hc
 obtain⟨l1,hl1⟩:∃m,m=l.take h:=⟨_,rfl⟩
 obtain⟨l2,hl2⟩:∃m,m=l.drop h:=⟨_,rfl⟩
 have n1:l1.length=h:=by rw [hl1,List.length_take];omega
 have n2:l2.length=l.length - h:=by rw [hl2,List.length_drop]
 rw [←hl1] at hd1
 rw [←hl2] at hd2
 rw [show h=l1.length from n1.symm] at hcut1
 rw [←n2] at hcut2
 obtain⟨B,hB⟩:∃B:Option Addr,B=(if c=h then A else A.map (·.add (h*4))):=⟨_,rfl⟩
 rw [←hB] at hcut2
 have hd2' : Kd.C k52 w B l2.length l2:=by rw [hB];exact hd2
 obtain⟨cB,hcB⟩:∃cB,cB=c - h:=⟨_,rfl⟩
 rw [←hcB] at hcut2
 rw [show ((l1.length:Nat):Int)=(h:Int) by rw [n1]] at hcut1
 have H1:=Aside0.mk (And.intro hd1 (show l1.length≤c by omega))
 have H2:=Aside0.mk (And.intro hd2' (show l2.length≤cB by omega))
 have HN:=Aside0.mk (And.intro (show l1.length < l.length by omega) (And.intro (show l2.length < l.length by omega) hl))
 have HIH:=Aside0.mk ih
 have HL:=Aside0.mk (And.intro hl1 hl2)
 clear hd1 hd2 hd2' hB hcB hl1 hl2 n1 n2 hh hh1 ih hl h2 hr hc hi0 hsz0
 go_enter Try.func42,Try.ntmps42
 go_upto_region 3 with (fail)
 refine start_ (n:=14) (S:=fun w'=>True) (ds:=[]) (pm 0 14) (by kernel_rfl) rfl rfl trivial (fun hHeld=>?_)
 have HBd:Aside0 (Below w.heap.size w w.drew):=⟨below_drew (Below.refl _ _)⟩
 obtain⟨wd,hwd⟩:∃wd:World,wd=w.drew:=⟨_,rfl⟩
 rw [←hwd] at HBd ⊢
 clear hwd
 iterate 5 (refine pn_ (v:=?_) (a':=?_) rfl (rfl (a:=some _)) (by kernel_rfl) (fun _ _ _ h=>h) (Or.inl ⟨by rfl,?_⟩) ?_ ?_;rotate_left;(intro w';go_simp;with_reducible rfl);rotate_left;(simp only [Act.put,M.sq3,i64_w,i32_w];rfl))
 refine po_ 6 (v:=?_) (a':=?_) rfl (rfl (a:=some _)) (by kernel_rfl) (fun _ _ _ h=>h) (Or.inl ⟨by rfl,?_⟩) ?_ ?_;rotate_left;(intro w';go_simp;with_reducible rfl);rotate_left;(simp only [Act.put,M.sq3,i64_w,i32_w];rfl)
 refine po_ 7 (v:=?_) (a':=?_) rfl (rfl (a:=some _)) (by kernel_rfl) (fun _ _ _ h=>h) (Or.inl ⟨by rfl,?_⟩) ?_ ?_;rotate_left;(intro w';go_simp;with_reducible rfl);rotate_left;(simp only [Act.put,M.sq3,i64_w,i32_w];rfl)
 refine po_ 8 (v:=?_) (a':=?_) rfl (rfl (a:=some _)) (by kernel_rfl) (fun _ _ _ h=>h) (Or.inl ⟨by rfl,?_⟩) ?_ ?_;rotate_left;(intro w';go_simp;with_reducible rfl);rotate_left;(simp only [Act.put,M.sq3,i64_w,i32_w];rfl)
 refine po_ 9 (v:=?_) (a':=?_) rfl (rfl (a:=some _)) (by kernel_rfl) (fun _ _ _ h=>h) (Or.inl ⟨by rfl,?_⟩) ?_ ?_;rotate_left;(intro w';go_simp;with_reducible rfl);rotate_left;(simp only [Act.put,M.sq3,i64_w,i32_w];rfl)
 refine po_ 10 (v:=?_) (a':=?_) rfl (rfl (a:=some _)) (by kernel_rfl) (fun _ _ _ h=>h) (Or.inl ⟨by rfl,?_⟩) ?_ ?_;rotate_left;(intro w';go_simp;with_reducible rfl);rotate_left;(simp only [Act.put,M.sq3,i64_w,i32_w];rfl)
 refine one_ (i:=5) (N:=(some 19)) (pm 11 3) rfl rfl (by kernel_rfl) (by decide) (fun K hK=>?_)
 refine goes_ Try.func42 (by kernel_rfl) rfl #[.slice A l1.length c] rfl rfl rfl (by(try simp only [List.map_toArray,List.map_cons,List.map_nil]);rfl) ?_
 refine(HIH.out _ _ l1 _ HN.out.1 (Kd.C_below H1.out.1 HBd.out) H1.out.2).mono ?_
 rintro e wa ⟨A1,k1,rfl,hr_,hc_,hb_⟩
 have HBwa:Aside0 (Below w.heap.size w wa):=⟨below_then HBd.out HBd.out.size hb_⟩
 have HR1:=Aside0.mk (And.intro hr_ hc_)
 clear hr_ hc_ hb_
 refine⟨_,rfl,?_⟩
 clear hHeld
 refine hK.out _ _ trivial (fun hHeld=>?_)
 clear hK K
 refine norm_ (a':=?_) ?_ ?_
 rotate_left
 ·show Act.put _ (some 19) _ = _
  simp only [Act.put,M.sq3,i64_w,i32_w]
  rfl
 refine one_ (i:=11) (N:=(some 25)) (pm 12 2) rfl rfl (by kernel_rfl) (by decide) (fun K hK=>?_)
 refine goes_ Try.func42 (by kernel_rfl) rfl #[.slice B l2.length cB] rfl rfl rfl (by(try simp only [List.map_toArray,List.map_cons,List.map_nil]);rfl) ?_
 refine(HIH.out _ _ l2 _ HN.out.2.1 (Kd.C_below H2.out.1 HBwa.out) H2.out.2).mono ?_
 rintro e wb ⟨A2,k2,rfl,hr_,hc_,hb_⟩
 have HBwb:Aside0 (Below w.heap.size w wb):=⟨below_then HBwa.out HBwa.out.size hb_⟩
 have HR2:=Aside0.mk (And.intro hr_ hc_)
 have HR1b:=Aside0.mk (And.intro (Kd.C_below HR1.out.1 hb_) HR1.out.2)
 clear hr_ hc_ hb_
 refine⟨_,rfl,?_⟩
 clear hHeld
 refine hK.out _ _ trivial (fun hHeld=>?_)
 clear hK K
 refine norm_ (a':=?_) ?_ ?_
 rotate_left
 ·show Act.put _ (some 25) _ = _
  simp only [Act.put,M.sq3,i64_w,i32_w]
  rfl
 iterate 2 (refine pn_ (v:=?_) (a':=?_) rfl (rfl (a:=some _)) (by kernel_rfl) (fun _ _ _ h=>h) (Or.inl ⟨by rfl,?_⟩) ?_ ?_;rotate_left;(intro w';go_simp;with_reducible rfl);rotate_left;(simp only [Act.put,M.sq3,i64_w,i32_w];rfl))
 refine done_ (by kernel_rfl) ?_
 clear hHeld hcut1 hcut2 e1 e2 e3 t1 t2 HR1 HBd HBwa H1 H2
 obtain⟨a,ha⟩:∃a,a=onceC cmpOpen l1:=⟨_,rfl⟩
 obtain⟨b,hb⟩:∃b,b=onceC cmpOpen l2:=⟨_,rfl⟩
 have HAB:Aside0 (Ris cmpOpen a∧Ris cmpOpen b∧a.length≤1000000000∧b.length≤1000000000):=⟨by
  have h1:=once_lenle totalOpen l1
  have h2:=once_lenle totalOpen l2
  have h3:=HN.out
  rw [ha,hb]
  exact⟨totalOpen.once_sorted _,totalOpen.once_sorted _,by omega,by omega⟩⟩
 have HEND:Aside0 (∀out,Mrg cmpOpen a b a.length b.length out→out=onceC cmpOpen l):=⟨fun out hm=>by
  rw [ha,hb,HL.out.1,HL.out.2] at hm
  exact hm.done totalOpen⟩
 rw [←ha] at HR1b ⊢
 rw [←hb] at HR2 ⊢
 clear ha hb HL HN HIH
 have ma:(a.length:Int)≤1000000000:=by have:=HAB.out;omega
 have mb:(b.length:Int)≤1000000000:=by have:=HAB.out;omega
 go_wp2
 go_loopg [5,6,7] (a.length+b.length) (fun gq v5 v6 v7 w'=>∃(i k:Nat) (out:List TOpen),v6=.int .i64 (i:Int)∧v7=.int .i64 (k:Int)∧Aside0 (i≤a.length∧k≤b.length∧a.length+b.length - (i+k)≤gq)∧Aside0 (Mrg cmpOpen a b i k out)∧Aside0 (Kd.R k52 83 w' wb.heap.size (fun q=>some q=v5.ownBlock) v5 out)∧Aside0 (Below wb.heap.size wb w'))
 case atStart=>exact⟨0,0,[],rfl,rfl,⟨by omega,by omega,by omega⟩,⟨Mrg.nil _ _⟩,⟨Kd.R_nil _ _ _ _ _⟩,⟨Below.refl _ _⟩⟩
 case' round=>skip
 obtain⟨i,k,out,rfl,rfl,Hi,HM,HO,HW⟩:=hrel
 have ho:=HO.out
 obtain⟨Ao,co,rfl⟩:=Kd.R_slice ho
 clear ho
 obtain⟨wq,rfl⟩:∃wq:World,wq=wr:=⟨_,rfl⟩
 have HOL:Aside0 (out.length≤i+k):=⟨HM.out.len totalOpen⟩
 by_cases hia:i < a.length
 ·by_cases hkb : k < b.length
  ·have HLTa := Aside0.mk hia
   have HLTb:=Aside0.mk hkb
   have s1:=eq_true (show (i:Int) < (a.length:Int) by have:=Hi.out;omega)
   have s2:=decide_eq_true (show (i:Int) < (a.length:Int) by have:=Hi.out;omega)
   have s3:=eq_true (show (k:Int) < (b.length:Int) by have:=Hi.out;omega)
   have s4:=decide_eq_true (show (k:Int) < (b.length:Int) by have:=Hi.out;omega)
   have s5:=eq_false (show ¬(k:Int)=(b.length:Int) by have:=Hi.out;omega)
   have s6:((k:Int) == (b.length:Int))=false:=beq_eq_false_iff_ne.2 (by have:=Hi.out;omega)
   have HVB0:Aside0 (wb.heap.size≤wq.heap.size):=⟨HW.out.size⟩
   have HVn:Aside0 ((wq.alloc (.cells #[.int .i64 0,.int .i64 0,.int .i64 0,.int .i64 0] 83)).heap[wq.heap.size]? = some (.cells #[.int .i64 0,.int .i64 0,.int .i64 0,.int .i64 0] 83 (0,0))):=⟨blk_newAt _ rfl⟩
   have HOn:=Aside0.mk (Kd.R_alloc HO.out (.cells #[.int .i64 0,.int .i64 0,.int .i64 0,.int .i64 0] 83))
   have HWn:Aside0 (Below wb.heap.size wb (wq.alloc (.cells #[.int .i64 0,.int .i64 0,.int .i64 0,.int .i64 0] 83))):=⟨below_alloc HW.out _⟩
   have HNE:Aside0 (∀q,some q=(Value.slice Ao out.length co).ownBlock→q≠wq.heap.size):=⟨fun q hq e=>by have:=Kd.R_lt HO.out q hq.symm;omega⟩
   go_upto_region 8 with (fail)
   obtain⟨wv,hwv⟩:∃wv:World,wv=wq.alloc (.cells #[.int .i64 0,.int .i64 0,.int .i64 0,.int .i64 0] 83):=⟨_,rfl⟩
   rw [←hwv] at HVn HOn HWn ⊢
   generalize wq.heap.size=vb at HVn HNE HVB0 ⊢
   have HVB:=HVB0
   clear hwv HO HW HVB0
   try clear wq
   obtain⟨wq,rfl⟩:∃wq:World,wq=wv:=⟨_,rfl⟩
   obtain⟨pd,ep,p0,p1,p2,p3⟩:=at_T52 (Kd.C_below HR1b.out.1 HWn.out) (i:Int) (by omega) (by omega)
   rw [zip_mid hia,Int.toNat_natCast] at p0 p1 p2 p3
   obtain⟨qd,eq,q0,q1,q2,q3⟩:=at_T52 (Kd.C_below HR2.out.1 HWn.out) (k:Int) (by omega) (by omega)
   rw [zip_mid hkb,Int.toNat_natCast] at q0 q1 q2 q3
   obtain⟨x,hx⟩:∃x,x=a[i]'HLTa.out:=⟨_,rfl⟩
   obtain⟨y,hy⟩:∃y,y=b[k]'HLTb.out:=⟨_,rfl⟩
   rw [←hx] at p0 p1 p2 p3
   rw [←hy] at q0 q1 q2 q3
   have HXY:=Aside0.mk (And.intro hx hy)
   clear hx hy
   obtain⟨x0,x1,x2,x3⟩:=x
   obtain⟨y0,y1,y2,y3⟩:=y
   have t1:=eq_true (show (0:Int)≤(i:Int) by omega)
   have t2:=eq_true (show (0:Int)≤(k:Int) by omega)
   subst ep
   subst eq
   clear hia hkb
   refine start_ (n:=22) (S:=fun w'=>w'.cell? (pd.add (i*4))=some (.int .i64 x0)∧w'.cell? ⟨(pd.add (i*4)).block,(pd.add (i*4)).off+1,none⟩=some (.int .i64 x1)∧w'.cell? ⟨(pd.add (i*4)).block,(pd.add (i*4)).off+2,none⟩=some (.int .i64 x2)∧w'.cell? ⟨(pd.add (i*4)).block,(pd.add (i*4)).off+3,none⟩=some (.int .i64 x3)∧w'.cell? (qd.add (k*4))=some (.int .i64 y0)∧w'.cell? ⟨(qd.add (k*4)).block,(qd.add (k*4)).off+1,none⟩=some (.int .i64 y1)∧w'.cell? ⟨(qd.add (k*4)).block,(qd.add (k*4)).off+2,none⟩=some (.int .i64 y2)∧w'.cell? ⟨(qd.add (k*4)).block,(qd.add (k*4)).off+3,none⟩=some (.int .i64 y3)) (ds:=[]) (pm 0 22) (by kernel_rfl) rfl rfl ⟨p0,p1,p2,p3,q0,q1,q2,q3⟩ (fun hHeld=>?_)
   have HVm:=Aside0.mk (blk_drew HVn.out)
   have HOm:=Aside0.mk (Kd.R_drew HOn.out)
   have HWm:Aside0 (Below wb.heap.size wb wq.drew):=⟨below_drew HWn.out⟩
   have CX:Aside0 (wq.drew.cell? (pd.add (i*4))=some (.int .i64 x0)∧wq.drew.cell? ⟨(pd.add (i*4)).block,(pd.add (i*4)).off+1,none⟩=some (.int .i64 x1)∧wq.drew.cell? ⟨(pd.add (i*4)).block,(pd.add (i*4)).off+2,none⟩=some (.int .i64 x2)∧wq.drew.cell? ⟨(pd.add (i*4)).block,(pd.add (i*4)).off+3,none⟩=some (.int .i64 x3)∧wq.drew.cell? (qd.add (k*4))=some (.int .i64 y0)∧wq.drew.cell? ⟨(qd.add (k*4)).block,(qd.add (k*4)).off+1,none⟩=some (.int .i64 y1)∧wq.drew.cell? ⟨(qd.add (k*4)).block,(qd.add (k*4)).off+2,none⟩=some (.int .i64 y2)∧wq.drew.cell? ⟨(qd.add (k*4)).block,(qd.add (k*4)).off+3,none⟩=some (.int .i64 y3)):=⟨⟨p0,p1,p2,p3,q0,q1,q2,q3⟩⟩
   obtain⟨wv,hwv⟩:∃wv:World,wv=wq.drew:=⟨_,rfl⟩
   rw [←hwv] at HVm HOm HWm CX hHeld ⊢
   clear hwv HVn HOn HWn p0 p1 p2 p3 q0 q1 q2 q3
   try clear wq
   iterate 18 (first|(refine pn_ (v:=?_) (a':=?_) rfl (rfl (a:=some _)) (by kernel_rfl) (fun _ _ _ h=>h) (Or.inl ⟨by rfl,?_⟩) ?_ ?_;rotate_left;(intro w';go_simp;with_reducible rfl);rotate_left;(simp only [Act.put,M.sq3,i64_w,i32_w];rfl))|(refine tn_ (v:=?_) (a':=?_) rfl (rfl (a:=some _)) (by kernel_rfl) (fun _ _ _ h=>h) (Or.inl ⟨by rfl,?_⟩) hHeld ?_ ?_;rotate_left;(intro w' hS_;obtain⟨s0,s1,s2,s3,s4,s5,s6,s7⟩:=hS_;go_simp;with_reducible rfl);rotate_left;(simp only [Act.put,M.sq3,i64_w,i32_w];rfl)))
   refine one_ (i:=18) (N:=(some 54)) (pm 19 3) rfl rfl (by kernel_rfl) (by decide) (fun K hK=>?_)
   refine goes_ Try.func55 (by kernel_rfl) rfl #[.agg #[.int .i64 y0,.int .i64 y1,.int .i64 y2,.int .i64 y3],.agg #[.int .i64 x0,.int .i64 x1,.int .i64 x2,.int .i64 x3]] rfl rfl rfl (by(try simp only [List.map_toArray,List.map_cons,List.map_nil]);rfl) ?_
   refine(below_own y0 y1 y2 y3 x0 x1 x2 x3 _).mono ?_
   rintro e we ⟨rfl,hb⟩
   have HVn:=Aside0.mk (blk_below HVm.out hb)
   have HOn:=Aside0.mk (Kd.R_below HOm.out hb)
   have HWn:Aside0 (Below wb.heap.size wb we):=⟨below_then HWm.out HWm.out.size hb⟩
   have CY:=CX.out
   obtain⟨d0,d1,d2,d3,d4,d5,d6,d7⟩:=CY
   replace d0:=cell_below hb d0
   replace d1:=cell_below hb d1
   replace d2:=cell_below hb d2
   replace d3:=cell_below hb d3
   replace d4:=cell_below hb d4
   replace d5:=cell_below hb d5
   replace d6:=cell_below hb d6
   replace d7:=cell_below hb d7
   clear hb HVm HOm HWm CX
   refine⟨_,rfl,?_⟩
   clear hHeld
   refine hK.out _ _ ⟨d0,d1,d2,d3,d4,d5,d6,d7⟩ (fun hHeld=>?_)
   clear hK K d0 d1 d2 d3 d4 d5 d6 d7
   obtain⟨bo,hbo⟩:∃bo:Bool,bo=decide (cmpOpen ⟨y0,y1,y2,y3⟩ ⟨x0,x1,x2,x3⟩ < 0):=⟨_,rfl⟩
   rw [←hbo]
   have HBO:=Aside0.mk hbo
   clear hbo
   obtain⟨wq,rfl⟩:∃wq:World,wq=we:=⟨_,rfl⟩
   refine norm_ (a':=?_) ?_ ?_
   rotate_left
   ·show Act.put _ (some 54) _ = _
    simp only [Act.put,M.sq3,i64_w,i32_w]
    rfl
   cases bo with
   | true=>
    iterate 3 (refine pn_ (v:=?_) (a':=?_) rfl (rfl (a:=some _)) (by kernel_rfl) (fun _ _ _ h=>h) (Or.inl ⟨by rfl,?_⟩) ?_ ?_;rotate_left;(intro w';go_simp;with_reducible rfl);rotate_left;(simp only [Act.put,M.sq3,i64_w,i32_w];rfl))
    refine done_ (by kernel_rfl) ?_
    clear hHeld s1 s2 s3 s4 s5 s6 t1 t2
    have HLE:Aside0 (∀y∈a.drop i,cmpOpen (b[k]'HLTb.out) y≤0):=⟨drop_le totalOpen HAB.out.1 HLTa.out (by have:=of_decide_eq_true HBO.out.symm;rw [HXY.out.1,HXY.out.2] at this;omega)⟩
    have HLT:=HLTb
    have hkb:=HLTb.out
    obtain⟨pd,ep,p0,p1,p2,p3⟩:=at_T52 (Kd.C_below HR2.out.1 HWn.out) (k:Int) (by omega) (by omega)
    rw [zip_mid hkb,Int.toNat_natCast] at p0 p1 p2 p3
    obtain⟨x,hx⟩:∃x,x=b[k]'hkb:=⟨_,rfl⟩
    rw [←hx] at p0 p1 p2 p3
    have HX:=Aside0.mk hx
    clear hx
    obtain⟨x0,x1,x2,x3⟩:=x
    have c0:=(blk_cell HVn.out 0).trans (show (#[.int .i64 0,.int .i64 0,.int .i64 0,.int .i64 0]:Array Value)[0]? = some (.int .i64 0) from rfl)
    have c1:=(blk_cell HVn.out 1).trans (show (#[.int .i64 0,.int .i64 0,.int .i64 0,.int .i64 0]:Array Value)[1]? = some (.int .i64 0) from rfl)
    have c2:=(blk_cell HVn.out 2).trans (show (#[.int .i64 0,.int .i64 0,.int .i64 0,.int .i64 0]:Array Value)[2]? = some (.int .i64 0) from rfl)
    have c3:=(blk_cell HVn.out 3).trans (show (#[.int .i64 0,.int .i64 0,.int .i64 0,.int .i64 0]:Array Value)[3]? = some (.int .i64 0) from rfl)
    have f0:=blk_frozen HVn.out 0
    have f1:=blk_frozen HVn.out 1
    have f2:=blk_frozen HVn.out 2
    have f3:=blk_frozen HVn.out 3
    have t1:=eq_true (show (0:Int)≤(k:Int) by omega)
    have t2:=eq_true (show (k:Int) < (b.length:Int) by omega)
    first|subst ep|cases ep
    go_upto_region 14 with (fail)
    have HV2:Aside0 (((((wq.setCell ⟨vb,0,none⟩ (.int .i64 x0)).setCell ⟨vb,1,none⟩ (.int .i64 x1)).setCell ⟨vb,2,none⟩ (.int .i64 x2)).setCell ⟨vb,3,none⟩ (.int .i64 x3)).heap[vb]? = some (.cells #[.int .i64 x0,.int .i64 x1,.int .i64 x2,.int .i64 x3] 83 (0,0))):=⟨blk_set (blk_set (blk_set (blk_set HVn.out 0 _) 1 _) 2 _) 3 _⟩
    have HO2:Aside0 (Kd.R k52 83 ((((wq.setCell ⟨vb,0,none⟩ (.int .i64 x0)).setCell ⟨vb,1,none⟩ (.int .i64 x1)).setCell ⟨vb,2,none⟩ (.int .i64 x2)).setCell ⟨vb,3,none⟩ (.int .i64 x3)) wb.heap.size (fun q=>some q=(Value.slice Ao out.length co).ownBlock) (.slice Ao out.length co) out):=⟨Kd.R_far (p:=⟨vb,3,none⟩) (Kd.R_far (p:=⟨vb,2,none⟩) (Kd.R_far (p:=⟨vb,1,none⟩) (Kd.R_far (p:=⟨vb,0,none⟩) (HOn.out) HNE.out _) HNE.out _) HNE.out _) HNE.out _⟩
    have HW2:Aside0 (Below wb.heap.size wb ((((wq.setCell ⟨vb,0,none⟩ (.int .i64 x0)).setCell ⟨vb,1,none⟩ (.int .i64 x1)).setCell ⟨vb,2,none⟩ (.int .i64 x2)).setCell ⟨vb,3,none⟩ (.int .i64 x3))):=⟨(((HWn.out.setCell HVB.out _).setCell HVB.out _).setCell HVB.out _).setCell HVB.out _⟩
    obtain⟨wv,hwv⟩:∃wv:World,wv=((((wq.setCell ⟨vb,0,none⟩ (.int .i64 x0)).setCell ⟨vb,1,none⟩ (.int .i64 x1)).setCell ⟨vb,2,none⟩ (.int .i64 x2)).setCell ⟨vb,3,none⟩ (.int .i64 x3)):=⟨_,rfl⟩
    rw [←hwv] at HV2 HO2 HW2 ⊢
    clear hwv c0 c1 c2 c3 f0 f1 f2 f3 p0 p1 p2 p3 t1 t2 HVn HOn HWn
    try clear wq
    obtain⟨wq,rfl⟩:∃wq:World,wq=wv:=⟨_,rfl⟩
    have c0:=(blk_cell HV2.out 0).trans (show (#[.int .i64 x0,.int .i64 x1,.int .i64 x2,.int .i64 x3]:Array Value)[0]? = some (.int .i64 x0) from rfl)
    have c1:=(blk_cell HV2.out 1).trans (show (#[.int .i64 x0,.int .i64 x1,.int .i64 x2,.int .i64 x3]:Array Value)[1]? = some (.int .i64 x1) from rfl)
    have c2:=(blk_cell HV2.out 2).trans (show (#[.int .i64 x0,.int .i64 x1,.int .i64 x2,.int .i64 x3]:Array Value)[2]? = some (.int .i64 x2) from rfl)
    have c3:=(blk_cell HV2.out 3).trans (show (#[.int .i64 x0,.int .i64 x1,.int .i64 x2,.int .i64 x3]:Array Value)[3]? = some (.int .i64 x3) from rfl)
    by_cases hz:out = []
    ·have n1 := eq_true (show (out.length : Int) = 0 by rw [hz]; rfl)
     have n2:((out.length:Int) == 0)=true:=beq_iff_eq.2 (by rw [hz];rfl)
     have HZ:=Aside0.mk hz
     clear hz
     go_quiet (fail)
     obtain⟨nq1,rfl⟩:∃m:Nat,m=nq:=⟨_,rfl⟩
     have HVm:=Aside0.mk (show (wq.drewN nq1).heap[vb]? = _ from HV2.out)
     have HOm:=Aside0.mk (Kd.R_drewN HO2.out nq1)
     have HWm:Aside0 (Below wb.heap.size wb (wq.drewN nq1)):=⟨by apply pw_below_drewN;exact HW2.out⟩
     obtain⟨wv,hwv⟩:∃wv:World,wv=wq.drewN nq1:=⟨_,rfl⟩
     rw [←hwv] at HVm HOm HWm ⊢
     clear hwv HV2 HO2 HW2 c0 c1 c2 c3
     try clear wq
     obtain⟨wq,rfl⟩:∃wq:World,wq=wv:=⟨_,rfl⟩
     have HV2:=HVm
     have HO2:=HOm
     have HW2:=HWm
     clear HVm HOm HWm
     clear n1 n2
     have c0:=(blk_cell HV2.out 0).trans (show (#[.int .i64 x0,.int .i64 x1,.int .i64 x2,.int .i64 x3]:Array Value)[0]? = some (.int .i64 x0) from rfl)
     have c1:=(blk_cell HV2.out 1).trans (show (#[.int .i64 x0,.int .i64 x1,.int .i64 x2,.int .i64 x3]:Array Value)[1]? = some (.int .i64 x1) from rfl)
     have c2:=(blk_cell HV2.out 2).trans (show (#[.int .i64 x0,.int .i64 x1,.int .i64 x2,.int .i64 x3]:Array Value)[2]? = some (.int .i64 x2) from rfl)
     have c3:=(blk_cell HV2.out 3).trans (show (#[.int .i64 x0,.int .i64 x1,.int .i64 x2,.int .i64 x3]:Array Value)[3]? = some (.int .i64 x3) from rfl)
     go_wp2_with ((with_reducible refine gate_builtin (b:=.append) (xs:=#[.tmp 83,.tmp 85]) rfl ?_);at_builtin;go_loud (refine Kd.R_append k52 (w0:=wb) wb.heap.size rfl (.tmp 83) (.tmp 85) 82 83 (.agg #[.int .i64 0,.int .i64 0,.int .i64 0,.int .i64 0]) 32 rfl Try.underlying82 infoArr rfl (by decide) (by decide) (.slice Ao out.length co) out ⟨x0,x1,x2,x3⟩ [.int .i64 x0,.int .i64 x1,.int .i64 x2,.int .i64 x3] (fun q=>some q=(Value.slice Ao out.length co).ownBlock∨wq.heap.size≤q) (fun _=>False) rfl rfl (k52_mkM _ _ _ _) (fun _ h=>h.elim) (fun q h=>.inr h) (Kd.R_mono HO2.out (fun q h=>.inl h)) HW2.out HW2.out.size ?ql ?_);(case ql=>have:=HOL.out;have:=Hi.out;have:=HAB.out;omega);intro v1 w9 hr1 hb1 hg1 hat1;have HOz:=Aside0.mk (Kd.R_tight rfl hr1);have HWz:=Aside0.mk hb1;clear hr1 hb1 hg1 hat1)
     have HMM:Aside0 (Mrg cmpOpen a b i (k+1) (out ++ [⟨x0,x1,x2,x3⟩])):=⟨by rw [HX.out];exact(HM.out.symm.push totalOpen HAB.out.2.1 HLT.out HLE.out (fun y hy=>by rw [HZ.out] at hy;cases hy)).symm⟩
     go_wp2
     go_roundg (a.length+b.length - (i+(k+1)))
     case measure=>have:=Hi.out;have:=HLT.out;omega
     case rel=>exact⟨i,k+1,_,by first|rfl|rw [show wrap64 ((i:Int)+1)=((i+1:Nat):Int) by have:=HAB.out;have:=Hi.out;unfold wrap64;omega],by first|rfl|rw [show wrap64 ((k:Int)+1)=((k+1:Nat):Int) by have:=HAB.out;have:=Hi.out;unfold wrap64;omega],⟨by have:=Hi.out;have:=HLT.out;omega,by have:=Hi.out;have:=HLT.out;omega,by omega⟩,⟨HMM.out⟩,HOz,HWz⟩
    obtain ⟨j, hj⟩ : ∃ j : Nat, out.length = j + 1 := ⟨out.length - 1, by have : out.length ≠ 0 := fun e => hz (List.eq_nil_of_length_eq_zero e); omega⟩
    clear hz
    have HJ:=Aside0.mk hj
    have n1:=eq_false (show ¬(out.length:Int)=0 by omega)
    have n2:((out.length:Int) == 0)=false:=beq_eq_false_iff_ne.2 (by omega)
    have n3:(out.length:Int) - 1=(j:Int):=by omega
    have n4:wrap64 ((out.length:Int) - 1)=(j:Int):=by rw [n3];have:=HOL.out;have:=Hi.out;have:=HAB.out;unfold wrap64;omega
    have n7:wrap64 (j:Int)=(j:Int):=by have:=HOL.out;have:=Hi.out;have:=HAB.out;unfold wrap64;omega
    have n5:=eq_true (show (0:Int)≤(j:Int) by omega)
    have n6:=eq_true (show (j:Int) < (out.length:Int) by omega)
    obtain⟨zd,ez,z0,z1,z2,z3⟩:=at_T52 (Kd.R_reads' HO2.out).2.2 (j:Int) (by omega) (by omega)
    rw [zip_mid (by omega),Int.toNat_natCast] at z0 z1 z2 z3
    obtain⟨y,hy⟩:∃y,y=out[j]'(by omega):=⟨_,rfl⟩
    rw [←hy] at z0 z1 z2 z3
    have HYL:Aside0 (out.getLast? = some y):=⟨by rw [List.getLast?_eq_getElem?,hj,Nat.add_sub_cancel,List.getElem?_eq_getElem (by omega),hy]⟩
    clear hy hj
    obtain⟨y0,y1,y2,y3⟩:=y
    first|subst ez|cases ez
    have HEQ:=Aside0.mk (eqOpen_true (x:=⟨y0,y1,y2,y3⟩) (y:=⟨x0,x1,x2,x3⟩))
    change Aside0 ((y0 == x0 && (y1 == x1 && (y2 == x2 && y3 == x3)))=true↔_) at HEQ
    go_quiet (fail)
    obtain⟨nq1,rfl⟩:∃m:Nat,m=nq:=⟨_,rfl⟩
    have HVm:=Aside0.mk (show (wq.drewN nq1).heap[vb]? = _ from HV2.out)
    have HOm:=Aside0.mk (Kd.R_drewN HO2.out nq1)
    have HWm:Aside0 (Below wb.heap.size wb (wq.drewN nq1)):=⟨by apply pw_below_drewN;exact HW2.out⟩
    obtain⟨wv,hwv⟩:∃wv:World,wv=wq.drewN nq1:=⟨_,rfl⟩
    rw [←hwv] at HVm HOm HWm ⊢
    clear hwv HV2 HO2 HW2 c0 c1 c2 c3
    try clear wq
    obtain⟨wq,rfl⟩:∃wq:World,wq=wv:=⟨_,rfl⟩
    have HV2:=HVm
    have HO2:=HOm
    have HW2:=HWm
    clear HVm HOm HWm
    clear n1 n2 n3 n4 n5 n6 n7 z0 z1 z2 z3
    repeat rw [←Bool.not_and]
    generalize (y0 == x0 && (y1 == x1 && (y2 == x2 && y3 == x3)))=be at HEQ ⊢
    cases be with
    | true=>
     have hyx:=HEQ.out.1 rfl
     have HMM:Aside0 (Mrg cmpOpen a b i (k+1) out):=⟨(HM.out.symm.skip HLT.out (by rw [←HX.out,←hyx];exact List.mem_of_getLast? HYL.out)).symm⟩
     clear hyx
     go_wp2
     go_roundg (a.length+b.length - (i+(k+1)))
     case measure=>have:=Hi.out;have:=HLT.out;omega
     case rel=>exact⟨i,k+1,out,by first|rfl|rw [show wrap64 ((i:Int)+1)=((i+1:Nat):Int) by have:=HAB.out;have:=Hi.out;unfold wrap64;omega],by first|rfl|rw [show wrap64 ((k:Int)+1)=((k+1:Nat):Int) by have:=HAB.out;have:=Hi.out;unfold wrap64;omega],⟨by have:=Hi.out;have:=HLT.out;omega,by have:=Hi.out;have:=HLT.out;omega,by omega⟩,⟨HMM.out⟩,HO2,HW2⟩
    | false=>
     have c0:=(blk_cell HV2.out 0).trans (show (#[.int .i64 x0,.int .i64 x1,.int .i64 x2,.int .i64 x3]:Array Value)[0]? = some (.int .i64 x0) from rfl)
     have c1:=(blk_cell HV2.out 1).trans (show (#[.int .i64 x0,.int .i64 x1,.int .i64 x2,.int .i64 x3]:Array Value)[1]? = some (.int .i64 x1) from rfl)
     have c2:=(blk_cell HV2.out 2).trans (show (#[.int .i64 x0,.int .i64 x1,.int .i64 x2,.int .i64 x3]:Array Value)[2]? = some (.int .i64 x2) from rfl)
     have c3:=(blk_cell HV2.out 3).trans (show (#[.int .i64 x0,.int .i64 x1,.int .i64 x2,.int .i64 x3]:Array Value)[3]? = some (.int .i64 x3) from rfl)
     go_wp2_with ((with_reducible refine gate_builtin (b:=.append) (xs:=#[.tmp 83,.tmp 85]) rfl ?_);at_builtin;go_loud (refine Kd.R_append k52 (w0:=wb) wb.heap.size rfl (.tmp 83) (.tmp 85) 82 83 (.agg #[.int .i64 0,.int .i64 0,.int .i64 0,.int .i64 0]) 32 rfl Try.underlying82 infoArr rfl (by decide) (by decide) (.slice (some zd) out.length co) out ⟨x0,x1,x2,x3⟩ [.int .i64 x0,.int .i64 x1,.int .i64 x2,.int .i64 x3] (fun q=>some q=(Value.slice (some zd) out.length co).ownBlock∨wq.heap.size≤q) (fun _=>False) rfl rfl (k52_mkM _ _ _ _) (fun _ h=>h.elim) (fun q h=>.inr h) (Kd.R_mono HO2.out (fun q h=>.inl h)) HW2.out HW2.out.size ?ql ?_);(case ql=>have:=HOL.out;have:=Hi.out;have:=HAB.out;omega);intro v1 w9 hr1 hb1 hg1 hat1;have HOz:=Aside0.mk (Kd.R_tight rfl hr1);have HWz:=Aside0.mk hb1;clear hr1 hb1 hg1 hat1)
     have HMM:Aside0 (Mrg cmpOpen a b i (k+1) (out ++ [⟨x0,x1,x2,x3⟩])):=⟨by rw [HX.out];exact(HM.out.symm.push totalOpen HAB.out.2.1 HLT.out HLE.out (fun y hy e=>by rw [HYL.out] at hy;cases hy;have:=HEQ.out.2 (e.trans HX.out.symm);cases this)).symm⟩
     go_wp2
     go_roundg (a.length+b.length - (i+(k+1)))
     case measure=>have:=Hi.out;have:=HLT.out;omega
     case rel=>exact⟨i,k+1,_,by first|rfl|rw [show wrap64 ((i:Int)+1)=((i+1:Nat):Int) by have:=HAB.out;have:=Hi.out;unfold wrap64;omega],by first|rfl|rw [show wrap64 ((k:Int)+1)=((k+1:Nat):Int) by have:=HAB.out;have:=Hi.out;unfold wrap64;omega],⟨by have:=Hi.out;have:=HLT.out;omega,by have:=Hi.out;have:=HLT.out;omega,by omega⟩,⟨HMM.out⟩,HOz,HWz⟩
   | false=>
    iterate 3 (refine pn_ (v:=?_) (a':=?_) rfl (rfl (a:=some _)) (by kernel_rfl) (fun _ _ _ h=>h) (Or.inl ⟨by rfl,?_⟩) ?_ ?_;rotate_left;(intro w';go_simp;with_reducible rfl);rotate_left;(simp only [Act.put,M.sq3,i64_w,i32_w];rfl))
    refine done_ (by kernel_rfl) ?_
    clear hHeld s1 s2 s3 s4 s5 s6 t1 t2
    have HLE:Aside0 (∀y∈b.drop k,cmpOpen (a[i]'HLTa.out) y≤0):=⟨drop_le totalOpen HAB.out.2.1 HLTb.out (totalOpen.le_of (by have:=of_decide_eq_false HBO.out.symm;rw [HXY.out.1,HXY.out.2] at this;exact this))⟩
    have HLT:=HLTa
    have hia:=HLTa.out
    obtain⟨pd,ep,p0,p1,p2,p3⟩:=at_T52 (Kd.C_below HR1b.out.1 HWn.out) (i:Int) (by omega) (by omega)
    rw [zip_mid hia,Int.toNat_natCast] at p0 p1 p2 p3
    obtain⟨x,hx⟩:∃x,x=a[i]'hia:=⟨_,rfl⟩
    rw [←hx] at p0 p1 p2 p3
    have HX:=Aside0.mk hx
    clear hx
    obtain⟨x0,x1,x2,x3⟩:=x
    have c0:=(blk_cell HVn.out 0).trans (show (#[.int .i64 0,.int .i64 0,.int .i64 0,.int .i64 0]:Array Value)[0]? = some (.int .i64 0) from rfl)
    have c1:=(blk_cell HVn.out 1).trans (show (#[.int .i64 0,.int .i64 0,.int .i64 0,.int .i64 0]:Array Value)[1]? = some (.int .i64 0) from rfl)
    have c2:=(blk_cell HVn.out 2).trans (show (#[.int .i64 0,.int .i64 0,.int .i64 0,.int .i64 0]:Array Value)[2]? = some (.int .i64 0) from rfl)
    have c3:=(blk_cell HVn.out 3).trans (show (#[.int .i64 0,.int .i64 0,.int .i64 0,.int .i64 0]:Array Value)[3]? = some (.int .i64 0) from rfl)
    have f0:=blk_frozen HVn.out 0
    have f1:=blk_frozen HVn.out 1
    have f2:=blk_frozen HVn.out 2
    have f3:=blk_frozen HVn.out 3
    have t1:=eq_true (show (0:Int)≤(i:Int) by omega)
    have t2:=eq_true (show (i:Int) < (a.length:Int) by omega)
    first|subst ep|cases ep
    go_upto_region 14 with (fail)
    have HV2:Aside0 (((((wq.setCell ⟨vb,0,none⟩ (.int .i64 x0)).setCell ⟨vb,1,none⟩ (.int .i64 x1)).setCell ⟨vb,2,none⟩ (.int .i64 x2)).setCell ⟨vb,3,none⟩ (.int .i64 x3)).heap[vb]? = some (.cells #[.int .i64 x0,.int .i64 x1,.int .i64 x2,.int .i64 x3] 83 (0,0))):=⟨blk_set (blk_set (blk_set (blk_set HVn.out 0 _) 1 _) 2 _) 3 _⟩
    have HO2:Aside0 (Kd.R k52 83 ((((wq.setCell ⟨vb,0,none⟩ (.int .i64 x0)).setCell ⟨vb,1,none⟩ (.int .i64 x1)).setCell ⟨vb,2,none⟩ (.int .i64 x2)).setCell ⟨vb,3,none⟩ (.int .i64 x3)) wb.heap.size (fun q=>some q=(Value.slice Ao out.length co).ownBlock) (.slice Ao out.length co) out):=⟨Kd.R_far (p:=⟨vb,3,none⟩) (Kd.R_far (p:=⟨vb,2,none⟩) (Kd.R_far (p:=⟨vb,1,none⟩) (Kd.R_far (p:=⟨vb,0,none⟩) (HOn.out) HNE.out _) HNE.out _) HNE.out _) HNE.out _⟩
    have HW2:Aside0 (Below wb.heap.size wb ((((wq.setCell ⟨vb,0,none⟩ (.int .i64 x0)).setCell ⟨vb,1,none⟩ (.int .i64 x1)).setCell ⟨vb,2,none⟩ (.int .i64 x2)).setCell ⟨vb,3,none⟩ (.int .i64 x3))):=⟨(((HWn.out.setCell HVB.out _).setCell HVB.out _).setCell HVB.out _).setCell HVB.out _⟩
    obtain⟨wv,hwv⟩:∃wv:World,wv=((((wq.setCell ⟨vb,0,none⟩ (.int .i64 x0)).setCell ⟨vb,1,none⟩ (.int .i64 x1)).setCell ⟨vb,2,none⟩ (.int .i64 x2)).setCell ⟨vb,3,none⟩ (.int .i64 x3)):=⟨_,rfl⟩
    rw [←hwv] at HV2 HO2 HW2 ⊢
    clear hwv c0 c1 c2 c3 f0 f1 f2 f3 p0 p1 p2 p3 t1 t2 HVn HOn HWn
    try clear wq
    obtain⟨wq,rfl⟩:∃wq:World,wq=wv:=⟨_,rfl⟩
    have c0:=(blk_cell HV2.out 0).trans (show (#[.int .i64 x0,.int .i64 x1,.int .i64 x2,.int .i64 x3]:Array Value)[0]? = some (.int .i64 x0) from rfl)
    have c1:=(blk_cell HV2.out 1).trans (show (#[.int .i64 x0,.int .i64 x1,.int .i64 x2,.int .i64 x3]:Array Value)[1]? = some (.int .i64 x1) from rfl)
    have c2:=(blk_cell HV2.out 2).trans (show (#[.int .i64 x0,.int .i64 x1,.int .i64 x2,.int .i64 x3]:Array Value)[2]? = some (.int .i64 x2) from rfl)
    have c3:=(blk_cell HV2.out 3).trans (show (#[.int .i64 x0,.int .i64 x1,.int .i64 x2,.int .i64 x3]:Array Value)[3]? = some (.int .i64 x3) from rfl)
    by_cases hz:out = []
    ·have n1 := eq_true (show (out.length : Int) = 0 by rw [hz]; rfl)
     have n2:((out.length:Int) == 0)=true:=beq_iff_eq.2 (by rw [hz];rfl)
     have HZ:=Aside0.mk hz
     clear hz
     go_quiet (fail)
     obtain⟨nq1,rfl⟩:∃m:Nat,m=nq:=⟨_,rfl⟩
     have HVm:=Aside0.mk (show (wq.drewN nq1).heap[vb]? = _ from HV2.out)
     have HOm:=Aside0.mk (Kd.R_drewN HO2.out nq1)
     have HWm:Aside0 (Below wb.heap.size wb (wq.drewN nq1)):=⟨by apply pw_below_drewN;exact HW2.out⟩
     obtain⟨wv,hwv⟩:∃wv:World,wv=wq.drewN nq1:=⟨_,rfl⟩
     rw [←hwv] at HVm HOm HWm ⊢
     clear hwv HV2 HO2 HW2 c0 c1 c2 c3
     try clear wq
     obtain⟨wq,rfl⟩:∃wq:World,wq=wv:=⟨_,rfl⟩
     have HV2:=HVm
     have HO2:=HOm
     have HW2:=HWm
     clear HVm HOm HWm
     clear n1 n2
     have c0:=(blk_cell HV2.out 0).trans (show (#[.int .i64 x0,.int .i64 x1,.int .i64 x2,.int .i64 x3]:Array Value)[0]? = some (.int .i64 x0) from rfl)
     have c1:=(blk_cell HV2.out 1).trans (show (#[.int .i64 x0,.int .i64 x1,.int .i64 x2,.int .i64 x3]:Array Value)[1]? = some (.int .i64 x1) from rfl)
     have c2:=(blk_cell HV2.out 2).trans (show (#[.int .i64 x0,.int .i64 x1,.int .i64 x2,.int .i64 x3]:Array Value)[2]? = some (.int .i64 x2) from rfl)
     have c3:=(blk_cell HV2.out 3).trans (show (#[.int .i64 x0,.int .i64 x1,.int .i64 x2,.int .i64 x3]:Array Value)[3]? = some (.int .i64 x3) from rfl)
     go_wp2_with ((with_reducible refine gate_builtin (b:=.append) (xs:=#[.tmp 83,.tmp 85]) rfl ?_);at_builtin;go_loud (refine Kd.R_append k52 (w0:=wb) wb.heap.size rfl (.tmp 83) (.tmp 85) 82 83 (.agg #[.int .i64 0,.int .i64 0,.int .i64 0,.int .i64 0]) 32 rfl Try.underlying82 infoArr rfl (by decide) (by decide) (.slice Ao out.length co) out ⟨x0,x1,x2,x3⟩ [.int .i64 x0,.int .i64 x1,.int .i64 x2,.int .i64 x3] (fun q=>some q=(Value.slice Ao out.length co).ownBlock∨wq.heap.size≤q) (fun _=>False) rfl rfl (k52_mkM _ _ _ _) (fun _ h=>h.elim) (fun q h=>.inr h) (Kd.R_mono HO2.out (fun q h=>.inl h)) HW2.out HW2.out.size ?ql ?_);(case ql=>have:=HOL.out;have:=Hi.out;have:=HAB.out;omega);intro v1 w9 hr1 hb1 hg1 hat1;have HOz:=Aside0.mk (Kd.R_tight rfl hr1);have HWz:=Aside0.mk hb1;clear hr1 hb1 hg1 hat1)
     have HMM:Aside0 (Mrg cmpOpen a b (i+1) k (out ++ [⟨x0,x1,x2,x3⟩])):=⟨by rw [HX.out];exact HM.out.push totalOpen HAB.out.1 HLT.out HLE.out (fun y hy=>by rw [HZ.out] at hy;cases hy)⟩
     go_wp2
     go_roundg (a.length+b.length - (i+1+k))
     case measure=>have:=Hi.out;have:=HLT.out;omega
     case rel=>exact⟨i+1,k,_,by first|rfl|rw [show wrap64 ((i:Int)+1)=((i+1:Nat):Int) by have:=HAB.out;have:=Hi.out;unfold wrap64;omega],by first|rfl|rw [show wrap64 ((k:Int)+1)=((k+1:Nat):Int) by have:=HAB.out;have:=Hi.out;unfold wrap64;omega],⟨by have:=Hi.out;have:=HLT.out;omega,by have:=Hi.out;have:=HLT.out;omega,by omega⟩,⟨HMM.out⟩,HOz,HWz⟩
    obtain ⟨j, hj⟩ : ∃ j : Nat, out.length = j + 1 := ⟨out.length - 1, by have : out.length ≠ 0 := fun e => hz (List.eq_nil_of_length_eq_zero e); omega⟩
    clear hz
    have HJ:=Aside0.mk hj
    have n1:=eq_false (show ¬(out.length:Int)=0 by omega)
    have n2:((out.length:Int) == 0)=false:=beq_eq_false_iff_ne.2 (by omega)
    have n3:(out.length:Int) - 1=(j:Int):=by omega
    have n4:wrap64 ((out.length:Int) - 1)=(j:Int):=by rw [n3];have:=HOL.out;have:=Hi.out;have:=HAB.out;unfold wrap64;omega
    have n7:wrap64 (j:Int)=(j:Int):=by have:=HOL.out;have:=Hi.out;have:=HAB.out;unfold wrap64;omega
    have n5:=eq_true (show (0:Int)≤(j:Int) by omega)
    have n6:=eq_true (show (j:Int) < (out.length:Int) by omega)
    obtain⟨zd,ez,z0,z1,z2,z3⟩:=at_T52 (Kd.R_reads' HO2.out).2.2 (j:Int) (by omega) (by omega)
    rw [zip_mid (by omega),Int.toNat_natCast] at z0 z1 z2 z3
    obtain⟨y,hy⟩:∃y,y=out[j]'(by omega):=⟨_,rfl⟩
    rw [←hy] at z0 z1 z2 z3
    have HYL:Aside0 (out.getLast? = some y):=⟨by rw [List.getLast?_eq_getElem?,hj,Nat.add_sub_cancel,List.getElem?_eq_getElem (by omega),hy]⟩
    clear hy hj
    obtain⟨y0,y1,y2,y3⟩:=y
    first|subst ez|cases ez
    have HEQ:=Aside0.mk (eqOpen_true (x:=⟨y0,y1,y2,y3⟩) (y:=⟨x0,x1,x2,x3⟩))
    change Aside0 ((y0 == x0 && (y1 == x1 && (y2 == x2 && y3 == x3)))=true↔_) at HEQ
    go_quiet (fail)
    obtain⟨nq1,rfl⟩:∃m:Nat,m=nq:=⟨_,rfl⟩
    have HVm:=Aside0.mk (show (wq.drewN nq1).heap[vb]? = _ from HV2.out)
    have HOm:=Aside0.mk (Kd.R_drewN HO2.out nq1)
    have HWm:Aside0 (Below wb.heap.size wb (wq.drewN nq1)):=⟨by apply pw_below_drewN;exact HW2.out⟩
    obtain⟨wv,hwv⟩:∃wv:World,wv=wq.drewN nq1:=⟨_,rfl⟩
    rw [←hwv] at HVm HOm HWm ⊢
    clear hwv HV2 HO2 HW2 c0 c1 c2 c3
    try clear wq
    obtain⟨wq,rfl⟩:∃wq:World,wq=wv:=⟨_,rfl⟩
    have HV2:=HVm
    have HO2:=HOm
    have HW2:=HWm
    clear HVm HOm HWm
    clear n1 n2 n3 n4 n5 n6 n7 z0 z1 z2 z3
    repeat rw [←Bool.not_and]
    generalize (y0 == x0 && (y1 == x1 && (y2 == x2 && y3 == x3)))=be at HEQ ⊢
    cases be with
    | true=>
     have hyx:=HEQ.out.1 rfl
     have HMM:Aside0 (Mrg cmpOpen a b (i+1) k out):=⟨HM.out.skip HLT.out (by rw [←HX.out,←hyx];exact List.mem_of_getLast? HYL.out)⟩
     clear hyx
     go_wp2
     go_roundg (a.length+b.length - (i+1+k))
     case measure=>have:=Hi.out;have:=HLT.out;omega
     case rel=>exact⟨i+1,k,out,by first|rfl|rw [show wrap64 ((i:Int)+1)=((i+1:Nat):Int) by have:=HAB.out;have:=Hi.out;unfold wrap64;omega],by first|rfl|rw [show wrap64 ((k:Int)+1)=((k+1:Nat):Int) by have:=HAB.out;have:=Hi.out;unfold wrap64;omega],⟨by have:=Hi.out;have:=HLT.out;omega,by have:=Hi.out;have:=HLT.out;omega,by omega⟩,⟨HMM.out⟩,HO2,HW2⟩
    | false=>
     have c0:=(blk_cell HV2.out 0).trans (show (#[.int .i64 x0,.int .i64 x1,.int .i64 x2,.int .i64 x3]:Array Value)[0]? = some (.int .i64 x0) from rfl)
     have c1:=(blk_cell HV2.out 1).trans (show (#[.int .i64 x0,.int .i64 x1,.int .i64 x2,.int .i64 x3]:Array Value)[1]? = some (.int .i64 x1) from rfl)
     have c2:=(blk_cell HV2.out 2).trans (show (#[.int .i64 x0,.int .i64 x1,.int .i64 x2,.int .i64 x3]:Array Value)[2]? = some (.int .i64 x2) from rfl)
     have c3:=(blk_cell HV2.out 3).trans (show (#[.int .i64 x0,.int .i64 x1,.int .i64 x2,.int .i64 x3]:Array Value)[3]? = some (.int .i64 x3) from rfl)
     go_wp2_with ((with_reducible refine gate_builtin (b:=.append) (xs:=#[.tmp 83,.tmp 85]) rfl ?_);at_builtin;go_loud (refine Kd.R_append k52 (w0:=wb) wb.heap.size rfl (.tmp 83) (.tmp 85) 82 83 (.agg #[.int .i64 0,.int .i64 0,.int .i64 0,.int .i64 0]) 32 rfl Try.underlying82 infoArr rfl (by decide) (by decide) (.slice (some zd) out.length co) out ⟨x0,x1,x2,x3⟩ [.int .i64 x0,.int .i64 x1,.int .i64 x2,.int .i64 x3] (fun q=>some q=(Value.slice (some zd) out.length co).ownBlock∨wq.heap.size≤q) (fun _=>False) rfl rfl (k52_mkM _ _ _ _) (fun _ h=>h.elim) (fun q h=>.inr h) (Kd.R_mono HO2.out (fun q h=>.inl h)) HW2.out HW2.out.size ?ql ?_);(case ql=>have:=HOL.out;have:=Hi.out;have:=HAB.out;omega);intro v1 w9 hr1 hb1 hg1 hat1;have HOz:=Aside0.mk (Kd.R_tight rfl hr1);have HWz:=Aside0.mk hb1;clear hr1 hb1 hg1 hat1)
     have HMM:Aside0 (Mrg cmpOpen a b (i+1) k (out ++ [⟨x0,x1,x2,x3⟩])):=⟨by rw [HX.out];exact HM.out.push totalOpen HAB.out.1 HLT.out HLE.out (fun y hy e=>by rw [HYL.out] at hy;cases hy;have:=HEQ.out.2 (e.trans HX.out.symm);cases this)⟩
     go_wp2
     go_roundg (a.length+b.length - (i+1+k))
     case measure=>have:=Hi.out;have:=HLT.out;omega
     case rel=>exact⟨i+1,k,_,by first|rfl|rw [show wrap64 ((i:Int)+1)=((i+1:Nat):Int) by have:=HAB.out;have:=Hi.out;unfold wrap64;omega],by first|rfl|rw [show wrap64 ((k:Int)+1)=((k+1:Nat):Int) by have:=HAB.out;have:=Hi.out;unfold wrap64;omega],⟨by have:=Hi.out;have:=HLT.out;omega,by have:=Hi.out;have:=HLT.out;omega,by omega⟩,⟨HMM.out⟩,HOz,HWz⟩
  have HLT := Aside0.mk hia
  have s1:=eq_true (show (i:Int) < (a.length:Int) by have:=Hi.out;omega)
  have s2:=decide_eq_true (show (i:Int) < (a.length:Int) by have:=Hi.out;omega)
  have s3:=eq_false (show ¬(k:Int) < (b.length:Int) by have:=Hi.out;omega)
  have s4:=decide_eq_false (show ¬(k:Int) < (b.length:Int) by have:=Hi.out;omega)
  have s5:=eq_true (show (k:Int)=(b.length:Int) by have:=Hi.out;omega)
  have s6:((k:Int) == (b.length:Int))=true:=beq_iff_eq.2 (by have:=Hi.out;omega)
  have HVB0:Aside0 (wb.heap.size≤wq.heap.size):=⟨HW.out.size⟩
  have HLE:Aside0 (∀y∈b.drop k,cmpOpen (a[i]'HLT.out) y≤0):=⟨fun y hy=>by rw [List.drop_of_length_le (by omega)] at hy;cases hy⟩
  clear hkb
  have HVn:Aside0 ((wq.alloc (.cells #[.int .i64 0,.int .i64 0,.int .i64 0,.int .i64 0] 83)).heap[wq.heap.size]? = some (.cells #[.int .i64 0,.int .i64 0,.int .i64 0,.int .i64 0] 83 (0,0))):=⟨blk_newAt _ rfl⟩
  have HOn:=Aside0.mk (Kd.R_alloc HO.out (.cells #[.int .i64 0,.int .i64 0,.int .i64 0,.int .i64 0] 83))
  have HWn:Aside0 (Below wb.heap.size wb (wq.alloc (.cells #[.int .i64 0,.int .i64 0,.int .i64 0,.int .i64 0] 83))):=⟨below_alloc HW.out _⟩
  have HNE:Aside0 (∀q,some q=(Value.slice Ao out.length co).ownBlock→q≠wq.heap.size):=⟨fun q hq e=>by have:=Kd.R_lt HO.out q hq.symm;omega⟩
  go_upto_region 8 with (fail)
  obtain⟨wv,hwv⟩:∃wv:World,wv=wq.alloc (.cells #[.int .i64 0,.int .i64 0,.int .i64 0,.int .i64 0] 83):=⟨_,rfl⟩
  rw [←hwv] at HVn HOn HWn ⊢
  generalize wq.heap.size=vb at HVn HNE HVB0 ⊢
  have HVB:=HVB0
  clear hwv HO HW HVB0
  try clear wq
  obtain⟨wq,rfl⟩:∃wq:World,wq=wv:=⟨_,rfl⟩
  go_quiet (fail)
  obtain⟨nq1,rfl⟩:∃m:Nat,m=nq:=⟨_,rfl⟩
  have HVm:=Aside0.mk (show (wq.drewN nq1).heap[vb]? = _ from HVn.out)
  have HOm:Aside0 (Kd.R k52 83 (wq.drewN nq1) wb.heap.size (fun q=>some q=(Value.slice Ao out.length co).ownBlock) (.slice Ao out.length co) out):=⟨Kd.R_drewN HOn.out _⟩
  have HWm:Aside0 (Below wb.heap.size wb (wq.drewN nq1)):=⟨by apply pw_below_drewN;exact HWn.out⟩
  obtain⟨wv,hwv⟩:∃wv:World,wv=wq.drewN nq1:=⟨_,rfl⟩
  rw [←hwv] at HVm HOm HWm ⊢
  clear hwv HVn HOn HWn 
  try clear wq
  obtain⟨wq,rfl⟩:∃wq:World,wq=wv:=⟨_,rfl⟩
  have HVn:=HVm
  have HOn:=HOm
  have HWn:=HWm
  clear HVm HOm HWm
  clear s1 s2 s3 s4 s5 s6
  obtain⟨pd,ep,p0,p1,p2,p3⟩:=at_T52 (Kd.C_below HR1b.out.1 HWn.out) (i:Int) (by omega) (by omega)
  rw [zip_mid hia,Int.toNat_natCast] at p0 p1 p2 p3
  obtain⟨x,hx⟩:∃x,x=a[i]'hia:=⟨_,rfl⟩
  rw [←hx] at p0 p1 p2 p3
  have HX:=Aside0.mk hx
  clear hx
  obtain⟨x0,x1,x2,x3⟩:=x
  have c0:=(blk_cell HVn.out 0).trans (show (#[.int .i64 0,.int .i64 0,.int .i64 0,.int .i64 0]:Array Value)[0]? = some (.int .i64 0) from rfl)
  have c1:=(blk_cell HVn.out 1).trans (show (#[.int .i64 0,.int .i64 0,.int .i64 0,.int .i64 0]:Array Value)[1]? = some (.int .i64 0) from rfl)
  have c2:=(blk_cell HVn.out 2).trans (show (#[.int .i64 0,.int .i64 0,.int .i64 0,.int .i64 0]:Array Value)[2]? = some (.int .i64 0) from rfl)
  have c3:=(blk_cell HVn.out 3).trans (show (#[.int .i64 0,.int .i64 0,.int .i64 0,.int .i64 0]:Array Value)[3]? = some (.int .i64 0) from rfl)
  have f0:=blk_frozen HVn.out 0
  have f1:=blk_frozen HVn.out 1
  have f2:=blk_frozen HVn.out 2
  have f3:=blk_frozen HVn.out 3
  have t1:=eq_true (show (0:Int)≤(i:Int) by omega)
  have t2:=eq_true (show (i:Int) < (a.length:Int) by omega)
  first|subst ep|cases ep
  go_upto_region 14 with (fail)
  have HV2:Aside0 (((((wq.setCell ⟨vb,0,none⟩ (.int .i64 x0)).setCell ⟨vb,1,none⟩ (.int .i64 x1)).setCell ⟨vb,2,none⟩ (.int .i64 x2)).setCell ⟨vb,3,none⟩ (.int .i64 x3)).heap[vb]? = some (.cells #[.int .i64 x0,.int .i64 x1,.int .i64 x2,.int .i64 x3] 83 (0,0))):=⟨blk_set (blk_set (blk_set (blk_set HVn.out 0 _) 1 _) 2 _) 3 _⟩
  have HO2:Aside0 (Kd.R k52 83 ((((wq.setCell ⟨vb,0,none⟩ (.int .i64 x0)).setCell ⟨vb,1,none⟩ (.int .i64 x1)).setCell ⟨vb,2,none⟩ (.int .i64 x2)).setCell ⟨vb,3,none⟩ (.int .i64 x3)) wb.heap.size (fun q=>some q=(Value.slice Ao out.length co).ownBlock) (.slice Ao out.length co) out):=⟨Kd.R_far (p:=⟨vb,3,none⟩) (Kd.R_far (p:=⟨vb,2,none⟩) (Kd.R_far (p:=⟨vb,1,none⟩) (Kd.R_far (p:=⟨vb,0,none⟩) (HOn.out) HNE.out _) HNE.out _) HNE.out _) HNE.out _⟩
  have HW2:Aside0 (Below wb.heap.size wb ((((wq.setCell ⟨vb,0,none⟩ (.int .i64 x0)).setCell ⟨vb,1,none⟩ (.int .i64 x1)).setCell ⟨vb,2,none⟩ (.int .i64 x2)).setCell ⟨vb,3,none⟩ (.int .i64 x3))):=⟨(((HWn.out.setCell HVB.out _).setCell HVB.out _).setCell HVB.out _).setCell HVB.out _⟩
  obtain⟨wv,hwv⟩:∃wv:World,wv=((((wq.setCell ⟨vb,0,none⟩ (.int .i64 x0)).setCell ⟨vb,1,none⟩ (.int .i64 x1)).setCell ⟨vb,2,none⟩ (.int .i64 x2)).setCell ⟨vb,3,none⟩ (.int .i64 x3)):=⟨_,rfl⟩
  rw [←hwv] at HV2 HO2 HW2 ⊢
  clear hwv c0 c1 c2 c3 f0 f1 f2 f3 p0 p1 p2 p3 t1 t2 HVn HOn HWn
  try clear wq
  obtain⟨wq,rfl⟩:∃wq:World,wq=wv:=⟨_,rfl⟩
  have c0:=(blk_cell HV2.out 0).trans (show (#[.int .i64 x0,.int .i64 x1,.int .i64 x2,.int .i64 x3]:Array Value)[0]? = some (.int .i64 x0) from rfl)
  have c1:=(blk_cell HV2.out 1).trans (show (#[.int .i64 x0,.int .i64 x1,.int .i64 x2,.int .i64 x3]:Array Value)[1]? = some (.int .i64 x1) from rfl)
  have c2:=(blk_cell HV2.out 2).trans (show (#[.int .i64 x0,.int .i64 x1,.int .i64 x2,.int .i64 x3]:Array Value)[2]? = some (.int .i64 x2) from rfl)
  have c3:=(blk_cell HV2.out 3).trans (show (#[.int .i64 x0,.int .i64 x1,.int .i64 x2,.int .i64 x3]:Array Value)[3]? = some (.int .i64 x3) from rfl)
  by_cases hz:out = []
  ·have n1 := eq_true (show (out.length : Int) = 0 by rw [hz]; rfl)
   have n2:((out.length:Int) == 0)=true:=beq_iff_eq.2 (by rw [hz];rfl)
   have HZ:=Aside0.mk hz
   clear hz
   go_quiet (fail)
   obtain⟨nq1,rfl⟩:∃m:Nat,m=nq:=⟨_,rfl⟩
   have HVm:=Aside0.mk (show (wq.drewN nq1).heap[vb]? = _ from HV2.out)
   have HOm:=Aside0.mk (Kd.R_drewN HO2.out nq1)
   have HWm:Aside0 (Below wb.heap.size wb (wq.drewN nq1)):=⟨by apply pw_below_drewN;exact HW2.out⟩
   obtain⟨wv,hwv⟩:∃wv:World,wv=wq.drewN nq1:=⟨_,rfl⟩
   rw [←hwv] at HVm HOm HWm ⊢
   clear hwv HV2 HO2 HW2 c0 c1 c2 c3
   try clear wq
   obtain⟨wq,rfl⟩:∃wq:World,wq=wv:=⟨_,rfl⟩
   have HV2:=HVm
   have HO2:=HOm
   have HW2:=HWm
   clear HVm HOm HWm
   clear n1 n2
   have c0:=(blk_cell HV2.out 0).trans (show (#[.int .i64 x0,.int .i64 x1,.int .i64 x2,.int .i64 x3]:Array Value)[0]? = some (.int .i64 x0) from rfl)
   have c1:=(blk_cell HV2.out 1).trans (show (#[.int .i64 x0,.int .i64 x1,.int .i64 x2,.int .i64 x3]:Array Value)[1]? = some (.int .i64 x1) from rfl)
   have c2:=(blk_cell HV2.out 2).trans (show (#[.int .i64 x0,.int .i64 x1,.int .i64 x2,.int .i64 x3]:Array Value)[2]? = some (.int .i64 x2) from rfl)
   have c3:=(blk_cell HV2.out 3).trans (show (#[.int .i64 x0,.int .i64 x1,.int .i64 x2,.int .i64 x3]:Array Value)[3]? = some (.int .i64 x3) from rfl)
   go_wp2_with ((with_reducible refine gate_builtin (b:=.append) (xs:=#[.tmp 83,.tmp 85]) rfl ?_);at_builtin;go_loud (refine Kd.R_append k52 (w0:=wb) wb.heap.size rfl (.tmp 83) (.tmp 85) 82 83 (.agg #[.int .i64 0,.int .i64 0,.int .i64 0,.int .i64 0]) 32 rfl Try.underlying82 infoArr rfl (by decide) (by decide) (.slice Ao out.length co) out ⟨x0,x1,x2,x3⟩ [.int .i64 x0,.int .i64 x1,.int .i64 x2,.int .i64 x3] (fun q=>some q=(Value.slice Ao out.length co).ownBlock∨wq.heap.size≤q) (fun _=>False) rfl rfl (k52_mkM _ _ _ _) (fun _ h=>h.elim) (fun q h=>.inr h) (Kd.R_mono HO2.out (fun q h=>.inl h)) HW2.out HW2.out.size ?ql ?_);(case ql=>have:=HOL.out;have:=Hi.out;have:=HAB.out;omega);intro v1 w9 hr1 hb1 hg1 hat1;have HOz:=Aside0.mk (Kd.R_tight rfl hr1);have HWz:=Aside0.mk hb1;clear hr1 hb1 hg1 hat1)
   have HMM:Aside0 (Mrg cmpOpen a b (i+1) k (out ++ [⟨x0,x1,x2,x3⟩])):=⟨by rw [HX.out];exact HM.out.push totalOpen HAB.out.1 HLT.out HLE.out (fun y hy=>by rw [HZ.out] at hy;cases hy)⟩
   go_wp2
   go_roundg (a.length+b.length - (i+1+k))
   case measure=>have:=Hi.out;have:=HLT.out;omega
   case rel=>exact⟨i+1,k,_,by first|rfl|rw [show wrap64 ((i:Int)+1)=((i+1:Nat):Int) by have:=HAB.out;have:=Hi.out;unfold wrap64;omega],by first|rfl|rw [show wrap64 ((k:Int)+1)=((k+1:Nat):Int) by have:=HAB.out;have:=Hi.out;unfold wrap64;omega],⟨by have:=Hi.out;have:=HLT.out;omega,by have:=Hi.out;have:=HLT.out;omega,by omega⟩,⟨HMM.out⟩,HOz,HWz⟩
  obtain ⟨j, hj⟩ : ∃ j : Nat, out.length = j + 1 := ⟨out.length - 1, by have : out.length ≠ 0 := fun e => hz (List.eq_nil_of_length_eq_zero e); omega⟩
  clear hz
  have HJ:=Aside0.mk hj
  have n1:=eq_false (show ¬(out.length:Int)=0 by omega)
  have n2:((out.length:Int) == 0)=false:=beq_eq_false_iff_ne.2 (by omega)
  have n3:(out.length:Int) - 1=(j:Int):=by omega
  have n4:wrap64 ((out.length:Int) - 1)=(j:Int):=by rw [n3];have:=HOL.out;have:=Hi.out;have:=HAB.out;unfold wrap64;omega
  have n7:wrap64 (j:Int)=(j:Int):=by have:=HOL.out;have:=Hi.out;have:=HAB.out;unfold wrap64;omega
  have n5:=eq_true (show (0:Int)≤(j:Int) by omega)
  have n6:=eq_true (show (j:Int) < (out.length:Int) by omega)
  obtain⟨zd,ez,z0,z1,z2,z3⟩:=at_T52 (Kd.R_reads' HO2.out).2.2 (j:Int) (by omega) (by omega)
  rw [zip_mid (by omega),Int.toNat_natCast] at z0 z1 z2 z3
  obtain⟨y,hy⟩:∃y,y=out[j]'(by omega):=⟨_,rfl⟩
  rw [←hy] at z0 z1 z2 z3
  have HYL:Aside0 (out.getLast? = some y):=⟨by rw [List.getLast?_eq_getElem?,hj,Nat.add_sub_cancel,List.getElem?_eq_getElem (by omega),hy]⟩
  clear hy hj
  obtain⟨y0,y1,y2,y3⟩:=y
  first|subst ez|cases ez
  have HEQ:=Aside0.mk (eqOpen_true (x:=⟨y0,y1,y2,y3⟩) (y:=⟨x0,x1,x2,x3⟩))
  change Aside0 ((y0 == x0 && (y1 == x1 && (y2 == x2 && y3 == x3)))=true↔_) at HEQ
  go_quiet (fail)
  obtain⟨nq1,rfl⟩:∃m:Nat,m=nq:=⟨_,rfl⟩
  have HVm:=Aside0.mk (show (wq.drewN nq1).heap[vb]? = _ from HV2.out)
  have HOm:=Aside0.mk (Kd.R_drewN HO2.out nq1)
  have HWm:Aside0 (Below wb.heap.size wb (wq.drewN nq1)):=⟨by apply pw_below_drewN;exact HW2.out⟩
  obtain⟨wv,hwv⟩:∃wv:World,wv=wq.drewN nq1:=⟨_,rfl⟩
  rw [←hwv] at HVm HOm HWm ⊢
  clear hwv HV2 HO2 HW2 c0 c1 c2 c3
  try clear wq
  obtain⟨wq,rfl⟩:∃wq:World,wq=wv:=⟨_,rfl⟩
  have HV2:=HVm
  have HO2:=HOm
  have HW2:=HWm
  clear HVm HOm HWm
  clear n1 n2 n3 n4 n5 n6 n7 z0 z1 z2 z3
  repeat rw [←Bool.not_and]
  generalize (y0 == x0 && (y1 == x1 && (y2 == x2 && y3 == x3)))=be at HEQ ⊢
  cases be with
  | true=>
   have hyx:=HEQ.out.1 rfl
   have HMM:Aside0 (Mrg cmpOpen a b (i+1) k out):=⟨HM.out.skip HLT.out (by rw [←HX.out,←hyx];exact List.mem_of_getLast? HYL.out)⟩
   clear hyx
   go_wp2
   go_roundg (a.length+b.length - (i+1+k))
   case measure=>have:=Hi.out;have:=HLT.out;omega
   case rel=>exact⟨i+1,k,out,by first|rfl|rw [show wrap64 ((i:Int)+1)=((i+1:Nat):Int) by have:=HAB.out;have:=Hi.out;unfold wrap64;omega],by first|rfl|rw [show wrap64 ((k:Int)+1)=((k+1:Nat):Int) by have:=HAB.out;have:=Hi.out;unfold wrap64;omega],⟨by have:=Hi.out;have:=HLT.out;omega,by have:=Hi.out;have:=HLT.out;omega,by omega⟩,⟨HMM.out⟩,HO2,HW2⟩
  | false=>
   have c0:=(blk_cell HV2.out 0).trans (show (#[.int .i64 x0,.int .i64 x1,.int .i64 x2,.int .i64 x3]:Array Value)[0]? = some (.int .i64 x0) from rfl)
   have c1:=(blk_cell HV2.out 1).trans (show (#[.int .i64 x0,.int .i64 x1,.int .i64 x2,.int .i64 x3]:Array Value)[1]? = some (.int .i64 x1) from rfl)
   have c2:=(blk_cell HV2.out 2).trans (show (#[.int .i64 x0,.int .i64 x1,.int .i64 x2,.int .i64 x3]:Array Value)[2]? = some (.int .i64 x2) from rfl)
   have c3:=(blk_cell HV2.out 3).trans (show (#[.int .i64 x0,.int .i64 x1,.int .i64 x2,.int .i64 x3]:Array Value)[3]? = some (.int .i64 x3) from rfl)
   go_wp2_with ((with_reducible refine gate_builtin (b:=.append) (xs:=#[.tmp 83,.tmp 85]) rfl ?_);at_builtin;go_loud (refine Kd.R_append k52 (w0:=wb) wb.heap.size rfl (.tmp 83) (.tmp 85) 82 83 (.agg #[.int .i64 0,.int .i64 0,.int .i64 0,.int .i64 0]) 32 rfl Try.underlying82 infoArr rfl (by decide) (by decide) (.slice (some zd) out.length co) out ⟨x0,x1,x2,x3⟩ [.int .i64 x0,.int .i64 x1,.int .i64 x2,.int .i64 x3] (fun q=>some q=(Value.slice (some zd) out.length co).ownBlock∨wq.heap.size≤q) (fun _=>False) rfl rfl (k52_mkM _ _ _ _) (fun _ h=>h.elim) (fun q h=>.inr h) (Kd.R_mono HO2.out (fun q h=>.inl h)) HW2.out HW2.out.size ?ql ?_);(case ql=>have:=HOL.out;have:=Hi.out;have:=HAB.out;omega);intro v1 w9 hr1 hb1 hg1 hat1;have HOz:=Aside0.mk (Kd.R_tight rfl hr1);have HWz:=Aside0.mk hb1;clear hr1 hb1 hg1 hat1)
   have HMM:Aside0 (Mrg cmpOpen a b (i+1) k (out ++ [⟨x0,x1,x2,x3⟩])):=⟨by rw [HX.out];exact HM.out.push totalOpen HAB.out.1 HLT.out HLE.out (fun y hy e=>by rw [HYL.out] at hy;cases hy;have:=HEQ.out.2 (e.trans HX.out.symm);cases this)⟩
   go_wp2
   go_roundg (a.length+b.length - (i+1+k))
   case measure=>have:=Hi.out;have:=HLT.out;omega
   case rel=>exact⟨i+1,k,_,by first|rfl|rw [show wrap64 ((i:Int)+1)=((i+1:Nat):Int) by have:=HAB.out;have:=Hi.out;unfold wrap64;omega],by first|rfl|rw [show wrap64 ((k:Int)+1)=((k+1:Nat):Int) by have:=HAB.out;have:=Hi.out;unfold wrap64;omega],⟨by have:=Hi.out;have:=HLT.out;omega,by have:=Hi.out;have:=HLT.out;omega,by omega⟩,⟨HMM.out⟩,HOz,HWz⟩
 by_cases hkb : k < b.length
 ·have HLT := Aside0.mk hkb
  have s1:=eq_false (show ¬(i:Int) < (a.length:Int) by have:=Hi.out;omega)
  have s2:=decide_eq_false (show ¬(i:Int) < (a.length:Int) by have:=Hi.out;omega)
  have s3:=eq_true (show (k:Int) < (b.length:Int) by have:=Hi.out;omega)
  have s4:=decide_eq_true (show (k:Int) < (b.length:Int) by have:=Hi.out;omega)
  have s5:=eq_false (show ¬(k:Int)=(b.length:Int) by have:=Hi.out;omega)
  have s6:((k:Int) == (b.length:Int))=false:=beq_eq_false_iff_ne.2 (by have:=Hi.out;omega)
  have HVB0:Aside0 (wb.heap.size≤wq.heap.size):=⟨HW.out.size⟩
  have HLE:Aside0 (∀y∈a.drop i,cmpOpen (b[k]'HLT.out) y≤0):=⟨fun y hy=>by rw [List.drop_of_length_le (by omega)] at hy;cases hy⟩
  clear hia
  have HVn:Aside0 ((wq.alloc (.cells #[.int .i64 0,.int .i64 0,.int .i64 0,.int .i64 0] 83)).heap[wq.heap.size]? = some (.cells #[.int .i64 0,.int .i64 0,.int .i64 0,.int .i64 0] 83 (0,0))):=⟨blk_newAt _ rfl⟩
  have HOn:=Aside0.mk (Kd.R_alloc HO.out (.cells #[.int .i64 0,.int .i64 0,.int .i64 0,.int .i64 0] 83))
  have HWn:Aside0 (Below wb.heap.size wb (wq.alloc (.cells #[.int .i64 0,.int .i64 0,.int .i64 0,.int .i64 0] 83))):=⟨below_alloc HW.out _⟩
  have HNE:Aside0 (∀q,some q=(Value.slice Ao out.length co).ownBlock→q≠wq.heap.size):=⟨fun q hq e=>by have:=Kd.R_lt HO.out q hq.symm;omega⟩
  go_upto_region 8 with (fail)
  obtain⟨wv,hwv⟩:∃wv:World,wv=wq.alloc (.cells #[.int .i64 0,.int .i64 0,.int .i64 0,.int .i64 0] 83):=⟨_,rfl⟩
  rw [←hwv] at HVn HOn HWn ⊢
  generalize wq.heap.size=vb at HVn HNE HVB0 ⊢
  have HVB:=HVB0
  clear hwv HO HW HVB0
  try clear wq
  obtain⟨wq,rfl⟩:∃wq:World,wq=wv:=⟨_,rfl⟩
  go_quiet (fail)
  obtain⟨nq1,rfl⟩:∃m:Nat,m=nq:=⟨_,rfl⟩
  have HVm:=Aside0.mk (show (wq.drewN nq1).heap[vb]? = _ from HVn.out)
  have HOm:Aside0 (Kd.R k52 83 (wq.drewN nq1) wb.heap.size (fun q=>some q=(Value.slice Ao out.length co).ownBlock) (.slice Ao out.length co) out):=⟨Kd.R_drewN HOn.out _⟩
  have HWm:Aside0 (Below wb.heap.size wb (wq.drewN nq1)):=⟨by apply pw_below_drewN;exact HWn.out⟩
  obtain⟨wv,hwv⟩:∃wv:World,wv=wq.drewN nq1:=⟨_,rfl⟩
  rw [←hwv] at HVm HOm HWm ⊢
  clear hwv HVn HOn HWn 
  try clear wq
  obtain⟨wq,rfl⟩:∃wq:World,wq=wv:=⟨_,rfl⟩
  have HVn:=HVm
  have HOn:=HOm
  have HWn:=HWm
  clear HVm HOm HWm
  clear s1 s2 s3 s4 s5 s6
  obtain⟨pd,ep,p0,p1,p2,p3⟩:=at_T52 (Kd.C_below HR2.out.1 HWn.out) (k:Int) (by omega) (by omega)
  rw [zip_mid hkb,Int.toNat_natCast] at p0 p1 p2 p3
  obtain⟨x,hx⟩:∃x,x=b[k]'hkb:=⟨_,rfl⟩
  rw [←hx] at p0 p1 p2 p3
  have HX:=Aside0.mk hx
  clear hx
  obtain⟨x0,x1,x2,x3⟩:=x
  have c0:=(blk_cell HVn.out 0).trans (show (#[.int .i64 0,.int .i64 0,.int .i64 0,.int .i64 0]:Array Value)[0]? = some (.int .i64 0) from rfl)
  have c1:=(blk_cell HVn.out 1).trans (show (#[.int .i64 0,.int .i64 0,.int .i64 0,.int .i64 0]:Array Value)[1]? = some (.int .i64 0) from rfl)
  have c2:=(blk_cell HVn.out 2).trans (show (#[.int .i64 0,.int .i64 0,.int .i64 0,.int .i64 0]:Array Value)[2]? = some (.int .i64 0) from rfl)
  have c3:=(blk_cell HVn.out 3).trans (show (#[.int .i64 0,.int .i64 0,.int .i64 0,.int .i64 0]:Array Value)[3]? = some (.int .i64 0) from rfl)
  have f0:=blk_frozen HVn.out 0
  have f1:=blk_frozen HVn.out 1
  have f2:=blk_frozen HVn.out 2
  have f3:=blk_frozen HVn.out 3
  have t1:=eq_true (show (0:Int)≤(k:Int) by omega)
  have t2:=eq_true (show (k:Int) < (b.length:Int) by omega)
  first|subst ep|cases ep
  go_upto_region 14 with (fail)
  have HV2:Aside0 (((((wq.setCell ⟨vb,0,none⟩ (.int .i64 x0)).setCell ⟨vb,1,none⟩ (.int .i64 x1)).setCell ⟨vb,2,none⟩ (.int .i64 x2)).setCell ⟨vb,3,none⟩ (.int .i64 x3)).heap[vb]? = some (.cells #[.int .i64 x0,.int .i64 x1,.int .i64 x2,.int .i64 x3] 83 (0,0))):=⟨blk_set (blk_set (blk_set (blk_set HVn.out 0 _) 1 _) 2 _) 3 _⟩
  have HO2:Aside0 (Kd.R k52 83 ((((wq.setCell ⟨vb,0,none⟩ (.int .i64 x0)).setCell ⟨vb,1,none⟩ (.int .i64 x1)).setCell ⟨vb,2,none⟩ (.int .i64 x2)).setCell ⟨vb,3,none⟩ (.int .i64 x3)) wb.heap.size (fun q=>some q=(Value.slice Ao out.length co).ownBlock) (.slice Ao out.length co) out):=⟨Kd.R_far (p:=⟨vb,3,none⟩) (Kd.R_far (p:=⟨vb,2,none⟩) (Kd.R_far (p:=⟨vb,1,none⟩) (Kd.R_far (p:=⟨vb,0,none⟩) (HOn.out) HNE.out _) HNE.out _) HNE.out _) HNE.out _⟩
  have HW2:Aside0 (Below wb.heap.size wb ((((wq.setCell ⟨vb,0,none⟩ (.int .i64 x0)).setCell ⟨vb,1,none⟩ (.int .i64 x1)).setCell ⟨vb,2,none⟩ (.int .i64 x2)).setCell ⟨vb,3,none⟩ (.int .i64 x3))):=⟨(((HWn.out.setCell HVB.out _).setCell HVB.out _).setCell HVB.out _).setCell HVB.out _⟩
  obtain⟨wv,hwv⟩:∃wv:World,wv=((((wq.setCell ⟨vb,0,none⟩ (.int .i64 x0)).setCell ⟨vb,1,none⟩ (.int .i64 x1)).setCell ⟨vb,2,none⟩ (.int .i64 x2)).setCell ⟨vb,3,none⟩ (.int .i64 x3)):=⟨_,rfl⟩
  rw [←hwv] at HV2 HO2 HW2 ⊢
  clear hwv c0 c1 c2 c3 f0 f1 f2 f3 p0 p1 p2 p3 t1 t2 HVn HOn HWn
  try clear wq
  obtain⟨wq,rfl⟩:∃wq:World,wq=wv:=⟨_,rfl⟩
  have c0:=(blk_cell HV2.out 0).trans (show (#[.int .i64 x0,.int .i64 x1,.int .i64 x2,.int .i64 x3]:Array Value)[0]? = some (.int .i64 x0) from rfl)
  have c1:=(blk_cell HV2.out 1).trans (show (#[.int .i64 x0,.int .i64 x1,.int .i64 x2,.int .i64 x3]:Array Value)[1]? = some (.int .i64 x1) from rfl)
  have c2:=(blk_cell HV2.out 2).trans (show (#[.int .i64 x0,.int .i64 x1,.int .i64 x2,.int .i64 x3]:Array Value)[2]? = some (.int .i64 x2) from rfl)
  have c3:=(blk_cell HV2.out 3).trans (show (#[.int .i64 x0,.int .i64 x1,.int .i64 x2,.int .i64 x3]:Array Value)[3]? = some (.int .i64 x3) from rfl)
  by_cases hz:out = []
  ·have n1 := eq_true (show (out.length : Int) = 0 by rw [hz]; rfl)
   have n2:((out.length:Int) == 0)=true:=beq_iff_eq.2 (by rw [hz];rfl)
   have HZ:=Aside0.mk hz
   clear hz
   go_quiet (fail)
   obtain⟨nq1,rfl⟩:∃m:Nat,m=nq:=⟨_,rfl⟩
   have HVm:=Aside0.mk (show (wq.drewN nq1).heap[vb]? = _ from HV2.out)
   have HOm:=Aside0.mk (Kd.R_drewN HO2.out nq1)
   have HWm:Aside0 (Below wb.heap.size wb (wq.drewN nq1)):=⟨by apply pw_below_drewN;exact HW2.out⟩
   obtain⟨wv,hwv⟩:∃wv:World,wv=wq.drewN nq1:=⟨_,rfl⟩
   rw [←hwv] at HVm HOm HWm ⊢
   clear hwv HV2 HO2 HW2 c0 c1 c2 c3
   try clear wq
   obtain⟨wq,rfl⟩:∃wq:World,wq=wv:=⟨_,rfl⟩
   have HV2:=HVm
   have HO2:=HOm
   have HW2:=HWm
   clear HVm HOm HWm
   clear n1 n2
   have c0:=(blk_cell HV2.out 0).trans (show (#[.int .i64 x0,.int .i64 x1,.int .i64 x2,.int .i64 x3]:Array Value)[0]? = some (.int .i64 x0) from rfl)
   have c1:=(blk_cell HV2.out 1).trans (show (#[.int .i64 x0,.int .i64 x1,.int .i64 x2,.int .i64 x3]:Array Value)[1]? = some (.int .i64 x1) from rfl)
   have c2:=(blk_cell HV2.out 2).trans (show (#[.int .i64 x0,.int .i64 x1,.int .i64 x2,.int .i64 x3]:Array Value)[2]? = some (.int .i64 x2) from rfl)
   have c3:=(blk_cell HV2.out 3).trans (show (#[.int .i64 x0,.int .i64 x1,.int .i64 x2,.int .i64 x3]:Array Value)[3]? = some (.int .i64 x3) from rfl)
   go_wp2_with ((with_reducible refine gate_builtin (b:=.append) (xs:=#[.tmp 83,.tmp 85]) rfl ?_);at_builtin;go_loud (refine Kd.R_append k52 (w0:=wb) wb.heap.size rfl (.tmp 83) (.tmp 85) 82 83 (.agg #[.int .i64 0,.int .i64 0,.int .i64 0,.int .i64 0]) 32 rfl Try.underlying82 infoArr rfl (by decide) (by decide) (.slice Ao out.length co) out ⟨x0,x1,x2,x3⟩ [.int .i64 x0,.int .i64 x1,.int .i64 x2,.int .i64 x3] (fun q=>some q=(Value.slice Ao out.length co).ownBlock∨wq.heap.size≤q) (fun _=>False) rfl rfl (k52_mkM _ _ _ _) (fun _ h=>h.elim) (fun q h=>.inr h) (Kd.R_mono HO2.out (fun q h=>.inl h)) HW2.out HW2.out.size ?ql ?_);(case ql=>have:=HOL.out;have:=Hi.out;have:=HAB.out;omega);intro v1 w9 hr1 hb1 hg1 hat1;have HOz:=Aside0.mk (Kd.R_tight rfl hr1);have HWz:=Aside0.mk hb1;clear hr1 hb1 hg1 hat1)
   have HMM:Aside0 (Mrg cmpOpen a b i (k+1) (out ++ [⟨x0,x1,x2,x3⟩])):=⟨by rw [HX.out];exact(HM.out.symm.push totalOpen HAB.out.2.1 HLT.out HLE.out (fun y hy=>by rw [HZ.out] at hy;cases hy)).symm⟩
   go_wp2
   go_roundg (a.length+b.length - (i+(k+1)))
   case measure=>have:=Hi.out;have:=HLT.out;omega
   case rel=>exact⟨i,k+1,_,by first|rfl|rw [show wrap64 ((i:Int)+1)=((i+1:Nat):Int) by have:=HAB.out;have:=Hi.out;unfold wrap64;omega],by first|rfl|rw [show wrap64 ((k:Int)+1)=((k+1:Nat):Int) by have:=HAB.out;have:=Hi.out;unfold wrap64;omega],⟨by have:=Hi.out;have:=HLT.out;omega,by have:=Hi.out;have:=HLT.out;omega,by omega⟩,⟨HMM.out⟩,HOz,HWz⟩
  obtain ⟨j, hj⟩ : ∃ j : Nat, out.length = j + 1 := ⟨out.length - 1, by have : out.length ≠ 0 := fun e => hz (List.eq_nil_of_length_eq_zero e); omega⟩
  clear hz
  have HJ:=Aside0.mk hj
  have n1:=eq_false (show ¬(out.length:Int)=0 by omega)
  have n2:((out.length:Int) == 0)=false:=beq_eq_false_iff_ne.2 (by omega)
  have n3:(out.length:Int) - 1=(j:Int):=by omega
  have n4:wrap64 ((out.length:Int) - 1)=(j:Int):=by rw [n3];have:=HOL.out;have:=Hi.out;have:=HAB.out;unfold wrap64;omega
  have n7:wrap64 (j:Int)=(j:Int):=by have:=HOL.out;have:=Hi.out;have:=HAB.out;unfold wrap64;omega
  have n5:=eq_true (show (0:Int)≤(j:Int) by omega)
  have n6:=eq_true (show (j:Int) < (out.length:Int) by omega)
  obtain⟨zd,ez,z0,z1,z2,z3⟩:=at_T52 (Kd.R_reads' HO2.out).2.2 (j:Int) (by omega) (by omega)
  rw [zip_mid (by omega),Int.toNat_natCast] at z0 z1 z2 z3
  obtain⟨y,hy⟩:∃y,y=out[j]'(by omega):=⟨_,rfl⟩
  rw [←hy] at z0 z1 z2 z3
  have HYL:Aside0 (out.getLast? = some y):=⟨by rw [List.getLast?_eq_getElem?,hj,Nat.add_sub_cancel,List.getElem?_eq_getElem (by omega),hy]⟩
  clear hy hj
  obtain⟨y0,y1,y2,y3⟩:=y
  first|subst ez|cases ez
  have HEQ:=Aside0.mk (eqOpen_true (x:=⟨y0,y1,y2,y3⟩) (y:=⟨x0,x1,x2,x3⟩))
  change Aside0 ((y0 == x0 && (y1 == x1 && (y2 == x2 && y3 == x3)))=true↔_) at HEQ
  go_quiet (fail)
  obtain⟨nq1,rfl⟩:∃m:Nat,m=nq:=⟨_,rfl⟩
  have HVm:=Aside0.mk (show (wq.drewN nq1).heap[vb]? = _ from HV2.out)
  have HOm:=Aside0.mk (Kd.R_drewN HO2.out nq1)
  have HWm:Aside0 (Below wb.heap.size wb (wq.drewN nq1)):=⟨by apply pw_below_drewN;exact HW2.out⟩
  obtain⟨wv,hwv⟩:∃wv:World,wv=wq.drewN nq1:=⟨_,rfl⟩
  rw [←hwv] at HVm HOm HWm ⊢
  clear hwv HV2 HO2 HW2 c0 c1 c2 c3
  try clear wq
  obtain⟨wq,rfl⟩:∃wq:World,wq=wv:=⟨_,rfl⟩
  have HV2:=HVm
  have HO2:=HOm
  have HW2:=HWm
  clear HVm HOm HWm
  clear n1 n2 n3 n4 n5 n6 n7 z0 z1 z2 z3
  repeat rw [←Bool.not_and]
  generalize (y0 == x0 && (y1 == x1 && (y2 == x2 && y3 == x3)))=be at HEQ ⊢
  cases be with
  | true=>
   have hyx:=HEQ.out.1 rfl
   have HMM:Aside0 (Mrg cmpOpen a b i (k+1) out):=⟨(HM.out.symm.skip HLT.out (by rw [←HX.out,←hyx];exact List.mem_of_getLast? HYL.out)).symm⟩
   clear hyx
   go_wp2
   go_roundg (a.length+b.length - (i+(k+1)))
   case measure=>have:=Hi.out;have:=HLT.out;omega
   case rel=>exact⟨i,k+1,out,by first|rfl|rw [show wrap64 ((i:Int)+1)=((i+1:Nat):Int) by have:=HAB.out;have:=Hi.out;unfold wrap64;omega],by first|rfl|rw [show wrap64 ((k:Int)+1)=((k+1:Nat):Int) by have:=HAB.out;have:=Hi.out;unfold wrap64;omega],⟨by have:=Hi.out;have:=HLT.out;omega,by have:=Hi.out;have:=HLT.out;omega,by omega⟩,⟨HMM.out⟩,HO2,HW2⟩
  | false=>
   have c0:=(blk_cell HV2.out 0).trans (show (#[.int .i64 x0,.int .i64 x1,.int .i64 x2,.int .i64 x3]:Array Value)[0]? = some (.int .i64 x0) from rfl)
   have c1:=(blk_cell HV2.out 1).trans (show (#[.int .i64 x0,.int .i64 x1,.int .i64 x2,.int .i64 x3]:Array Value)[1]? = some (.int .i64 x1) from rfl)
   have c2:=(blk_cell HV2.out 2).trans (show (#[.int .i64 x0,.int .i64 x1,.int .i64 x2,.int .i64 x3]:Array Value)[2]? = some (.int .i64 x2) from rfl)
   have c3:=(blk_cell HV2.out 3).trans (show (#[.int .i64 x0,.int .i64 x1,.int .i64 x2,.int .i64 x3]:Array Value)[3]? = some (.int .i64 x3) from rfl)
   go_wp2_with ((with_reducible refine gate_builtin (b:=.append) (xs:=#[.tmp 83,.tmp 85]) rfl ?_);at_builtin;go_loud (refine Kd.R_append k52 (w0:=wb) wb.heap.size rfl (.tmp 83) (.tmp 85) 82 83 (.agg #[.int .i64 0,.int .i64 0,.int .i64 0,.int .i64 0]) 32 rfl Try.underlying82 infoArr rfl (by decide) (by decide) (.slice (some zd) out.length co) out ⟨x0,x1,x2,x3⟩ [.int .i64 x0,.int .i64 x1,.int .i64 x2,.int .i64 x3] (fun q=>some q=(Value.slice (some zd) out.length co).ownBlock∨wq.heap.size≤q) (fun _=>False) rfl rfl (k52_mkM _ _ _ _) (fun _ h=>h.elim) (fun q h=>.inr h) (Kd.R_mono HO2.out (fun q h=>.inl h)) HW2.out HW2.out.size ?ql ?_);(case ql=>have:=HOL.out;have:=Hi.out;have:=HAB.out;omega);intro v1 w9 hr1 hb1 hg1 hat1;have HOz:=Aside0.mk (Kd.R_tight rfl hr1);have HWz:=Aside0.mk hb1;clear hr1 hb1 hg1 hat1)
   have HMM:Aside0 (Mrg cmpOpen a b i (k+1) (out ++ [⟨x0,x1,x2,x3⟩])):=⟨by rw [HX.out];exact(HM.out.symm.push totalOpen HAB.out.2.1 HLT.out HLE.out (fun y hy e=>by rw [HYL.out] at hy;cases hy;have:=HEQ.out.2 (e.trans HX.out.symm);cases this)).symm⟩
   go_wp2
   go_roundg (a.length+b.length - (i+(k+1)))
   case measure=>have:=Hi.out;have:=HLT.out;omega
   case rel=>exact⟨i,k+1,_,by first|rfl|rw [show wrap64 ((i:Int)+1)=((i+1:Nat):Int) by have:=HAB.out;have:=Hi.out;unfold wrap64;omega],by first|rfl|rw [show wrap64 ((k:Int)+1)=((k+1:Nat):Int) by have:=HAB.out;have:=Hi.out;unfold wrap64;omega],⟨by have:=Hi.out;have:=HLT.out;omega,by have:=Hi.out;have:=HLT.out;omega,by omega⟩,⟨HMM.out⟩,HOz,HWz⟩
 have e4 : i = a.length := by have := Hi.out; omega
 have e5:k=b.length:=by have:=Hi.out;omega
 have HE:Aside0 (out=onceC cmpOpen l):=⟨HEND.out out (by have:=HM.out;rw [e4,e5] at this;exact this)⟩
 clear e4 e5
 have s1:=eq_false (show ¬(i:Int) < (a.length:Int) by have:=Hi.out;omega)
 have s2:=decide_eq_false (show ¬(i:Int) < (a.length:Int) by have:=Hi.out;omega)
 have s3:=eq_false (show ¬(k:Int) < (b.length:Int) by have:=Hi.out;omega)
 have s4:=decide_eq_false (show ¬(k:Int) < (b.length:Int) by have:=Hi.out;omega)
 have s5:=eq_true (show (k:Int)=(b.length:Int) by have:=Hi.out;omega)
 have s6:((k:Int) == (b.length:Int))=true:=beq_iff_eq.2 (by have:=Hi.out;omega)
 have HRO:=Aside0.mk (Kd.R_reads' HO.out)
 have HWE:Aside0 (Below w.heap.size w wq):=⟨below_then HBwb.out HBwb.out.size HW.out⟩
 go_wp2
 go_ret
 unfold rowsPost
 rw [←HE.out]
 exact⟨Ao,co,rfl,HRO.out.2.2,HRO.out.2.1,HWE.out⟩
theorem rows_own:∀(n:Nat) (A:Option Addr) (c:Nat) (l:List TOpen) (w:World),l.length≤n→l.length≤1000000000→Kd.C k52 w A l.length l→l.length≤c→Calls Try.prog 42 #[.slice A l.length c] w (rowsPost l w)
 | n,A,c,l,w,hn,hl,hr,hc=>by
  by_cases h2:l.length < 2
  ·exact rows_small A c l w hr hc h2
  cases n with
  | zero=>omega
  | succ n=>exact rows_big A c l w hr hc h2 hl (fun A c m w hm hr hc=>rows_own n A c m w (by omega) (by omega) hr hc)
end Go.Proofs.Ytjkhdldgmkkhjaa.P
