/- Words and walks of this claim: TkInside. -/
import Derived.Test.YtjkhdldgmkkhjaaIMFar
import Derived.Test.YtjkhdldgmkkhjaaITkBack
set_option linter.unusedVariables false
set_option linter.unusedSimpArgs false
set_option linter.unnecessarySimpa false
namespace Go.Proofs.Ytjkhdldgmkkhjaa.P
open Go.RowKit Go.Proofs.YtjkhdldgmkkhjaaW.PrintWords Go.Proofs.YtjkhdldgmkkhjaaW.PrintLast Go.Proofs.YtjkhdldgmkkhjaaW.PrintMore Go.Proofs.Ytjkhdldgmkkhjaa.M
def okIn (n s:Int):Bool:=decide (0≤s) && decide (s < n)
def pO (r:TOpen):List Int:=[r.f0,r.f2]
def pC (r:TClose):List Int:=[r.f0,r.f3]
def pN (r:TInner):List Int:=[r.f0,r.f2]
def insL (init final:List Int) (os:List TOpen) (cs:List TClose) (is:List TInner):List Int:=init ++ final ++ is.flatMap pN ++ os.flatMap pO ++ cs.flatMap pC
def insB (n:Int) (init final:List Int) (os:List TOpen) (cs:List TClose) (is:List TInner):Bool:=(insL init final os cs is).all (okIn n)
theorem ins_of {n:Int} {init final:List Int} {os:List TOpen} {cs:List TClose} {is:List TInner} (h:insB n init final os cs is=true):Ins n init final os cs is:=by
 unfold insB at h
 rw [List.all_eq_true] at h
 have ok:∀s∈insL init final os cs is,inN n s:=fun s hs=>by
  have:=h s hs
  unfold okIn at this
  simp only [Bool.and_eq_true,decide_eq_true_eq] at this
  exact this
 unfold insL at ok
 simp only [List.mem_append,List.mem_flatMap] at ok
 exact⟨fun s hs=>ok s (.inl (.inl (.inl (.inl hs)))),fun s hs=>ok s (.inl (.inl (.inl (.inr hs)))),
  fun r hr=>⟨ok _ (.inl (.inr ⟨r,hr,by simp [pO]⟩)),ok _ (.inl (.inr ⟨r,hr,by simp [pO]⟩))⟩,
  fun r hr=>⟨ok _ (.inr ⟨r,hr,by simp [pC]⟩),ok _ (.inr ⟨r,hr,by simp [pC]⟩)⟩,
  fun r hr=>⟨ok _ (.inl (.inl (.inr ⟨r,hr,by simp [pN]⟩))),ok _ (.inl (.inl (.inr ⟨r,hr,by simp [pN]⟩)))⟩⟩
theorem fm_len {α:Type} (f:α→List Int) (h:∀r,(f r).length=2):∀l:List α,(l.flatMap f).length=2*l.length
 | []=>rfl
 | r :: l=>by rw [List.flatMap_cons,List.length_append,h,fm_len f h l,List.length_cons];omega
theorem fm_next {α:Type} (f:α→List Int) (l:List α) (i:Nat) (h:i < l.length):(l.take (i+1)).flatMap f=(l.take i).flatMap f ++ f l[i]:=by
 rw [List.take_add_one,List.getElem?_eq_getElem h,List.flatMap_append]
 simp
structure InR (w w' : World) (ga:Nat) (AG:Array Value) (v:Value) (acc:List Int):Prop where
 b:Below w.heap.size w w'
 a:w'.heap[ga]? = some (.cells AG 30 (0,0))
 r:(Kd.int .i64).R 3 w' w.heap.size (fun _=>True) v acc
theorem InR.below {w w' w2:World} {ga:Nat} {AG:Array Value} {v:Value} {acc:List Int} (h:InR w w' ga AG v acc) (hb:Below w'.heap.size w' w2):InR w w2 ga AG v acc:=⟨below_then h.b h.b.size hb,blk_below h.a hb,Kd.R_below h.r hb⟩
def In5r.T:Bool × List (List Nat × List Nat):=(true,[([],[]),([],[]),([1],[1]),([],[]),([2,3],[2,3]),([4],[4]),([5],[5]),([],[]),([7],[7]),([],[]),([8,9],[8,9]),([10],[10]),([11],[11]),([6,12],[6,12]),([0,13],[0,13]),([14,14,0,1,2,3,4,5,6,7,8,9,10,11,12,13,14],[0,14])])
def In5r.B:List Nat:=[0,0,2,0,14,30,62,0,128,0,896,1920,3968,8190,16383,32767]
theorem In5r.tab:rtab .any (opsOf Try.f43 5)=In5r.T:=by kernel_rfl
theorem In5r.bits:waitsOk In5r.T.2 In5r.B=true:=by kernel_rfl
def In9r.T:Bool × List (List Nat × List Nat):=(true,[([],[]),([],[]),([1],[1]),([],[]),([2,3],[2,3]),([4],[4]),([5],[5]),([],[]),([7],[7]),([],[]),([8,9],[8,9]),([10],[10]),([11],[11]),([6,12],[6,12]),([0,13],[0,13]),([14,14,0,1,2,3,4,5,6,7,8,9,10,11,12,13,14],[0,14])])
def In9r.B:List Nat:=[0,0,2,0,14,30,62,0,128,0,896,1920,3968,8190,16383,32767]
theorem In9r.tab:rtab .any (opsOf Try.f43 9)=In9r.T:=by kernel_rfl
theorem In9r.bits:waitsOk In9r.T.2 In9r.B=true:=by kernel_rfl
def In13r.T:Bool × List (List Nat × List Nat):=(true,[([],[]),([],[]),([1],[1]),([],[]),([2,3],[2,3]),([4],[4]),([5],[5]),([],[]),([7],[7]),([],[]),([8,9],[8,9]),([10],[10]),([11],[11]),([6,12],[6,12]),([0,13],[0,13]),([14,14,0,1,2,3,4,5,6,7,8,9,10,11,12,13,14],[0,14])])
def In13r.B:List Nat:=[0,0,2,0,14,30,62,0,128,0,896,1920,3968,8190,16383,32767]
theorem In13r.tab:rtab .any (opsOf Try.f43 13)=In13r.T:=by kernel_rfl
theorem In13r.bits:waitsOk In13r.T.2 In13r.B=true:=by kernel_rfl
set_option maxHeartbeats 16000000 in
set_option maxRecDepth 100000 in
theorem inside_own (n g:Int) (A2:Option Addr) (c2:Nat) (l2:List Int) (A3:Option Addr) (c3:Nat) (l3:List Int) (A4:Option Addr) (c4:Nat) (l4:List TOpen) (A5:Option Addr) (c5:Nat) (l5:List TClose) (A6:Option Addr) (c6:Nat) (l6:List TInner) (w:World) (h2:Kd.C (Kd.int .i64) w A2 l2.length l2) (hc2:l2.length≤c2) (hl2:l2.length≤1000000) (h3:Kd.C (Kd.int .i64) w A3 l3.length l3) (hc3:l3.length≤c3) (hl3:l3.length≤1000000) (h4:Kd.C k52 w A4 l4.length l4) (hc4:l4.length≤c4) (hl4:l4.length≤1000000) (h5:Kd.C k54 w A5 l5.length l5) (hc5:l5.length≤c5) (hl5:l5.length≤1000000) (h6:Kd.C k56 w A6 l6.length l6) (hc6:l6.length≤c6) (hl6:l6.length≤1000000) :
 Calls Try.prog 43 #[.agg #[.int .i64 n,.int .i64 g,.slice A2 l2.length c2,.slice A3 l3.length c3,.slice A4 l4.length c4,.slice A5 l5.length c5,.slice A6 l6.length c6]] w fun e w'=>e=.returned (.bool (insB n l2 l3 l4 l5 l6))∧Below w.heap.size w w':=by
 have HI2:=Aside0.mk (And.intro h2 (And.intro hc2 hl2))
 have HI3:=Aside0.mk (And.intro h3 (And.intro hc3 hl3))
 have HI4:=Aside0.mk (And.intro h4 (And.intro hc4 hl4))
 have HI5:=Aside0.mk (And.intro h5 (And.intro hc5 hl5))
 have HI6:=Aside0.mk (And.intro h6 (And.intro hc6 hl6))
 clear h2 hc2 hl2 h3 hc3 hl3 h4 hc4 hl4 h5 hc5 hl5 h6 hc6 hl6
 obtain⟨rv,hrv⟩:∃rv,rv=insB n l2 l3 l4 l5 l6:=⟨_,rfl⟩
 rw [←hrv]
 have HRV:=Aside0.mk hrv
 clear hrv
 go_enter Try.func43,Try.ntmps43
 go_upto_region 1 with (fail)
 have HA:Aside0 ((w.alloc (.cells #[.int .i64 n,.int .i64 g,.slice A2 l2.length c2,.slice A3 l3.length c3,.slice A4 l4.length c4,.slice A5 l5.length c5,.slice A6 l6.length c6] 30)).heap[w.heap.size]? = some (.cells #[.int .i64 n,.int .i64 g,.slice A2 l2.length c2,.slice A3 l3.length c3,.slice A4 l4.length c4,.slice A5 l5.length c5,.slice A6 l6.length c6] 30 (0,0))):=⟨blk_newAt _ rfl⟩
 have HB:Aside0 (Below w.heap.size w (w.alloc (.cells #[.int .i64 n,.int .i64 g,.slice A2 l2.length c2,.slice A3 l3.length c3,.slice A4 l4.length c4,.slice A5 l5.length c5,.slice A6 l6.length c6] 30))):=⟨below_alloc (Below.refl _ _) _⟩
 obtain⟨wq,hwq⟩:∃wq:World,wq=(w.alloc (.cells #[.int .i64 n,.int .i64 g,.slice A2 l2.length c2,.slice A3 l3.length c3,.slice A4 l4.length c4,.slice A5 l5.length c5,.slice A6 l6.length c6] 30)):=⟨_,rfl⟩
 rw [←hwq] at HA HB ⊢
 clear hwq
 obtain⟨ga,hga⟩:∃ga,ga=w.heap.size:=⟨_,rfl⟩
 rewrite [←hga] at HA ⊢
 clear hga
 refine start_ (n:=8) (S:=fun w'=>w'.cell? ⟨ga,2,none⟩=some (.slice A2 l2.length c2)∧w'.cell? ⟨ga,3,none⟩=some (.slice A3 l3.length c3)) (ds:=[]) (pm 0 8) (by kernel_rfl) rfl rfl ⟨(blk_cell (blk_drew HA.out) 2).trans rfl,(blk_cell (blk_drew HA.out) 3).trans rfl⟩ (fun hHeld=>?_)
 have HAd:=Aside0.mk (blk_drew HA.out)
 have HBd:Aside0 (Below w.heap.size w wq.drew):=⟨below_drew HB.out⟩
 clear HA HB
 obtain⟨wd,hwd⟩:∃wd:World,wd=wq.drew:=⟨_,rfl⟩
 rw [←hwd] at HAd HBd hHeld ⊢
 clear hwd
 try clear wq
 refine po_ 1 (v:=?_) (a':=?_) rfl (rfl (a:=some _)) (by kernel_rfl) (fun _ _ _ h=>h) (Or.inl ⟨by rfl,?_⟩) ?_ ?_;rotate_left;(intro w';go_simp;with_reducible rfl);rotate_left;(simp only [Act.put,M.sq3,i64_w,i32_w];rfl)
 refine to_ 2 (v:=?_) (a':=?_) rfl (rfl (a:=some _)) (by kernel_rfl) (fun _ _ _ h=>h) (Or.inl ⟨by rfl,?_⟩) hHeld ?_ ?_;rotate_left;(intro w' hS_;obtain⟨s0,s1⟩:=hS_;go_simp;with_reducible rfl);rotate_left;(simp only [Act.put,M.sq3,i64_w,i32_w];rfl)
 refine po_ 4 (v:=?_) (a':=?_) rfl (rfl (a:=some _)) (by kernel_rfl) (fun _ _ _ h=>h) (Or.inl ⟨by rfl,?_⟩) ?_ ?_;rotate_left;(intro w';go_simp;with_reducible rfl);rotate_left;(simp only [Act.put,M.sq3,i64_w,i32_w];rfl)
 refine to_ 5 (v:=?_) (a':=?_) rfl (rfl (a:=some _)) (by kernel_rfl) (fun _ _ _ h=>h) (Or.inl ⟨by rfl,?_⟩) hHeld ?_ ?_;rotate_left;(intro w' hS_;obtain⟨s0,s1⟩:=hS_;go_simp;with_reducible rfl);rotate_left;(simp only [Act.put,M.sq3,i64_w,i32_w];rfl)
 refine one_ (i:=0) (N:=(some 8)) #[true,true,true,false,true,true,false,false] rfl rfl (by kernel_rfl) (by decide) (fun K hK=>?_)
 refine Kd.R_lit_step (Kd.int .i64) _ 3 ?hg (N:=8) ?hd (xs:=([]:List Int)) (inner:=[]) (ok:=fun _=>True) (okp:=fun _=>True) ?hr ?hp (fun _ hk=>hk) trivial (Below.refl _ _) (Nat.le_refl _) (by simp) ?_
 case hd=>rfl
 case hg=>rfl
 case hr=>first|(go_simp;done)|(go_simp;rfl)
 case hp=>exact(Reps.none _ _)
 intro v0 wa ho hb hg_ hn_
 clear hg_ hn_
 have HX0:=Aside0.mk ho
 have HBa:=Aside0.mk hb
 obtain⟨A0_,c0_,rfl⟩:=Kd.R_slice HX0.out
 have HAa:=Aside0.mk (blk_below HAd.out hb)
 clear ho hb
 clear hHeld
 refine hK.out _ _ ⟨(blk_cell HAa.out 2).trans rfl,(blk_cell HAa.out 3).trans rfl⟩ (fun hHeld=>?_)
 clear hK K
 refine norm_ (a':=?_) ?_ ?_
 rotate_left
 ·show Act.put _ (some 8) _ = _
  simp only [Act.put,M.sq3,i64_w,i32_w]
  rfl
 refine one_ (i:=3) (N:=(some 11)) (pm 6 2) rfl rfl (by kernel_rfl) (by decide) (fun K hK=>?_)
 refine Kd.R_append_rows_step (Kd.int .i64) (w0:=wd) wd.heap.size (by rfl) (.tmp 8) (.tmp 10) 22 3 (.int .i64 0) 8 rfl Try.underlying22 infoInt rfl (by decide) (by omega) (.slice A0_ ([]:List Int).length c0_) [] l2 _ _ _ (fun _=>True) (fun _=>False) rfl rfl HX0.out (Kd.C_below (Kd.C_below HI2.out.1 HBd.out) HBa.out) (fun _ _ h=>h) (fun _ h=>h.elim) (fun _ _=>trivial) HBa.out HBa.out.size ?aL ?_
 case aL=>have:=HI2.out;have:=HI3.out;first|omega|(simp;omega)
 intro v1 wb ho hb hg_ hn_
 clear hg_ hn_
 have HX1:=Aside0.mk ho
 have HBwb:=Aside0.mk hb
 have HAwb:=Aside0.mk (blk_below HAd.out hb)
 clear ho hb
 clear hHeld
 refine hK.out _ _ ⟨(blk_cell HAwb.out 2).trans rfl,(blk_cell HAwb.out 3).trans rfl⟩ (fun hHeld=>?_)
 clear hK K
 refine norm_ (a':=?_) ?_ ?_
 rotate_left
 ·show Act.put _ (some 11) _ = _
  simp only [Act.put,M.sq3,i64_w,i32_w]
  rfl
 obtain⟨y1,hy1⟩:∃y,y=([]:List Int) ++ l2:=⟨_,rfl⟩
 rw [←hy1] at HX1
 obtain⟨A1_,c1_,rfl⟩:=Kd.R_slice HX1.out
 have HY1:Aside0 (y1=l2):=⟨hy1⟩
 have HYL:Aside0 (y1.length≤1000000):=⟨by rw [HY1.out];exact HI2.out.2.2⟩
 clear hy1
 refine one_ (i:=6) (N:=(some 14)) (pm 7 1) rfl rfl (by kernel_rfl) (by decide) (fun K hK=>?_)
 refine Kd.R_append_rows_step (Kd.int .i64) (w0:=wd) wd.heap.size (by rfl) (.tmp 11) (.tmp 13) 22 3 (.int .i64 0) 8 rfl Try.underlying22 infoInt rfl (by decide) (by omega) (.slice A1_ y1.length c1_) y1 l3 _ _ _ (fun _=>True) (fun _=>False) rfl rfl HX1.out (Kd.C_below (Kd.C_below HI3.out.1 HBd.out) HBwb.out) (fun _ _ h=>h) (fun _ h=>h.elim) (fun _ _=>trivial) HBwb.out HBwb.out.size ?aL ?_
 case aL=>have:=HYL.out;have:=HI3.out;first|omega|(simp;omega)
 intro v2 wc ho hb hg_ hn_
 clear hg_ hn_
 have HX2:=Aside0.mk ho
 have HBwc:=Aside0.mk hb
 have HAwc:=Aside0.mk (blk_below HAd.out hb)
 clear ho hb
 clear hHeld
 refine hK.out _ _ ⟨(blk_cell HAwc.out 2).trans rfl,(blk_cell HAwc.out 3).trans rfl⟩ (fun hHeld=>?_)
 clear hK K
 refine norm_ (a':=?_) ?_ ?_
 rotate_left
 ·show Act.put _ (some 14) _ = _
  simp only [Act.put,M.sq3,i64_w,i32_w]
  rfl
 obtain⟨q,hq⟩:∃y,y=y1 ++ l3:=⟨_,rfl⟩
 rw [←hq] at HX2
 obtain⟨Aq,cq,rfl⟩:=Kd.R_slice HX2.out
 have HQE:Aside0 (q=l2 ++ l3 ++ (l6.take 0).flatMap pN):=⟨by rw [hq,HY1.out];simp⟩
 clear hq
 refine pn_ (v:=?_) (a':=?_) rfl (rfl (a:=some _)) (by kernel_rfl) (fun _ _ _ h=>h) (Or.inl ⟨by rfl,?_⟩) ?_ ?_;rotate_left;(intro w';go_simp;with_reducible rfl);rotate_left;(simp only [Act.put,M.sq3,i64_w,i32_w];rfl)
 refine done_ (by kernel_rfl) ?_
 have HX:Aside0 (InR w wc ga #[.int .i64 n,.int .i64 g,.slice A2 l2.length c2,.slice A3 l3.length c3,.slice A4 l4.length c4,.slice A5 l5.length c5,.slice A6 l6.length c6] (.slice Aq q.length cq) q):=⟨⟨below_then HBd.out HBd.out.size HBwc.out,HAwc.out,Kd.R_lower (Kd.R_mono HX2.out (fun _ _=>trivial)) HBd.out.size⟩⟩
 clear HBd HAd HBa HAa HX0 HBwb HAwb HX1 HBwc HAwc HX2 HY1 HYL hHeld
 -- MARK1
 obtain⟨V_,hV⟩:∃V:Value,V=.slice Aq q.length cq:=⟨_,rfl⟩
 rw [←hV] at HX ⊢
 rw [HQE.out] at HX
 clear hV HQE q
 obtain⟨wl,rfl⟩:∃W:World,W=wc:=⟨_,rfl⟩
 go_wp2
 go_loopg [3,4] l6.length (fun gk v3 vi w'=>∃i_:Nat,vi=.int .i64 (i_:Int)∧Aside0 (i_≤l6.length∧l6.length - i_≤gk)∧Aside0 (InR w w' ga #[.int .i64 n,.int .i64 g,.slice A2 l2.length c2,.slice A3 l3.length c3,.slice A4 l4.length c4,.slice A5 l5.length c5,.slice A6 l6.length c6] v3 (l2 ++ l3 ++ (l6.take i_).flatMap pN)))
 case atStart=>exact⟨0,rfl,⟨by omega,by omega⟩,HX⟩
 case' round=>skip
 clear HX
 try clear V_
 obtain⟨i_,rfl,Hi,HX⟩:=hrel
 try clear wl
 obtain⟨wl,rfl⟩:∃W:World,W=wr:=⟨_,rfl⟩
 have a6:wl.cell? ⟨ga,6,none⟩=some (.slice A6 l6.length c6):=(blk_cell HX.out.a 6).trans rfl
 have hsl:=HX.out.r
 obtain⟨U,uc,rfl⟩:=Kd.R_slice hsl
 clear hsl
 obtain⟨acc,hacc⟩:∃a,a=l2 ++ l3 ++ (l6.take i_).flatMap pN:=⟨_,rfl⟩
 rw [←hacc] at HX ⊢
 have HAL:Aside0 (acc.length≤8000000):=⟨by
  have h2:=HI2.out.2.2
  have h3:=HI3.out.2.2
  have h4:=HI4.out.2.2
  have h5:=HI5.out.2.2
  have h6:=HI6.out.2.2
  rw [hacc]
  simp only [List.length_append,fm_len pO (fun _=>rfl),fm_len pC (fun _=>rfl),fm_len pN (fun _=>rfl),List.length_take]
  omega⟩
 have HACC:=Aside0.mk hacc
 clear hacc
 by_cases hl_:i_ < l6.length
 ·as_aux_lemma=>
   have HLT:=Aside0.mk hl_
   obtain⟨ad,eA,e0,e1,e2⟩:=at_T56 HI6.out.1 (i_:Int) (by omega) (by omega)
   have hrd:rd_T56 l6 (i_:Int)=l6[i_]:=by unfold rd_T56;rw [Int.toNat_natCast,List.getD_eq_getElem?_getD,List.getElem?_eq_getElem hl_];rfl
   rw [hrd,Int.toNat_natCast] at e0 e1 e2
   clear hrd
   have HNX:Aside0 ((l6.take (i_+1)).flatMap pN=(l6.take i_).flatMap pN ++ pN l6[i_]):=⟨fm_next _ _ _ hl_⟩
   generalize l6[i_]=r_ at HNX e0 e1 e2
   obtain⟨x0,x1,x2⟩:=r_
   have HE0:=Aside0.mk e0
   have HE2:=Aside0.mk e2
   have s3:=eq_true (show (i_:Int) < (l6.length:Int) by omega)
   have s4:=eq_true (show (0:Int)≤(i_:Int) by omega)
   subst eA
   clear hl_ e0 e1 e2
   go_upto_region 5 with (fail)
   -- MARK2_6
   refine start_ (n:=16) (S:=fun w'=>w'.cell? ⟨ga,6,none⟩=some (.slice (some ad) l6.length c6)∧w'.cell? (ad.add (i_*3))=some (.int .i64 x0)∧w'.cell? ⟨(ad.add (i_*3)).block,(ad.add (i_*3)).off+2,none⟩=some (.int .i64 x2)) (ds:=[]) (pm 0 16) (by kernel_rfl) rfl rfl ⟨(blk_cell HX.out.a 6).trans rfl,(HX.out.b.cell (World.block_lt_of_cell? w _ HE0.out)).trans HE0.out,(HX.out.b.cell (World.block_lt_of_cell? w _ HE2.out)).trans HE2.out⟩ (fun hHeld=>?_)
   refine with_tabW In5r.tab In5r.bits (fun HT_ HW_=>?_)
   have HXd:=Aside0.mk (HX.out.below (below_drew (Below.refl _ _)))
   clear HX a6
   obtain⟨wd,hwd⟩:∃W:World,W=wl.drew:=⟨_,rfl⟩
   rw [←hwd] at HXd hHeld ⊢
   clear hwd
   try clear wl
   iterate 13 (first|(refine pn_ (v:=?_) (a':=?_) rfl (rfl (a:=some _)) (any_of HT_.out (by kernel_rfl)) (fun _ _ _ h=>h) (Or.inl ⟨by rfl,?_⟩) ?_ ?_;rotate_left;(intro w';go_simp;with_reducible rfl);rotate_left;(simp only [Act.put,M.sq3,i64_w,i32_w];rfl))|(refine tn_ (v:=?_) (a':=?_) rfl (rfl (a:=some _)) (take_ofW HT_.out HW_.out (by kernel_rfl)) (fun _ _ _ h=>h) (Or.inl ⟨by rfl,?_⟩) hHeld ?_ ?_;rotate_left;(intro w' hS_;obtain⟨s0,s1,s2⟩:=hS_;go_simp;with_reducible rfl);rotate_left;(simp only [Act.put,M.sq3,i64_w,i32_w];rfl)))
   refine one_ (i:=13) (N:=(some 35)) (pm 14 2) rfl rfl (one_of HT_.out (by kernel_rfl)) (by decide) (fun K hK=>?_)
   refine Kd.R_lit_step (Kd.int .i64) _ 3 ?hg (N:=35) ?hd (xs:=([x0,x2]:List Int)) (inner:=[.int .i64 x0,.int .i64 x2]) (ok:=fun _=>True) (okp:=fun _=>True) ?hr ?hp (fun _ hk=>hk) trivial (Below.refl _ _) (Nat.le_refl _) (by simp) ?_
   case hd=>rfl
   case hg=>rfl
   case hr=>first|(go_simp;done)|(go_simp;rfl)
   case hp=>exact(Reps.one (show Kd.M (Kd.int .i64) _ _ _ x0 [.int .i64 x0] from rfl) (Reps.one (show Kd.M (Kd.int .i64) _ _ _ x2 [.int .i64 x2] from rfl) (Reps.none _ _)))
   intro v0 wa ho hb hg_ hn_
   clear hg_ hn_
   have HX0:=Aside0.mk ho
   have HBa:=Aside0.mk hb
   obtain⟨A0_,c0_,rfl⟩:=Kd.R_slice HX0.out
   have HXa:=Aside0.mk (HXd.out.below hb)
   clear ho hb
   clear hHeld
   refine hK.out _ _ ⟨(blk_cell HXa.out.a 6).trans rfl,(HXa.out.b.cell (World.block_lt_of_cell? w _ HE0.out)).trans HE0.out,(HXa.out.b.cell (World.block_lt_of_cell? w _ HE2.out)).trans HE2.out⟩ (fun hHeld=>?_)
   clear hK K
   refine norm_ (a':=?_) ?_ ?_
   rotate_left
   ·show Act.put _ (some 35) _ = _
    simp only [Act.put,M.sq3,i64_w,i32_w]
    rfl
   refine one_ (i:=14) (N:=(some 36)) (pm 15 1) rfl rfl (one_of HT_.out (by kernel_rfl)) (by decide) (fun K hK=>?_)
   refine Kd.R_append_rows_step (Kd.int .i64) (w0:=w) w.heap.size (by rfl) (.tmp 22) (.tmp 35) 22 3 (.int .i64 0) 8 rfl Try.underlying22 infoInt rfl (by decide) (by omega) (.slice U acc.length uc) acc [x0,x2] _ _ _ (fun _=>True) (fun _=>False) rfl rfl HXa.out.r (Kd.R_reads' HX0.out).2.2 (fun _ _ h=>h) (fun _ h=>h.elim) (fun _ _=>trivial) HXa.out.b HXa.out.b.size ?aL ?_
   case aL=>have:=HAL.out;first|omega|(simp;omega)
   intro v1 wb ho hb hg_ hn_
   clear hn_
   have HXb:Aside0 (InR w wb ga #[.int .i64 n,.int .i64 g,.slice A2 l2.length c2,.slice A3 l3.length c3,.slice A4 l4.length c4,.slice A5 l5.length c5,.slice (some ad) l6.length c6] v1 (acc ++ [x0,x2])):=⟨⟨hb,blk_grown HXa.out.a hg_ (Kd.R_ne HXa.out.r HXa.out.a (by decide)),ho⟩⟩
   clear ho hb hg_
   clear hHeld
   refine hK.out _ _ ⟨(blk_cell HXb.out.a 6).trans rfl,(HXb.out.b.cell (World.block_lt_of_cell? w _ HE0.out)).trans HE0.out,(HXb.out.b.cell (World.block_lt_of_cell? w _ HE2.out)).trans HE2.out⟩ (fun hHeld=>?_)
   clear hK K
   refine norm_ (a':=?_) ?_ ?_
   rotate_left
   ·show Act.put _ (some 36) _ = _
    simp only [Act.put,M.sq3,i64_w,i32_w]
    rfl
   refine pn_ (v:=?_) (a':=?_) rfl (rfl (a:=some _)) (any_of HT_.out (by kernel_rfl)) (fun _ _ _ h=>h) (Or.inl ⟨by rfl,?_⟩) ?_ ?_;rotate_left;(intro w';go_simp;with_reducible rfl);rotate_left;(simp only [Act.put,M.sq3,i64_w,i32_w];rfl)
   refine done_ (done_of HT_.out (by kernel_rfl)) ?_
   -- MARK3_6
   go_wp2
   go_roundg (l6.length - (i_+1))
   case measure=>have:=Hi.out;have:=HLT.out;omega
   case rel=>exact⟨i_+1,by first|rfl|rw [show wrap64 ((i_:Int)+1)=((i_+1:Nat):Int) by have:=HLT.out;have:=HI6.out.2.2;unfold wrap64;omega],⟨HLT.out,Nat.le_refl _⟩,⟨by rw [HNX.out,←List.append_assoc,←HACC.out];exact HXb.out⟩⟩
 have HE:Aside0 (acc=l2 ++ l3 ++ l6.flatMap pN ++ (l4.take 0).flatMap pO):=⟨by rw [HACC.out,List.take_of_length_le (show l6.length≤i_ by omega)];simp⟩
 have HX1:Aside0 (InR w wl ga #[.int .i64 n,.int .i64 g,.slice A2 l2.length c2,.slice A3 l3.length c3,.slice A4 l4.length c4,.slice A5 l5.length c5,.slice A6 l6.length c6] (.slice U acc.length uc) (l2 ++ l3 ++ l6.flatMap pN ++ (l4.take 0).flatMap pO)):=⟨by rw [←HE.out];exact HX.out⟩
 clear HX
 have HX:=HX1
 clear HX1
 have s3:=eq_false (show ¬(i_:Int) < (l6.length:Int) by omega)
 clear hl_ Hi
 -- MARK4_6
 go_wp2
 go_loopg [3,5] l4.length (fun gk v3 vi w'=>∃i_:Nat,vi=.int .i64 (i_:Int)∧Aside0 (i_≤l4.length∧l4.length - i_≤gk)∧Aside0 (InR w w' ga #[.int .i64 n,.int .i64 g,.slice A2 l2.length c2,.slice A3 l3.length c3,.slice A4 l4.length c4,.slice A5 l5.length c5,.slice A6 l6.length c6] v3 (l2 ++ l3 ++ l6.flatMap pN ++ (l4.take i_).flatMap pO)))
 case atStart=>exact⟨0,rfl,⟨by omega,by omega⟩,HX⟩
 case' round=>skip
 clear HX
 try clear V_
 obtain⟨i_,rfl,Hi,HX⟩:=hrel
 try clear wl
 obtain⟨wl,rfl⟩:∃W:World,W=wr:=⟨_,rfl⟩
 have a4:wl.cell? ⟨ga,4,none⟩=some (.slice A4 l4.length c4):=(blk_cell HX.out.a 4).trans rfl
 have hsl:=HX.out.r
 obtain⟨U,uc,rfl⟩:=Kd.R_slice hsl
 clear hsl
 obtain⟨acc,hacc⟩:∃a,a=l2 ++ l3 ++ l6.flatMap pN ++ (l4.take i_).flatMap pO:=⟨_,rfl⟩
 rw [←hacc] at HX ⊢
 have HAL:Aside0 (acc.length≤8000000):=⟨by
  have h2:=HI2.out.2.2
  have h3:=HI3.out.2.2
  have h4:=HI4.out.2.2
  have h5:=HI5.out.2.2
  have h6:=HI6.out.2.2
  rw [hacc]
  simp only [List.length_append,fm_len pO (fun _=>rfl),fm_len pC (fun _=>rfl),fm_len pN (fun _=>rfl),List.length_take]
  omega⟩
 have HACC:=Aside0.mk hacc
 clear hacc
 by_cases hl_:i_ < l4.length
 ·as_aux_lemma=>
   have HLT:=Aside0.mk hl_
   obtain⟨ad,eA,e0,e1,e2,e3⟩:=at_T52 HI4.out.1 (i_:Int) (by omega) (by omega)
   have hrd:rd_T52 l4 (i_:Int)=l4[i_]:=by unfold rd_T52;rw [Int.toNat_natCast,List.getD_eq_getElem?_getD,List.getElem?_eq_getElem hl_];rfl
   rw [hrd,Int.toNat_natCast] at e0 e1 e2 e3
   clear hrd
   have HNX:Aside0 ((l4.take (i_+1)).flatMap pO=(l4.take i_).flatMap pO ++ pO l4[i_]):=⟨fm_next _ _ _ hl_⟩
   generalize l4[i_]=r_ at HNX e0 e1 e2 e3
   obtain⟨x0,x1,x2,x3⟩:=r_
   have HE0:=Aside0.mk e0
   have HE2:=Aside0.mk e2
   have s3:=eq_true (show (i_:Int) < (l4.length:Int) by omega)
   have s4:=eq_true (show (0:Int)≤(i_:Int) by omega)
   subst eA
   clear hl_ e0 e1 e2 e3
   go_upto_region 9 with (fail)
   -- MARK2_4
   refine start_ (n:=16) (S:=fun w'=>w'.cell? ⟨ga,4,none⟩=some (.slice (some ad) l4.length c4)∧w'.cell? (ad.add (i_*4))=some (.int .i64 x0)∧w'.cell? ⟨(ad.add (i_*4)).block,(ad.add (i_*4)).off+2,none⟩=some (.int .i64 x2)) (ds:=[]) (pm 0 16) (by kernel_rfl) rfl rfl ⟨(blk_cell HX.out.a 4).trans rfl,(HX.out.b.cell (World.block_lt_of_cell? w _ HE0.out)).trans HE0.out,(HX.out.b.cell (World.block_lt_of_cell? w _ HE2.out)).trans HE2.out⟩ (fun hHeld=>?_)
   refine with_tabW In9r.tab In9r.bits (fun HT_ HW_=>?_)
   have HXd:=Aside0.mk (HX.out.below (below_drew (Below.refl _ _)))
   clear HX a4
   obtain⟨wd,hwd⟩:∃W:World,W=wl.drew:=⟨_,rfl⟩
   rw [←hwd] at HXd hHeld ⊢
   clear hwd
   try clear wl
   iterate 13 (first|(refine pn_ (v:=?_) (a':=?_) rfl (rfl (a:=some _)) (any_of HT_.out (by kernel_rfl)) (fun _ _ _ h=>h) (Or.inl ⟨by rfl,?_⟩) ?_ ?_;rotate_left;(intro w';go_simp;with_reducible rfl);rotate_left;(simp only [Act.put,M.sq3,i64_w,i32_w];rfl))|(refine tn_ (v:=?_) (a':=?_) rfl (rfl (a:=some _)) (take_ofW HT_.out HW_.out (by kernel_rfl)) (fun _ _ _ h=>h) (Or.inl ⟨by rfl,?_⟩) hHeld ?_ ?_;rotate_left;(intro w' hS_;obtain⟨s0,s1,s2⟩:=hS_;go_simp;with_reducible rfl);rotate_left;(simp only [Act.put,M.sq3,i64_w,i32_w];rfl)))
   refine one_ (i:=13) (N:=(some 57)) (pm 14 2) rfl rfl (one_of HT_.out (by kernel_rfl)) (by decide) (fun K hK=>?_)
   refine Kd.R_lit_step (Kd.int .i64) _ 3 ?hg (N:=57) ?hd (xs:=([x0,x2]:List Int)) (inner:=[.int .i64 x0,.int .i64 x2]) (ok:=fun _=>True) (okp:=fun _=>True) ?hr ?hp (fun _ hk=>hk) trivial (Below.refl _ _) (Nat.le_refl _) (by simp) ?_
   case hd=>rfl
   case hg=>rfl
   case hr=>first|(go_simp;done)|(go_simp;rfl)
   case hp=>exact(Reps.one (show Kd.M (Kd.int .i64) _ _ _ x0 [.int .i64 x0] from rfl) (Reps.one (show Kd.M (Kd.int .i64) _ _ _ x2 [.int .i64 x2] from rfl) (Reps.none _ _)))
   intro v0 wa ho hb hg_ hn_
   clear hg_ hn_
   have HX0:=Aside0.mk ho
   have HBa:=Aside0.mk hb
   obtain⟨A0_,c0_,rfl⟩:=Kd.R_slice HX0.out
   have HXa:=Aside0.mk (HXd.out.below hb)
   clear ho hb
   clear hHeld
   refine hK.out _ _ ⟨(blk_cell HXa.out.a 4).trans rfl,(HXa.out.b.cell (World.block_lt_of_cell? w _ HE0.out)).trans HE0.out,(HXa.out.b.cell (World.block_lt_of_cell? w _ HE2.out)).trans HE2.out⟩ (fun hHeld=>?_)
   clear hK K
   refine norm_ (a':=?_) ?_ ?_
   rotate_left
   ·show Act.put _ (some 57) _ = _
    simp only [Act.put,M.sq3,i64_w,i32_w]
    rfl
   refine one_ (i:=14) (N:=(some 58)) (pm 15 1) rfl rfl (one_of HT_.out (by kernel_rfl)) (by decide) (fun K hK=>?_)
   refine Kd.R_append_rows_step (Kd.int .i64) (w0:=w) w.heap.size (by rfl) (.tmp 44) (.tmp 57) 22 3 (.int .i64 0) 8 rfl Try.underlying22 infoInt rfl (by decide) (by omega) (.slice U acc.length uc) acc [x0,x2] _ _ _ (fun _=>True) (fun _=>False) rfl rfl HXa.out.r (Kd.R_reads' HX0.out).2.2 (fun _ _ h=>h) (fun _ h=>h.elim) (fun _ _=>trivial) HXa.out.b HXa.out.b.size ?aL ?_
   case aL=>have:=HAL.out;first|omega|(simp;omega)
   intro v1 wb ho hb hg_ hn_
   clear hn_
   have HXb:Aside0 (InR w wb ga #[.int .i64 n,.int .i64 g,.slice A2 l2.length c2,.slice A3 l3.length c3,.slice (some ad) l4.length c4,.slice A5 l5.length c5,.slice A6 l6.length c6] v1 (acc ++ [x0,x2])):=⟨⟨hb,blk_grown HXa.out.a hg_ (Kd.R_ne HXa.out.r HXa.out.a (by decide)),ho⟩⟩
   clear ho hb hg_
   clear hHeld
   refine hK.out _ _ ⟨(blk_cell HXb.out.a 4).trans rfl,(HXb.out.b.cell (World.block_lt_of_cell? w _ HE0.out)).trans HE0.out,(HXb.out.b.cell (World.block_lt_of_cell? w _ HE2.out)).trans HE2.out⟩ (fun hHeld=>?_)
   clear hK K
   refine norm_ (a':=?_) ?_ ?_
   rotate_left
   ·show Act.put _ (some 58) _ = _
    simp only [Act.put,M.sq3,i64_w,i32_w]
    rfl
   refine pn_ (v:=?_) (a':=?_) rfl (rfl (a:=some _)) (any_of HT_.out (by kernel_rfl)) (fun _ _ _ h=>h) (Or.inl ⟨by rfl,?_⟩) ?_ ?_;rotate_left;(intro w';go_simp;with_reducible rfl);rotate_left;(simp only [Act.put,M.sq3,i64_w,i32_w];rfl)
   refine done_ (done_of HT_.out (by kernel_rfl)) ?_
   -- MARK3_4
   go_wp2
   go_roundg (l4.length - (i_+1))
   case measure=>have:=Hi.out;have:=HLT.out;omega
   case rel=>exact⟨i_+1,by first|rfl|rw [show wrap64 ((i_:Int)+1)=((i_+1:Nat):Int) by have:=HLT.out;have:=HI4.out.2.2;unfold wrap64;omega],⟨HLT.out,Nat.le_refl _⟩,⟨by rw [HNX.out,←List.append_assoc,←HACC.out];exact HXb.out⟩⟩
 have HE:Aside0 (acc=l2 ++ l3 ++ l6.flatMap pN ++ l4.flatMap pO ++ (l5.take 0).flatMap pC):=⟨by rw [HACC.out,List.take_of_length_le (show l4.length≤i_ by omega)];simp⟩
 have HX1:Aside0 (InR w wl ga #[.int .i64 n,.int .i64 g,.slice A2 l2.length c2,.slice A3 l3.length c3,.slice A4 l4.length c4,.slice A5 l5.length c5,.slice A6 l6.length c6] (.slice U acc.length uc) (l2 ++ l3 ++ l6.flatMap pN ++ l4.flatMap pO ++ (l5.take 0).flatMap pC)):=⟨by rw [←HE.out];exact HX.out⟩
 clear HX
 have HX:=HX1
 clear HX1
 have s3:=eq_false (show ¬(i_:Int) < (l4.length:Int) by omega)
 clear hl_ Hi
 -- MARK4_4
 go_wp2
 go_loopg [3,6] l5.length (fun gk v3 vi w'=>∃i_:Nat,vi=.int .i64 (i_:Int)∧Aside0 (i_≤l5.length∧l5.length - i_≤gk)∧Aside0 (InR w w' ga #[.int .i64 n,.int .i64 g,.slice A2 l2.length c2,.slice A3 l3.length c3,.slice A4 l4.length c4,.slice A5 l5.length c5,.slice A6 l6.length c6] v3 (l2 ++ l3 ++ l6.flatMap pN ++ l4.flatMap pO ++ (l5.take i_).flatMap pC)))
 case atStart=>exact⟨0,rfl,⟨by omega,by omega⟩,HX⟩
 case' round=>skip
 clear HX
 try clear V_
 obtain⟨i_,rfl,Hi,HX⟩:=hrel
 try clear wl
 obtain⟨wl,rfl⟩:∃W:World,W=wr:=⟨_,rfl⟩
 have a5:wl.cell? ⟨ga,5,none⟩=some (.slice A5 l5.length c5):=(blk_cell HX.out.a 5).trans rfl
 have hsl:=HX.out.r
 obtain⟨U,uc,rfl⟩:=Kd.R_slice hsl
 clear hsl
 obtain⟨acc,hacc⟩:∃a,a=l2 ++ l3 ++ l6.flatMap pN ++ l4.flatMap pO ++ (l5.take i_).flatMap pC:=⟨_,rfl⟩
 rw [←hacc] at HX ⊢
 have HAL:Aside0 (acc.length≤8000000):=⟨by
  have h2:=HI2.out.2.2
  have h3:=HI3.out.2.2
  have h4:=HI4.out.2.2
  have h5:=HI5.out.2.2
  have h6:=HI6.out.2.2
  rw [hacc]
  simp only [List.length_append,fm_len pO (fun _=>rfl),fm_len pC (fun _=>rfl),fm_len pN (fun _=>rfl),List.length_take]
  omega⟩
 have HACC:=Aside0.mk hacc
 clear hacc
 by_cases hl_:i_ < l5.length
 ·as_aux_lemma=>
   have HLT:=Aside0.mk hl_
   obtain⟨ad,eA,e0,e1,e2,e3⟩:=at_T54 HI5.out.1 (i_:Int) (by omega) (by omega)
   have hrd:rd_T54 l5 (i_:Int)=l5[i_]:=by unfold rd_T54;rw [Int.toNat_natCast,List.getD_eq_getElem?_getD,List.getElem?_eq_getElem hl_];rfl
   rw [hrd,Int.toNat_natCast] at e0 e1 e2 e3
   clear hrd
   have HNX:Aside0 ((l5.take (i_+1)).flatMap pC=(l5.take i_).flatMap pC ++ pC l5[i_]):=⟨fm_next _ _ _ hl_⟩
   generalize l5[i_]=r_ at HNX e0 e1 e2 e3
   obtain⟨x0,x1,x2,x3⟩:=r_
   have HE0:=Aside0.mk e0
   have HE2:=Aside0.mk e3
   have s3:=eq_true (show (i_:Int) < (l5.length:Int) by omega)
   have s4:=eq_true (show (0:Int)≤(i_:Int) by omega)
   subst eA
   clear hl_ e0 e1 e2 e3
   go_upto_region 13 with (fail)
   -- MARK2_5
   refine start_ (n:=16) (S:=fun w'=>w'.cell? ⟨ga,5,none⟩=some (.slice (some ad) l5.length c5)∧w'.cell? (ad.add (i_*4))=some (.int .i64 x0)∧w'.cell? ⟨(ad.add (i_*4)).block,(ad.add (i_*4)).off+3,none⟩=some (.int .i64 x3)) (ds:=[]) (pm 0 16) (by kernel_rfl) rfl rfl ⟨(blk_cell HX.out.a 5).trans rfl,(HX.out.b.cell (World.block_lt_of_cell? w _ HE0.out)).trans HE0.out,(HX.out.b.cell (World.block_lt_of_cell? w _ HE2.out)).trans HE2.out⟩ (fun hHeld=>?_)
   refine with_tabW In13r.tab In13r.bits (fun HT_ HW_=>?_)
   have HXd:=Aside0.mk (HX.out.below (below_drew (Below.refl _ _)))
   clear HX a5
   obtain⟨wd,hwd⟩:∃W:World,W=wl.drew:=⟨_,rfl⟩
   rw [←hwd] at HXd hHeld ⊢
   clear hwd
   try clear wl
   iterate 13 (first|(refine pn_ (v:=?_) (a':=?_) rfl (rfl (a:=some _)) (any_of HT_.out (by kernel_rfl)) (fun _ _ _ h=>h) (Or.inl ⟨by rfl,?_⟩) ?_ ?_;rotate_left;(intro w';go_simp;with_reducible rfl);rotate_left;(simp only [Act.put,M.sq3,i64_w,i32_w];rfl))|(refine tn_ (v:=?_) (a':=?_) rfl (rfl (a:=some _)) (take_ofW HT_.out HW_.out (by kernel_rfl)) (fun _ _ _ h=>h) (Or.inl ⟨by rfl,?_⟩) hHeld ?_ ?_;rotate_left;(intro w' hS_;obtain⟨s0,s1,s2⟩:=hS_;go_simp;with_reducible rfl);rotate_left;(simp only [Act.put,M.sq3,i64_w,i32_w];rfl)))
   refine one_ (i:=13) (N:=(some 79)) (pm 14 2) rfl rfl (one_of HT_.out (by kernel_rfl)) (by decide) (fun K hK=>?_)
   refine Kd.R_lit_step (Kd.int .i64) _ 3 ?hg (N:=79) ?hd (xs:=([x0,x3]:List Int)) (inner:=[.int .i64 x0,.int .i64 x3]) (ok:=fun _=>True) (okp:=fun _=>True) ?hr ?hp (fun _ hk=>hk) trivial (Below.refl _ _) (Nat.le_refl _) (by simp) ?_
   case hd=>rfl
   case hg=>rfl
   case hr=>first|(go_simp;done)|(go_simp;rfl)
   case hp=>exact(Reps.one (show Kd.M (Kd.int .i64) _ _ _ x0 [.int .i64 x0] from rfl) (Reps.one (show Kd.M (Kd.int .i64) _ _ _ x3 [.int .i64 x3] from rfl) (Reps.none _ _)))
   intro v0 wa ho hb hg_ hn_
   clear hg_ hn_
   have HX0:=Aside0.mk ho
   have HBa:=Aside0.mk hb
   obtain⟨A0_,c0_,rfl⟩:=Kd.R_slice HX0.out
   have HXa:=Aside0.mk (HXd.out.below hb)
   clear ho hb
   clear hHeld
   refine hK.out _ _ ⟨(blk_cell HXa.out.a 5).trans rfl,(HXa.out.b.cell (World.block_lt_of_cell? w _ HE0.out)).trans HE0.out,(HXa.out.b.cell (World.block_lt_of_cell? w _ HE2.out)).trans HE2.out⟩ (fun hHeld=>?_)
   clear hK K
   refine norm_ (a':=?_) ?_ ?_
   rotate_left
   ·show Act.put _ (some 79) _ = _
    simp only [Act.put,M.sq3,i64_w,i32_w]
    rfl
   refine one_ (i:=14) (N:=(some 80)) (pm 15 1) rfl rfl (one_of HT_.out (by kernel_rfl)) (by decide) (fun K hK=>?_)
   refine Kd.R_append_rows_step (Kd.int .i64) (w0:=w) w.heap.size (by rfl) (.tmp 66) (.tmp 79) 22 3 (.int .i64 0) 8 rfl Try.underlying22 infoInt rfl (by decide) (by omega) (.slice U acc.length uc) acc [x0,x3] _ _ _ (fun _=>True) (fun _=>False) rfl rfl HXa.out.r (Kd.R_reads' HX0.out).2.2 (fun _ _ h=>h) (fun _ h=>h.elim) (fun _ _=>trivial) HXa.out.b HXa.out.b.size ?aL ?_
   case aL=>have:=HAL.out;first|omega|(simp;omega)
   intro v1 wb ho hb hg_ hn_
   clear hn_
   have HXb:Aside0 (InR w wb ga #[.int .i64 n,.int .i64 g,.slice A2 l2.length c2,.slice A3 l3.length c3,.slice A4 l4.length c4,.slice (some ad) l5.length c5,.slice A6 l6.length c6] v1 (acc ++ [x0,x3])):=⟨⟨hb,blk_grown HXa.out.a hg_ (Kd.R_ne HXa.out.r HXa.out.a (by decide)),ho⟩⟩
   clear ho hb hg_
   clear hHeld
   refine hK.out _ _ ⟨(blk_cell HXb.out.a 5).trans rfl,(HXb.out.b.cell (World.block_lt_of_cell? w _ HE0.out)).trans HE0.out,(HXb.out.b.cell (World.block_lt_of_cell? w _ HE2.out)).trans HE2.out⟩ (fun hHeld=>?_)
   clear hK K
   refine norm_ (a':=?_) ?_ ?_
   rotate_left
   ·show Act.put _ (some 80) _ = _
    simp only [Act.put,M.sq3,i64_w,i32_w]
    rfl
   refine pn_ (v:=?_) (a':=?_) rfl (rfl (a:=some _)) (any_of HT_.out (by kernel_rfl)) (fun _ _ _ h=>h) (Or.inl ⟨by rfl,?_⟩) ?_ ?_;rotate_left;(intro w';go_simp;with_reducible rfl);rotate_left;(simp only [Act.put,M.sq3,i64_w,i32_w];rfl)
   refine done_ (done_of HT_.out (by kernel_rfl)) ?_
   -- MARK3_5
   go_wp2
   go_roundg (l5.length - (i_+1))
   case measure=>have:=Hi.out;have:=HLT.out;omega
   case rel=>exact⟨i_+1,by first|rfl|rw [show wrap64 ((i_:Int)+1)=((i_+1:Nat):Int) by have:=HLT.out;have:=HI5.out.2.2;unfold wrap64;omega],⟨HLT.out,Nat.le_refl _⟩,⟨by rw [HNX.out,←List.append_assoc,←HACC.out];exact HXb.out⟩⟩
 have HE:Aside0 (acc=insL l2 l3 l4 l5 l6):=⟨by rw [HACC.out,List.take_of_length_le (show l5.length≤i_ by omega)];simp [insL]⟩
 have HX1:Aside0 (InR w wl ga #[.int .i64 n,.int .i64 g,.slice A2 l2.length c2,.slice A3 l3.length c3,.slice A4 l4.length c4,.slice A5 l5.length c5,.slice A6 l6.length c6] (.slice U acc.length uc) (insL l2 l3 l4 l5 l6)):=⟨by rw [←HE.out];exact HX.out⟩
 clear HX
 have HX:=HX1
 clear HX1
 have s3:=eq_false (show ¬(i_:Int) < (l5.length:Int) by omega)
 clear hl_ Hi
 -- MARK4_5
 rw [HE.out] at HX HAL ⊢
 obtain⟨q,hq⟩:∃q,q=insL l2 l3 l4 l5 l6:=⟨_,rfl⟩
 have HRV2:Aside0 (rv=q.all (okIn n)):=⟨by rw [HRV.out,hq];rfl⟩
 rw [←hq] at HX HAL ⊢
 have HO:Aside0 ((q.take 0).all (okIn n)=true):=⟨rfl⟩
 clear HRV hq HE HACC
 go_wp2
 go_loopg [7] q.length (fun gk vi w'=>∃i_:Nat,vi=.int .i64 (i_:Int)∧Aside0 (i_≤q.length∧q.length - i_≤gk)∧Aside0 (InR w w' ga #[.int .i64 n,.int .i64 g,.slice A2 l2.length c2,.slice A3 l3.length c3,.slice A4 l4.length c4,.slice A5 l5.length c5,.slice A6 l6.length c6] (.slice U q.length uc) q)∧Aside0 ((q.take i_).all (okIn n)=true))
 case atStart=>exact⟨0,rfl,⟨by omega,by omega⟩,HX,HO⟩
 case' round=>skip
 clear HX HO s3
 obtain⟨i_,rfl,Hi,HX,HO⟩:=hrel
 try clear wl
 obtain⟨wl,rfl⟩:∃W:World,W=wr:=⟨_,rfl⟩
 have a0:wl.cell? ⟨ga,0,none⟩=some (.int .i64 n):=(blk_cell HX.out.a 0).trans rfl
 by_cases hl_:i_ < q.length
 ·as_aux_lemma=>
   have HLT:=Aside0.mk hl_
   obtain⟨ad,eA,cx⟩:=int_at (Kd.R_reads' HX.out.r).2.2 i_ hl_
   have HNX:Aside0 ((q.take (i_+1)).all (okIn n)=((q.take i_).all (okIn n) && okIn n q[i_])):=⟨by rw [List.take_add_one,List.getElem?_eq_getElem hl_,List.all_append];simp⟩
   have HMM:Aside0 (okIn n q[i_]=false→q.all (okIn n)=false):=⟨fun h=>by
    cases h2:q.all (okIn n) with
    | false=>rfl
    | true=>rw [List.all_eq_true.1 h2 _ (List.getElem_mem hl_)] at h;cases h⟩
   generalize q[i_]=x at cx HNX HMM
   subst eA
   have s3:=eq_true (show (i_:Int) < (q.length:Int) by omega)
   have s4:=eq_true (show (0:Int)≤(i_:Int) by omega)
   clear hl_
   by_cases hx0:x < 0
   ·have q1 := decide_eq_true hx0
    have HRV3:Aside0 (rv=false):=⟨HRV2.out.trans (HMM.out (by unfold okIn;rw [decide_eq_false (show ¬0≤x by omega)];rfl))⟩
    clear hx0 HNX HMM HRV2
    go_wp2
    go_quiet (fail)
    go_wp2
    go_ret
    exact⟨by rw [HRV3.out];rfl,HX.out.b.trans (pw_below_drewN (Below.refl _ _) nq)⟩
   have q1:=decide_eq_false hx0
   by_cases hx1:x≥n
   ·have q2 := decide_eq_true hx1
    have q3:=decide_eq_true (show n≤x from hx1)
    have HRV3:Aside0 (rv=false):=⟨HRV2.out.trans (HMM.out (by unfold okIn;rw [decide_eq_false (show ¬x < n by omega),Bool.and_false]))⟩
    clear hx0 hx1 HNX HMM HRV2
    go_wp2
    go_quiet (fail)
    go_wp2
    go_ret
    exact⟨by rw [HRV3.out];rfl,HX.out.b.trans (pw_below_drewN (Below.refl _ _) nq)⟩
   have q2:=decide_eq_false hx1
   have q3:=decide_eq_false (show ¬n≤x from hx1)
   have HOK:Aside0 (okIn n x=true):=⟨by unfold okIn;rw [decide_eq_true (show 0≤x by omega),decide_eq_true (show x < n by omega)];rfl⟩
   clear hx0 hx1 HMM
   go_wp2
   go_quiet (fail)
   go_wp2
   go_roundg (q.length - (i_+1))
   case measure=>have:=Hi.out;have:=HLT.out;omega
   case rel=>exact⟨i_+1,by first|rfl|rw [show wrap64 ((i_:Int)+1)=((i_+1:Nat):Int) by have:=HLT.out;have:=HAL.out;unfold wrap64;omega],⟨HLT.out,Nat.le_refl _⟩,⟨HX.out.below (pw_below_drewN (Below.refl _ _) nq)⟩,⟨by rw [HNX.out,HO.out,HOK.out];rfl⟩⟩
 have HRV3:Aside0 (rv=true):=⟨by have h:=HO.out;rw [List.take_of_length_le (show q.length≤i_ by omega)] at h;exact HRV2.out.trans h⟩
 have s3:=eq_false (show ¬(i_:Int) < (q.length:Int) by omega)
 clear hl_ Hi HRV2 HO a0
 go_wp2
 go_ret
 exact⟨by rw [HRV3.out];rfl,HX.out.b⟩
end Go.Proofs.Ytjkhdldgmkkhjaa.P
