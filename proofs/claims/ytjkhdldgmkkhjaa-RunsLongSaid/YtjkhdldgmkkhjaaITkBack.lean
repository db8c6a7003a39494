/- Words and walks of this claim: TkBack. -/
import Derived.Test.YtjkhdldgmkkhjaaIMFar
import Derived.Test.YtjkhdldgmkkhjaaIUTyEtc
import Derived.BigQuiet
set_option linter.unusedVariables false
set_option linter.unusedSimpArgs false
set_option linter.unnecessarySimpa false
namespace Go.Proofs.Ytjkhdldgmkkhjaa.P
open Go.RowKit Go.Proofs.YtjkhdldgmkkhjaaW.PrintWords Go.Proofs.YtjkhdldgmkkhjaaW.PrintLast Go.Proofs.YtjkhdldgmkkhjaaW.PrintMore Go.Proofs.Ytjkhdldgmkkhjaa.M
def tBk (n:Int) (row under:Row) (k:Int) (o:TOpen) (c:TClose):Row:=if c.f1=k∧c.f2=o.f3∧(o.f2,c.f0)∈row then oneL under (fun p=>p) o.f0 c.f3 n.toNat else []
def tBo (n:Int) (row under:Row) (cs:List TClose) (k by_:Int) (o:TOpen):Row:=if o.f1=by_ then cs.flatMap (tBk n row under k o) else []
theorem mem_tBo {n:Int} {row under:Row} (hu:In n under) (os:List TOpen) (cs:List TClose) (k by_:Int) (x:Int × Int):x∈os.flatMap (tBo n row under cs k by_)↔x∈nBack os cs k by_ under row:=by
 simp only [nBack,List.mem_flatMap,List.mem_filterMap,List.mem_filter,decide_eq_true_eq]
 constructor
 ·rintro ⟨o, ho, h⟩
  unfold tBo at h
  split at h
  ·rename_i hk
   obtain⟨c,hc,h⟩:=List.mem_flatMap.1 h
   unfold tBk at h
   split at h
   ·rename_i hk2
    obtain⟨q,hq,rfl⟩:=(mem_oneL hu).1 h
    exact⟨_,hq,o,⟨ho,rfl,hk⟩,c,hc,by rw [if_pos hk2]⟩
   cases h
  cases h
 rintro ⟨p, hp, o, ⟨ho, h1, h2⟩, c, hc, h⟩
 split at h
 ·rename_i hk
  refine⟨o,ho,?_⟩
  unfold tBo
  rw [if_pos h2]
  refine List.mem_flatMap.2 ⟨c,hc,?_⟩
  unfold tBk
  rw [if_pos hk]
  exact(mem_oneL hu).2 ⟨p.1,by rw [h1];exact hp,(Option.some.inj h).symm⟩
 cases h
theorem tk_info:(Try.prog.info? 4).map (fun i=>(i.zero,i.size,i.bytes))=some (some (.bool false),1,1):=by kernel_rfl
theorem tk_cells {w:World} {g t:Nat} {a b c d e f h:Value} (H:w.heap[g]? = some (.cells #[a,b,c,d,e,f,h] t (0,0))):w.cell? ⟨g,0,none⟩=some a∧w.cell? ⟨g,1,none⟩=some b∧w.cell? ⟨g,2,none⟩=some c∧w.cell? ⟨g,3,none⟩=some d∧w.cell? ⟨g,4,none⟩=some e∧w.cell? ⟨g,5,none⟩=some f∧w.cell? ⟨g,6,none⟩=some h:=
 ⟨(blk_cell H 0).trans rfl,(blk_cell H 1).trans rfl,(blk_cell H 2).trans rfl,(blk_cell H 3).trans rfl,(blk_cell H 4).trans rfl,(blk_cell H 5).trans rfl,(blk_cell H 6).trans rfl⟩
theorem tk_form {w:World} {base:Nat} {ok:Nat→Prop} {v:Value} {xs:List Bool} {m:Nat} (h:Kd.R Kd.bool 4 w base ok v xs) (hm:xs.length=m) (hm1:1≤m):∃b c,v=BV m b c:=by
 subst hm
 obtain⟨ad,c,rfl⟩:=Kd.R_slice1 h (by omega)
 obtain⟨g,rfl⟩:=Kd.R_head h
 exact⟨g,c,rfl⟩
theorem rd_no {M:List Bool} {z:Int} {P:Prop} (h:rdOf false M z=true↔P) (hn:¬P):rdOf false M z=false:=by
 cases e:rdOf false M z with
 | false=>rfl
 | true=>exact absurd (h.1 e) hn
set_option maxHeartbeats 16000000 in
set_option maxRecDepth 100000 in
theorem back_own (n g:Int) (A2:Option Addr) (c2:Nat) (l2:List Int) (A3:Option Addr) (c3:Nat) (l3:List Int) (A4:Option Addr) (c4:Nat) (l4:List TOpen) (A5:Option Addr) (c5:Nat) (l5:List TClose) (A6:Option Addr) (c6:Nat) (l6:List TInner) (n2 b1 c1 b0 c0:Nat) (by1 by0 x:Int) (under row:Row) (w:World)
 (h2:Kd.C (Kd.int .i64) w A2 l2.length l2) (hc2:l2.length≤c2) (h3:Kd.C (Kd.int .i64) w A3 l3.length l3) (hc3:l3.length≤c3) (h4:Kd.C k52 w A4 l4.length l4) (hc4:l4.length≤c4) (h5:Kd.C k54 w A5 l5.length l5) (hc5:l5.length≤c5) (h6:Kd.C k56 w A6 l6.length l6) (hc6:l6.length≤c6)
 (hn1:1≤n) (hn:n≤200) (hn2:n2=(n*n).toNat) (hl4:l4.length≤1000000) (hl5:l5.length≤1000000) (hi:Ins n l2 l3 l4 l5 l6) (hu:∃B M,BR B w n2 b1 c1 M∧Mat n M under) (hr:∃B M,BR B w n2 b0 c0 M∧Mat n M row) (hiu:In n under) :
 Calls Try.prog 44 #[.agg #[.int .i64 n,.int .i64 g,.slice A2 l2.length c2,.slice A3 l3.length c3,.slice A4 l4.length c4,.slice A5 l5.length c5,.slice A6 l6.length c6],.agg #[BV n2 b1 c1,.int .i64 by1],.agg #[BV n2 b0 c0,.int .i64 by0],.int .i64 x] w fun e w'=>∃b3 c3 M,e=.returned (.agg #[BV n2 b3 c3,.int .i64 by1])∧BR w.heap.size w' n2 b3 c3 M∧Mat n M (nBack l4 l5 x by0 under row)∧Below w.heap.size w w':=by
 have HI4:=Aside0.mk (And.intro h4 (And.intro hc4 hl4))
 have HI5:=Aside0.mk (And.intro h5 (And.intro hc5 hl5))
 have HINS:=Aside0.mk hi
 have HIU:=Aside0.mk hiu
 have HN:=Aside0.mk (And.intro hn1 hn)
 have HNN:=Aside0.mk (nn_in hn1 hn)
 have HN2:Aside0 ((n2:Int)=n*n∧1≤n2∧n2≤40000∧n2=(n*n).toNat):=⟨by have h1:=HNN.out.1;have h2:=HNN.out.2.1;exact⟨by omega,by omega,by omega,hn2⟩⟩
 have HNW:Aside0 (wrap64 (n*n)=(n2:Int)):=⟨by rw [HNN.out.2.2];exact HN2.out.1.symm⟩
 obtain⟨Bu,Mu,hu1,hu2⟩:=hu
 obtain⟨Br,Mr,hr1,hr2⟩:=hr
 have HU0:=Aside0.mk (And.intro hu1 hu2)
 have HW0:=Aside0.mk (And.intro hr1 hr2)
 clear h2 h3 h4 h5 h6 hc2 hc3 hc4 hc5 hc6 hl4 hl5 hi hiu hn1 hn hn2 hu1 hu2 hr1 hr2
 go_enter Try.func44,Try.ntmps44
 go_upto_region 1 with (fail)
 obtain⟨wq,hwq⟩:∃wq:World,wq=((((w.alloc (.cells #[.int .i64 n,.int .i64 g,.slice A2 l2.length c2,.slice A3 l3.length c3,.slice A4 l4.length c4,.slice A5 l5.length c5,.slice A6 l6.length c6] 30)).alloc (.cells #[BV n2 b1 c1,.int .i64 by1] 87)).alloc (.cells #[BV n2 b0 c0,.int .i64 by0] 87)).alloc (.cells #[.slice none 0 0,.int .i64 0] 87)):=⟨_,rfl⟩
 have KA:=Aside0.mk (hwq ▸ blk_old (blk_old (blk_old (blk_newAt _ (by simp only [size_alloc])) _) _) _:wq.heap[w.heap.size]? = some (.cells #[.int .i64 n,.int .i64 g,.slice A2 l2.length c2,.slice A3 l3.length c3,.slice A4 l4.length c4,.slice A5 l5.length c5,.slice A6 l6.length c6] 30 (0,0)))
 have KB:=Aside0.mk (hwq ▸ blk_old (blk_old (blk_newAt _ (by simp only [size_alloc])) _) _:wq.heap[w.heap.size+1]? = some (.cells #[BV n2 b1 c1,.int .i64 by1] 87 (0,0)))
 have KC:=Aside0.mk (hwq ▸ blk_old (blk_newAt _ (by simp only [size_alloc])) _:wq.heap[w.heap.size+1+1]? = some (.cells #[BV n2 b0 c0,.int .i64 by0] 87 (0,0)))
 have KD:=Aside0.mk (hwq ▸ blk_newAt _ (by simp only [size_alloc]):wq.heap[w.heap.size+1+1+1]? = some (.cells #[.slice none 0 0,.int .i64 0] 87 (0,0)))
 have HB:Aside0 (Below w.heap.size w wq):=⟨by rw [hwq];exact below_alloc (below_alloc (below_alloc (below_alloc (Below.refl _ _) _) _) _) _⟩
 rw [←hwq]
 clear hwq
 have HU:Aside0 (BR Bu wq n2 b1 c1 Mu∧Mat n Mu under):=⟨HU0.out.1.below (below_then (Below.refl _ _) (Nat.le_refl _) HB.out),HU0.out.2⟩
 have HW:Aside0 (BR Br wq n2 b0 c0 Mr∧Mat n Mr row):=⟨HW0.out.1.below (below_then (Below.refl _ _) (Nat.le_refl _) HB.out),HW0.out.2⟩
 clear HU0 HW0
 have HGR:Aside0 (w.heap.size≤w.heap.size+1+1+1):=⟨by omega⟩
 obtain⟨ga,hga⟩:∃q,q=w.heap.size:=⟨_,rfl⟩
 obtain⟨gb,hgb⟩:∃q,q=w.heap.size+1:=⟨_,rfl⟩
 obtain⟨gw,hgw⟩:∃q,q=w.heap.size+1+1:=⟨_,rfl⟩
 obtain⟨gr,hgr⟩:∃q,q=w.heap.size+1+1+1:=⟨_,rfl⟩
 rw [←hgr] at KD HGR ⊢
 rw [←hgw] at KC ⊢
 rw [←hgb] at KB ⊢
 rewrite [←hga] at KA ⊢
 clear hga hgb hgw hgr
 have fa0:wq.cell? ⟨ga,0,none⟩=some (.int .i64 n):=(blk_cell KA.out 0).trans rfl
 -- MARK1
 go_upto_region 2 with (fail)
 clear fa0
 refine start_ (n:=9) (S:=fun w'=>w'.cell? ⟨gb,1,none⟩=some (.int .i64 by1)∧True) (ds:=[8]) (pm 0 9) (by kernel_rfl) rfl rfl ⟨(blk_cell KB.out 1).trans rfl,trivial⟩ (fun hHeld=>?_)
 have HTd:=Aside0.mk (blk_below KB.out (below_drew (Below.refl _ _)))
 have HBd:Aside0 (Below wq.heap.size wq wq.drew):=⟨below_drew (Below.refl _ _)⟩
 generalize wq.drew=wd at HTd HBd hHeld ⊢
 iterate 3 (refine pn_ (v:=?_) (a':=?_) rfl (rfl (a:=some _)) (by kernel_rfl) (fun _ _ _ h=>h) (Or.inl ⟨by rfl,?_⟩) ?_ ?_;rotate_left;(intro w';go_simp;with_reducible rfl);rotate_left;(simp only [Act.put,M.sq3,i64_w,i32_w];rfl))
 refine po_ 4 (v:=?_) (a':=?_) rfl (rfl (a:=some _)) (by kernel_rfl) (fun _ _ _ h=>h) (Or.inl ⟨by rfl,?_⟩) ?_ ?_;rotate_left;(intro w';go_simp;with_reducible rfl);rotate_left;(simp only [Act.put,M.sq3,i64_w,i32_w];rfl)
 refine to_ 5 (v:=?_) (a':=?_) rfl (rfl (a:=some _)) (by kernel_rfl) (fun _ _ _ h=>h) (Or.inl ⟨by rfl,?_⟩) hHeld ?_ ?_;rotate_left;(intro w' hS_;obtain⟨s0,s1⟩:=hS_;go_simp;with_reducible rfl);rotate_left;(simp only [Act.put,M.sq3,i64_w,i32_w];rfl)
 refine join_ (σ:=Nat × Nat × Nat) 1 #[true,true,true,true,true,true,true,true,false] (fun s_=>[(21,BV n2 s_.1 s_.2.1),(10,.pointer (some ⟨s_.2.2,0,none⟩)),(24,.agg #[BV n2 s_.1 s_.2.1,.int .i64 by1])]) (fun s_ w'=>NewR wq w' n2 s_.1 s_.2.1 s_.2.2) ?_ ?_
 rotate_left
 ·intro hCont
  have hCX:=Aside0.mk hCont
  clear hCont
  refine two_ (i:=3) (j:=7) (Ni:=some 21) (Nj:=some 10) #[true,true,true,true,true,true,false,false,false] #[true,true,true,false,true,true,false,true,false] rfl rfl rfl rfl (by kernel_rfl) (by decide) (by decide) (fun K hK=>?_) (fun K hK=>?_)
  ·skip
   refine Kd.R_make_step Kd.bool wq.heap.size 4 (w0:=wq) rfl (N:=21) rfl 59 (.tmp 20) (.tmp 20) rfl (wrap64 (n*n)) rfl rfl Try.underlying59 (.bool false) 1 tk_info rfl (by decide) (by decide) false (ok:=fun _=>True) (okp:=fun _=>True) rfl (fun _ hk=>hk) trivial (by rw [HNW.out];omega) (by rw [HNW.out];have:=HN2.out;omega) HBd.out HBd.out.size ?_
   intro v1 wm hr1 hb1 hg1 hat1
   rw [HNW.out,Int.toNat_natCast] at hr1
   obtain⟨bx,cx_,rfl⟩:=tk_form hr1 List.length_replicate HN2.out.2.1
   have HRm:Aside0 (BR wq.heap.size wm n2 bx cx_ (List.replicate n2 false)):=⟨Kd.R_tight rfl hr1⟩
   have HBm:=Aside0.mk hb1
   have hTm:=blk_grown (HTd.out) hg1 nen
   have HTm:=Aside0.mk hTm
   clear hr1 hb1 hg1 hat1 hTm hHeld
   refine hK.out _ _ ⟨(blk_cell HTm.out 1).trans rfl,trivial⟩ (fun hHeld=>?_)
   clear hK K
   refine norm_ (a':=?_) ?_ ?_
   rotate_left
   ·show Act.put _ (some 21) _ = _
    simp only [Act.put,M.sq3,i64_w,i32_w]
    rfl
   refine po_ 6 (v:=?_) (a':=?_) rfl (rfl (a:=some _)) (by kernel_rfl) (fun _ _ _ h=>h) (Or.inl ⟨by rfl,?_⟩) ?_ ?_;rotate_left;(intro w';go_simp;with_reducible rfl);rotate_left;(simp only [Act.put,M.sq3,i64_w,i32_w];rfl)
   refine one_ (i:=7) (N:=(some 10)) #[true,true,true,true,true,true,true,true,false] rfl rfl (by kernel_rfl) (by decide) (fun K hK=>?_)
   obtain⟨gx,hgx⟩:∃g:Nat,g=wm.heap.size:=⟨_,rfl⟩
   have HGa:Aside0 ((wm.alloc (.cells #[.slice none 0 0,.int .i64 0] 87)).heap[gx]? = some (.cells #[.slice none 0 0,.int .i64 0] 87 (0,0))∧wq.heap.size≤gx):=⟨by rw [hgx];exact⟨blk_newAt _ rfl,HBm.out.size⟩⟩
   have HBa:Aside0 (Below wq.heap.size wq (wm.alloc (.cells #[.slice none 0 0,.int .i64 0] 87))):=⟨below_alloc HBm.out _⟩
   have HTa:=Aside0.mk (blk_old HTm.out (.cells #[.slice none 0 0,.int .i64 0] 87))
   have HRa:Aside0 (BR wq.heap.size (wm.alloc (.cells #[.slice none 0 0,.int .i64 0] 87)) n2 bx cx_ (List.replicate n2 false)):=⟨Kd.R_alloc HRm.out _⟩
   go_simp
   rw [←hgx]
   generalize wm.alloc (.cells #[.slice none 0 0,.int .i64 0] 87)=wa at HGa HBa HTa HRa ⊢
   clear hgx hHeld
   refine hK.out _ _ ⟨(blk_cell HTa.out 1).trans rfl,trivial⟩ (fun hHeld=>?_)
   clear hK K
   exact norm_ (by simp only [putAll,Act.put,M.sq3]) (hCX.out (bx,cx_,gx) _ ⟨HBa.out,HRa.out,HGa.out.1,HGa.out.2⟩)
  skip
  obtain⟨gx,hgx⟩:∃g:Nat,g=wd.heap.size:=⟨_,rfl⟩
  have HGa:Aside0 ((wd.alloc (.cells #[.slice none 0 0,.int .i64 0] 87)).heap[gx]? = some (.cells #[.slice none 0 0,.int .i64 0] 87 (0,0))∧wq.heap.size≤gx):=⟨by rw [hgx];exact⟨blk_newAt _ rfl,HBd.out.size⟩⟩
  have HBa:Aside0 (Below wq.heap.size wq (wd.alloc (.cells #[.slice none 0 0,.int .i64 0] 87))):=⟨below_alloc HBd.out _⟩
  have HTa:=Aside0.mk (blk_old HTd.out (.cells #[.slice none 0 0,.int .i64 0] 87))
  go_simp
  rw [←hgx]
  generalize wd.alloc (.cells #[.slice none 0 0,.int .i64 0] 87)=wa at HGa HBa HTa ⊢
  clear hgx hHeld
  refine hK.out _ _ ⟨(blk_cell HTa.out 1).trans rfl,trivial⟩ (fun hHeld=>?_)
  clear hK K
  refine one_ (i:=3) (N:=(some 21)) #[true,true,true,true,true,true,false,true,false] rfl rfl (by kernel_rfl) (by decide) (fun K hK=>?_)
  refine Kd.R_make_step Kd.bool wq.heap.size 4 (w0:=wq) rfl (N:=21) rfl 59 (.tmp 20) (.tmp 20) rfl (wrap64 (n*n)) rfl rfl Try.underlying59 (.bool false) 1 tk_info rfl (by decide) (by decide) false (ok:=fun _=>True) (okp:=fun _=>True) rfl (fun _ hk=>hk) trivial (by rw [HNW.out];omega) (by rw [HNW.out];have:=HN2.out;omega) HBa.out HBa.out.size ?_
  intro v1 wm hr1 hb1 hg1 hat1
  rw [HNW.out,Int.toNat_natCast] at hr1
  obtain⟨bx,cx_,rfl⟩:=tk_form hr1 List.length_replicate HN2.out.2.1
  have HRm:Aside0 (BR wq.heap.size wm n2 bx cx_ (List.replicate n2 false)):=⟨Kd.R_tight rfl hr1⟩
  have HBm:=Aside0.mk hb1
  have hTm:=blk_grown (HTa.out) hg1 nen
  have HGm:=Aside0.mk (blk_grown HGa.out.1 hg1 nen)
  have HTm:=Aside0.mk hTm
  clear hr1 hb1 hg1 hat1 hTm hHeld
  refine hK.out _ _ ⟨(blk_cell HTm.out 1).trans rfl,trivial⟩ (fun hHeld=>?_)
  clear hK K
  refine norm_ (a':=?_) ?_ ?_
  rotate_left
  ·show Act.put _ (some 21) _ = _
   simp only [Act.put,M.sq3,i64_w,i32_w]
   rfl
  refine po_ 6 (v:=?_) (a':=?_) rfl (rfl (a:=some _)) (by kernel_rfl) (fun _ _ _ h=>h) (Or.inl ⟨by rfl,?_⟩) ?_ ?_;rotate_left;(intro w';go_simp;with_reducible rfl);rotate_left;(simp only [Act.put,M.sq3,i64_w,i32_w];rfl)
  refine re_ #[true,true,true,true,true,true,true,true,false] (by kernel_rfl) ?_
  exact norm_ (by simp only [putAll,Act.put,M.sq3]) (hCX.out (bx,cx_,gx) _ ⟨HBm.out,HRm.out,HGm.out,HGa.out.2⟩)
 rintro⟨bx,cx_,gx⟩ wl hnew
 have HNW2:=Aside0.mk hnew
 clear hnew
 refine norm_ (a':=?_) ?_ ?_
 rotate_left
 ·simp only [putAll, Act.put, M.sq3, i64_w, i32_w]
  rfl
 refine last_ (i:=8) (N:=none) (pm 9 0) rfl rfl (by kernel_rfl) (by decide) (fun K hK=>?_)
 have hc0:wl.cell? ⟨gx,0,none⟩=some (.slice none 0 0):=(blk_cell HNW2.out.g 0).trans rfl
 have hc1:wl.cell? ⟨gx,1,none⟩=some (.int .i64 0):=(blk_cell HNW2.out.g 1).trans rfl
 have hf0:=blk_frozen HNW2.out.g 0
 have hf1:=blk_frozen HNW2.out.g 1
 have HX:Aside0 (NxR wq ((wl.setCell ⟨gx,0,none⟩ (BV n2 bx cx_)).setCell ⟨gx,1,none⟩ (.int .i64 by1)) n2 bx cx_ gx by1 (List.replicate n2 false)):=⟨NxR.born HNW2.out by1⟩
 refine Go.Proofs.Ytjkhdldgmkkhjaa.M.step_skip (w1:=((wl.setCell ⟨gx,0,none⟩ (BV n2 bx cx_)).setCell ⟨gx,1,none⟩ (.int .i64 by1))) rfl rfl (by go_simp) ?_
 clear hHeld
 refine hK.out _ _ ?_
 clear hK K
 obtain⟨wd,hwd⟩:∃W:World,W=((wl.setCell ⟨gx,0,none⟩ (BV n2 bx cx_)).setCell ⟨gx,1,none⟩ (.int .i64 by1)):=⟨_,rfl⟩
 rw [←hwd] at HX ⊢
 clear hwd hc0 hc1 hf0 hf1 HNW2
 try clear wl
 obtain⟨wl,rfl⟩:∃W:World,W=wd:=⟨_,rfl⟩
 refine done_ (by kernel_rfl) ?_
 clear HTd HBd wd
 -- MARK2
 have HM0:Aside0 (Mat n (List.replicate n2 false) ((l4.take 0).flatMap (tBo n row under l5 x by0))):=⟨by rw [HN2.out.2.2.2];exact Mat.zero n⟩
 go_wp2
 go_loopg [11] l4.length (fun gk vj w'=>∃(i_:Nat) (M:List Bool),vj=.int .i64 (i_:Int)∧Aside0 (i_≤l4.length∧l4.length - i_≤gk)∧Aside0 (NxR wq w' n2 bx cx_ gx by1 M)∧Aside0 (Mat n M ((l4.take i_).flatMap (tBo n row under l5 x by0))))
 case atStart=>exact⟨0,_,rfl,⟨by omega,by omega⟩,HX,HM0⟩
 case' round=>skip
 clear HX HM0
 obtain⟨i_,M,rfl,Hi_,HX,HMt⟩:=hrel
 try clear wl
 obtain⟨wl,rfl⟩:∃W:World,W=wr:=⟨_,rfl⟩
 have a4:wl.cell? ⟨ga,4,none⟩=some (.slice A4 l4.length c4):=(blk_cell (blk_below KA.out HX.out.b) 4).trans rfl
 by_cases hl_:i_ < l4.length
 ·as_aux_lemma=>
   have HLI:=Aside0.mk hl_
   obtain⟨ad4,eA,e0,e1,e2,e3⟩:=at_T52 (Kd.C_below HI4.out.1 (below_then HB.out HB.out.size HX.out.b)) (i_:Int) (by omega) (by omega)
   have hrd:rd_T52 l4 (i_:Int)=l4[i_]:=by unfold rd_T52;rw [Int.toNat_natCast,List.getD_eq_getElem?_getD,List.getElem?_eq_getElem hl_];rfl
   rw [hrd,Int.toNat_natCast] at e0 e1 e2 e3
   clear hrd
   have hIN:=HINS.out.o l4[i_] (List.getElem_mem hl_)
   have HNX:Aside0 ((l4.take (i_+1)).flatMap (tBo n row under l5 x by0)=(l4.take i_).flatMap (tBo n row under l5 x by0) ++ tBo n row under l5 x by0 l4[i_]):=⟨fl_next _ _ _ hl_⟩
   generalize l4[i_]=r_ at HNX hIN e0 e1 e2 e3
   obtain⟨x0,x1,x2,x3⟩:=r_
   have HIN:Aside0 (inN n x0∧inN n x2):=⟨hIN⟩
   clear hIN
   have s3:=eq_true (show (i_:Int) < (l4.length:Int) by omega)
   have s4:=eq_true (show (0:Int)≤(i_:Int) by omega)
   subst eA
   clear hl_
   obtain⟨L0,hL0⟩:∃L,L=(l4.take i_).flatMap (tBo n row under l5 x by0):=⟨_,rfl⟩
   rw [←hL0] at HNX HMt
   clear hL0
   go_upto_region 7 with (fail)
   obtain⟨rb,hrb⟩:∃g,g=wl.heap.size:=⟨_,rfl⟩
   have HRB:Aside0 ((wl.alloc (.cells #[.int .i64 x0,.int .i64 x1,.int .i64 x2,.int .i64 x3] 52)).heap[rb]? = some (.cells #[.int .i64 x0,.int .i64 x1,.int .i64 x2,.int .i64 x3] 52 (0,0))):=⟨by rw [hrb];exact blk_newAt _ rfl⟩
   have H_1:=Aside0.mk (HX.out.below (below_alloc (Below.refl _ _) (.cells #[.int .i64 x0,.int .i64 x1,.int .i64 x2,.int .i64 x3] 52)))
   clear HX
   have HX:=H_1
   clear H_1
   rw [←hrb]
   clear hrb e0 e1 e2 e3 a4 s3 s4
   obtain⟨wd,hwd⟩:∃W:World,W=wl.alloc (.cells #[.int .i64 x0,.int .i64 x1,.int .i64 x2,.int .i64 x3] 52):=⟨_,rfl⟩
   rw [←hwd] at HX HRB ⊢
   clear hwd
   try clear wl
   obtain⟨wl,rfl⟩:∃W:World,W=wd:=⟨_,rfl⟩
   have w1:wl.cell? ⟨gw,1,none⟩=some (.int .i64 by0):=(blk_cell (blk_below KC.out HX.out.b) 1).trans rfl
   have r1:wl.cell? ⟨rb,1,none⟩=some (.int .i64 x1):=(blk_cell HRB.out 1).trans rfl
   -- MARK3
   by_cases hx1:x1=by0
   rotate_left
   ·have q2 : (x1 != by0) = true := bne_iff_ne.mpr hx1
    have HF:Aside0 (tBo n row under l5 x by0 ⟨x0,x1,x2,x3⟩ = []):=⟨if_neg hx1⟩
    clear hx1
    go_wp2_with fail
    go_wp2
    go_roundg (l4.length - (i_+1))
    case measure=>have:=Hi_.out;have:=HLI.out;omega
    case rel=>exact⟨i_+1,M,by first|rfl|rw [show wrap64 ((i_:Int)+1)=((i_+1:Nat):Int) by have:=HLI.out;have:=HI4.out.2.2;unfold wrap64;omega],⟨HLI.out,Nat.le_refl _⟩,HX,⟨by rw [HNX.out,HF.out,List.append_nil];exact HMt.out⟩⟩
   have q2:(x1 != by0)=false:=by rw [hx1];exact bne_self_eq_false _
   have HF:Aside0 (tBo n row under l5 x by0 ⟨x0,x1,x2,x3⟩=l5.flatMap (tBk n row under x ⟨x0,x1,x2,x3⟩)):=⟨if_pos hx1⟩
   clear hx1
   have HMq:Aside0 (Mat n M (L0 ++ (l5.take 0).flatMap (tBk n row under x ⟨x0,x1,x2,x3⟩))):=⟨by simpa using HMt.out⟩
   clear HMt
   -- MARK4
   go_wp2_with fail
   clear w1 r1 q2
   go_wp2
   go_loopg [13] l5.length (fun gk vj w'=>∃(k_:Nat) (M:List Bool),vj=.int .i64 (k_:Int)∧Aside0 (k_≤l5.length∧l5.length - k_≤gk)∧Aside0 (NxR wq w' n2 bx cx_ gx by1 M)∧Aside0 (Mat n M (L0 ++ (l5.take k_).flatMap (tBk n row under x ⟨x0,x1,x2,x3⟩)))∧Aside0 (w'.heap[rb]? = some (.cells #[.int .i64 x0,.int .i64 x1,.int .i64 x2,.int .i64 x3] 52 (0,0))))
   case atStart=>exact⟨0,_,rfl,⟨by omega,by omega⟩,HX,HMq,HRB⟩
   case' round=>skip
   clear HX HMq HRB
   obtain⟨k_,M,rfl,Hk_,HX,HMq,HRB⟩:=hrel
   try clear wl
   obtain⟨wl,rfl⟩:∃W:World,W=wr:=⟨_,rfl⟩
   have a5:wl.cell? ⟨ga,5,none⟩=some (.slice A5 l5.length c5):=(blk_cell (blk_below KA.out HX.out.b) 5).trans rfl
   by_cases hl_:k_ < l5.length
   ·as_aux_lemma=>
     have HLK:=Aside0.mk hl_
     obtain⟨ad5,eA,f0,f1,f2,f3⟩:=at_T54 (Kd.C_below HI5.out.1 (below_then HB.out HB.out.size HX.out.b)) (k_:Int) (by omega) (by omega)
     have hrd:rd_T54 l5 (k_:Int)=l5[k_]:=by unfold rd_T54;rw [Int.toNat_natCast,List.getD_eq_getElem?_getD,List.getElem?_eq_getElem hl_];rfl
     rw [hrd,Int.toNat_natCast] at f0 f1 f2 f3
     clear hrd
     have hIN:=HINS.out.c l5[k_] (List.getElem_mem hl_)
     have HNY:Aside0 ((l5.take (k_+1)).flatMap (tBk n row under x ⟨x0,x1,x2,x3⟩)=(l5.take k_).flatMap (tBk n row under x ⟨x0,x1,x2,x3⟩) ++ tBk n row under x ⟨x0,x1,x2,x3⟩ l5[k_]):=⟨fl_next _ _ _ hl_⟩
     generalize l5[k_]=r_ at HNY hIN f0 f1 f2 f3
     obtain⟨z0,z1,z2,z3⟩:=r_
     have HIC:Aside0 (inN n z0∧inN n z3):=⟨hIN⟩
     clear hIN
     have s3:=eq_true (show (k_:Int) < (l5.length:Int) by omega)
     have s4:=eq_true (show (0:Int)≤(k_:Int) by omega)
     subst eA
     clear hl_
     obtain⟨L1,hL1⟩:∃L,L=L0 ++ (l5.take k_).flatMap (tBk n row under x ⟨x0,x1,x2,x3⟩):=⟨_,rfl⟩
     have HL1:=Aside0.mk hL1
     rw [←hL1] at HMq
     clear hL1
     go_upto_region 12 with (fail)
     obtain⟨rc,hrb⟩:∃g,g=wl.heap.size:=⟨_,rfl⟩
     have HRC:Aside0 ((wl.alloc (.cells #[.int .i64 z0,.int .i64 z1,.int .i64 z2,.int .i64 z3] 54)).heap[rc]? = some (.cells #[.int .i64 z0,.int .i64 z1,.int .i64 z2,.int .i64 z3] 54 (0,0))):=⟨by rw [hrb];exact blk_newAt _ rfl⟩
     have H_1:=Aside0.mk (HX.out.below (below_alloc (Below.refl _ _) (.cells #[.int .i64 z0,.int .i64 z1,.int .i64 z2,.int .i64 z3] 54)))
     clear HX
     have HX:=H_1
     clear H_1
     have H_1:=Aside0.mk (blk_old HRB.out (.cells #[.int .i64 z0,.int .i64 z1,.int .i64 z2,.int .i64 z3] 54))
     clear HRB
     have HRB:=H_1
     clear H_1
     rw [←hrb]
     clear hrb f0 f1 f2 f3 a5 s3 s4
     obtain⟨wd,hwd⟩:∃W:World,W=wl.alloc (.cells #[.int .i64 z0,.int .i64 z1,.int .i64 z2,.int .i64 z3] 54):=⟨_,rfl⟩
     rw [←hwd] at HX HRC HRB ⊢
     clear hwd
     try clear wl
     obtain⟨wl,rfl⟩:∃W:World,W=wd:=⟨_,rfl⟩
     have x_2:wl.cell? ⟨rb,2,none⟩=some (.int .i64 x2):=(blk_cell HRB.out 2).trans rfl
     have x_3:wl.cell? ⟨rb,3,none⟩=some (.int .i64 x3):=(blk_cell HRB.out 3).trans rfl
     have z_0:wl.cell? ⟨rc,0,none⟩=some (.int .i64 z0):=(blk_cell HRC.out 0).trans rfl
     have z_1:wl.cell? ⟨rc,1,none⟩=some (.int .i64 z1):=(blk_cell HRC.out 1).trans rfl
     have z_2:wl.cell? ⟨rc,2,none⟩=some (.int .i64 z2):=(blk_cell HRC.out 2).trans rfl
     -- MARK5
     by_cases hz1:z1=x
     rotate_left
     ·have q2 : (z1 != x) = true := bne_iff_ne.mpr hz1
      have HF2:Aside0 (tBk n row under x ⟨x0,x1,x2,x3⟩ ⟨z0,z1,z2,z3⟩ = []):=⟨if_neg (fun h=>hz1 h.1)⟩
      clear hz1
      go_wp2_with fail
      go_wp2
      go_roundg (l5.length - (k_+1))
      case measure=>have:=Hk_.out;have:=HLK.out;omega
      case rel=>exact⟨k_+1,M,by first|rfl|rw [show wrap64 ((k_:Int)+1)=((k_+1:Nat):Int) by have:=HLK.out;have:=HI5.out.2.2;unfold wrap64;omega],⟨HLK.out,Nat.le_refl _⟩,HX,⟨by rw [HNY.out,HF2.out,List.append_nil,←HL1.out];exact HMq.out⟩,HRB⟩
     have q2:(z1 != x)=false:=by rw [hz1];exact bne_self_eq_false _
     by_cases hz2:z2=x3
     rotate_left
     ·have q3 : (z2 != x3) = true := bne_iff_ne.mpr hz2
      have HF2:Aside0 (tBk n row under x ⟨x0,x1,x2,x3⟩ ⟨z0,z1,z2,z3⟩ = []):=⟨if_neg (fun h=>hz2 h.2.1)⟩
      clear hz1 hz2
      go_wp2_with fail
      go_wp2
      go_roundg (l5.length - (k_+1))
      case measure=>have:=Hk_.out;have:=HLK.out;omega
      case rel=>exact⟨k_+1,M,by first|rfl|rw [show wrap64 ((k_:Int)+1)=((k_+1:Nat):Int) by have:=HLK.out;have:=HI5.out.2.2;unfold wrap64;omega],⟨HLK.out,Nat.le_refl _⟩,HX,⟨by rw [HNY.out,HF2.out,List.append_nil,←HL1.out];exact HMq.out⟩,HRB⟩
     have q3:(z2 != x3)=false:=by rw [hz2];exact bne_self_eq_false _
     have w0:wl.cell? ⟨gw,0,none⟩=some (BV n2 b0 c0):=(blk_cell (blk_below KC.out HX.out.b) 0).trans rfl
     obtain⟨zrx,hzrx⟩:∃t:Int,t=x2*n:=⟨_,rfl⟩
     have HHzrx:=Aside0.mk hzrx
     have ezr1:wrap64 (x2*n)=zrx:=by rw [hzrx];exact(ix_wrap HN.out.2 HIN.out.2 HIC.out.1).1
     clear hzrx
     obtain⟨zr,hzr⟩:∃t:Int,t=zrx+z0:=⟨_,rfl⟩
     have Hzr:Aside0 (zr=x2*n+z0∧0≤zr∧zr < (n2:Int)):=⟨by have h1:=ix_in HN.out.2 HIN.out.2 HIC.out.1;have h2:=HN2.out.1;rw [hzr,HHzrx.out];exact⟨rfl,by omega,by omega⟩⟩
     have ezr2:wrap64 (zrx+z0)=zr:=by rw [hzr,HHzrx.out];exact(ix_wrap HN.out.2 HIN.out.2 HIC.out.1).2
     have pzr:=eq_true Hzr.out.2.1
     have rzr:=eq_true Hzr.out.2.2
     clear hzr
     obtain⟨y1_,y2_⟩:=Kd.R_celln false (HW.out.1.below HX.out.b) zr Hzr.out.2.1 Hzr.out.2.2
     have hiff:=HW.out.2.m _ _ HIN.out.2 HIC.out.1
     rw [←Hzr.out.1] at hiff
     clear y2_
     by_cases hx:(x2,z0)∈row
     rotate_left
     ·rw [rd_no hiff hx] at y1_
      have HF2:Aside0 (tBk n row under x ⟨x0,x1,x2,x3⟩ ⟨z0,z1,z2,z3⟩ = []):=⟨if_neg (fun h=>hx h.2.2)⟩
      clear hz1 hz2 hx hiff
      go_wp2_with fail
      go_wp2
      go_roundg (l5.length - (k_+1))
      case measure=>have:=Hk_.out;have:=HLK.out;omega
      case rel=>exact⟨k_+1,M,by first|rfl|rw [show wrap64 ((k_:Int)+1)=((k_+1:Nat):Int) by have:=HLK.out;have:=HI5.out.2.2;unfold wrap64;omega],⟨HLK.out,Nat.le_refl _⟩,HX,⟨by rw [HNY.out,HF2.out,List.append_nil,←HL1.out];exact HMq.out⟩,HRB⟩
     rw [hiff.2 hx] at y1_
     have HF2:Aside0 (tBk n row under x ⟨x0,x1,x2,x3⟩ ⟨z0,z1,z2,z3⟩=oneL under (fun p=>p) x0 z3 n.toNat):=⟨if_pos ⟨hz1,hz2,hx⟩⟩
     have HMp:Aside0 (Mat n M (L1 ++ oneL under (fun p=>p) x0 z3 0)):=⟨by unfold oneL;simpa using HMq.out⟩
     clear hz1 hz2 hx hiff HMq
     -- MARK6
     go_wp2_with fail
     clear q2 q3 w0 x_2 x_3 z_0 z_1 z_2 y1_ ezr1 ezr2 pzr rzr
     go_wp2
     go_loopg [15] n.toNat (fun gk vj w'=>∃(p_:Nat) (M:List Bool),vj=.int .i64 (p_:Int)∧Aside0 (p_≤n.toNat∧n.toNat - p_≤gk)∧Aside0 (NxR wq w' n2 bx cx_ gx by1 M)∧Aside0 (Mat n M (L1 ++ oneL under (fun p=>p) x0 z3 p_))∧Aside0 (w'.heap[rb]? = some (.cells #[.int .i64 x0,.int .i64 x1,.int .i64 x2,.int .i64 x3] 52 (0,0)))∧Aside0 (w'.heap[rc]? = some (.cells #[.int .i64 z0,.int .i64 z1,.int .i64 z2,.int .i64 z3] 54 (0,0))))
     case atStart=>exact⟨0,_,rfl,⟨by omega,by omega⟩,HX,HMp,HRB,HRC⟩
     case' round=>skip
     clear HX HMp HRB HRC
     obtain⟨p_,M,rfl,Hp_,HX,HMp,HRB,HRC⟩:=hrel
     try clear wl
     obtain⟨wl,rfl⟩:∃W:World,W=wr:=⟨_,rfl⟩
     by_cases hp:(p_:Int) < n
     ·have q1 := decide_eq_true hp
      have q0:=eq_true hp
      have HPN:Aside0 (inN n (p_:Int)):=⟨⟨by omega,hp⟩⟩
      have HPL:Aside0 (p_ < n.toNat):=⟨by omega⟩
      clear hp
      have x_0:wl.cell? ⟨rb,0,none⟩=some (.int .i64 x0):=(blk_cell HRB.out 0).trans rfl
      have z_3:wl.cell? ⟨rc,3,none⟩=some (.int .i64 z3):=(blk_cell HRC.out 3).trans rfl
      have u0:wl.cell? ⟨gb,0,none⟩=some (BV n2 b1 c1):=(blk_cell (blk_below KB.out HX.out.b) 0).trans rfl
      have m0:wl.cell? ⟨gx,0,none⟩=some (BV n2 bx cx_):=(blk_cell HX.out.g 0).trans rfl
      obtain⟨zrx,hzrx⟩:∃t:Int,t=(p_:Int)*n:=⟨_,rfl⟩
      have HHzrx:=Aside0.mk hzrx
      have ezr1:wrap64 ((p_:Int)*n)=zrx:=by rw [hzrx];exact(ix_wrap HN.out.2 HPN.out HIN.out.1).1
      clear hzrx
      obtain⟨zr,hzr⟩:∃t:Int,t=zrx+x0:=⟨_,rfl⟩
      have Hzr:Aside0 (zr=(p_:Int)*n+x0∧0≤zr∧zr < (n2:Int)):=⟨by have h1:=ix_in HN.out.2 HPN.out HIN.out.1;have h2:=HN2.out.1;rw [hzr,HHzrx.out];exact⟨rfl,by omega,by omega⟩⟩
      have ezr2:wrap64 (zrx+x0)=zr:=by rw [hzr,HHzrx.out];exact(ix_wrap HN.out.2 HPN.out HIN.out.1).2
      have pzr:=eq_true Hzr.out.2.1
      have rzr:=eq_true Hzr.out.2.2
      clear hzr
      obtain⟨y1_,y2_⟩:=Kd.R_celln false (HU.out.1.below HX.out.b) zr Hzr.out.2.1 Hzr.out.2.2
      have hiff:=HU.out.2.m _ _ HPN.out HIN.out.1
      rw [←Hzr.out.1] at hiff
      clear y2_
      by_cases hx:((p_:Int),x0)∈under
      ·have HXR := Aside0.mk hx
       rw [hiff.2 hx] at y1_
       clear hx hiff
       obtain⟨z,hz⟩:∃t:Int,t=zrx+z3:=⟨_,rfl⟩
       have Hz:Aside0 (z=(p_:Int)*n+z3∧0≤z∧z < (n2:Int)):=⟨by have h1:=ix_in HN.out.2 HPN.out HIC.out.2;have h2:=HN2.out.1;rw [hz,HHzrx.out];exact⟨rfl,by omega,by omega⟩⟩
       have ez2:wrap64 (zrx+z3)=z:=by rw [hz,HHzrx.out];exact(ix_wrap HN.out.2 HPN.out HIC.out.2).2
       have pz:=eq_true Hz.out.2.1
       have rz:=eq_true Hz.out.2.2
       clear hz
       obtain⟨v1_,v2_⟩:=Kd.R_celln false HX.out.r z (of_eq_true pz) (of_eq_true rz)
       go_wp2
       go_roundg (n.toNat - (p_+1))
       case measure=>have:=Hp_.out;have:=HPL.out;omega
       case rel=>exact⟨p_+1,M.set z.toNat true,by first|rfl|rw [show wrap64 ((p_:Int)+1)=((p_+1:Nat):Int) by have:=HPL.out;have:=HN.out;unfold wrap64;omega],⟨HPL.out,Nat.le_refl _⟩,⟨HX.out.put z⟩,⟨by rw [oneL_next,if_pos HXR.out,←List.append_assoc,Hz.out.1];exact HMp.out.push HN.out.2 HPN.out HIC.out.2⟩,⟨blk_far HRB.out (show rb≠bx from fun e=>Kd.R_ne HX.out.r HRB.out (by decide) (congrArg some e)) _⟩,⟨blk_far HRC.out (show rc≠bx from fun e=>Kd.R_ne HX.out.r HRC.out (by decide) (congrArg some e)) _⟩⟩
      have HXR := Aside0.mk hx
      rw [rd_no hiff hx] at y1_
      clear hx hiff
      go_wp2
      go_roundg (n.toNat - (p_+1))
      case measure=>have:=Hp_.out;have:=HPL.out;omega
      case rel=>exact⟨p_+1,M,by first|rfl|rw [show wrap64 ((p_:Int)+1)=((p_+1:Nat):Int) by have:=HPL.out;have:=HN.out;unfold wrap64;omega],⟨HPL.out,Nat.le_refl _⟩,HX,⟨by rw [oneL_next,if_neg HXR.out,List.append_nil];exact HMp.out⟩,HRB,HRC⟩
     have q1:=decide_eq_false hp
     have q0:=eq_false hp
     have HPL:Aside0 (p_=n.toNat):=⟨by have:=Hp_.out;omega⟩
     clear hp
     go_wp2
     go_roundg (l5.length - (k_+1))
     case measure=>have:=Hk_.out;have:=HLK.out;omega
     case rel=>exact⟨k_+1,M,by first|rfl|rw [show wrap64 ((k_:Int)+1)=((k_+1:Nat):Int) by have:=HLK.out;have:=HI5.out.2.2;unfold wrap64;omega],⟨HLK.out,Nat.le_refl _⟩,HX,⟨by rw [HNY.out,HF2.out,←List.append_assoc,←HL1.out,←HPL.out];exact HMp.out⟩,HRB⟩
   have e4:l5.take k_=l5:=List.take_of_length_le (by omega)
   rw [e4] at HMq
   have s3:=eq_false (show ¬(k_:Int) < (l5.length:Int) by omega)
   clear hl_ e4 Hk_
   go_wp2
   go_roundg (l4.length - (i_+1))
   case measure=>have:=Hi_.out;have:=HLI.out;omega
   case rel=>exact⟨i_+1,M,by first|rfl|rw [show wrap64 ((i_:Int)+1)=((i_+1:Nat):Int) by have:=HLI.out;have:=HI4.out.2.2;unfold wrap64;omega],⟨HLI.out,Nat.le_refl _⟩,HX,⟨by rw [HNX.out,HF.out];exact HMq.out⟩⟩
 have e4:l4.take i_=l4:=List.take_of_length_le (by omega)
 rw [e4] at HMt
 have s3:=eq_false (show ¬(i_:Int) < (l4.length:Int) by omega)
 clear hl_ e4 Hi_
 -- MARK7
 have KD1:=Aside0.mk (blk_below KD.out HX.out.b)
 have d0:wl.cell? ⟨gr,0,none⟩=some (.slice none 0 0):=(blk_cell KD1.out 0).trans rfl
 have d1:wl.cell? ⟨gr,1,none⟩=some (.int .i64 0):=(blk_cell KD1.out 1).trans rfl
 have d2:=blk_frozen KD1.out 0
 have d3:=blk_frozen KD1.out 1
 have m0:wl.cell? ⟨gx,0,none⟩=some (BV n2 bx cx_):=(blk_cell HX.out.g 0).trans rfl
 have m1:wl.cell? ⟨gx,1,none⟩=some (.int .i64 by1):=(blk_cell HX.out.g 1).trans rfl
 go_wp2
 refine bodyPost_ret (results_cell_row rfl _ _ gr 87 #[BV n2 bx cx_,.int .i64 by1] (0,0) _ rfl (blk_put (blk_put KD1.out 0 _ rfl) 1 _ rfl) Try.underlying87 rfl (by kernel_rfl)) rfl ?_
 have hgr:=HGR.out
 have hf0:=blk_put KD1.out 0 (BV n2 bx cx_) rfl
 exact⟨bx,cx_,M,rfl,((HX.out.r.far KD1.out (by decide) 0 _).far hf0 (by decide) 1 _).lower HB.out.size,HMt.out.congr (mem_tBo HIU.out _ _ _ _),((below_then HB.out HB.out.size HX.out.b).setCell hgr _).setCell hgr _⟩
end Go.Proofs.Ytjkhdldgmkkhjaa.P
