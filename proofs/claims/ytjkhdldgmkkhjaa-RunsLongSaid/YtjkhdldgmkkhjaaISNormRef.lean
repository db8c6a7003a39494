/- Words and walks of this claim: SNormRef. -/
import Derived.Test.YtjkhdldgmkkhjaaIMFar
import Derived.Test.YtjkhdldgmkkhjaaISRefInts
import Derived.Test.YtjkhdldgmkkhjaaISRows
import Derived.Test.YtjkhdldgmkkhjaaIUTyEtc
import Derived.BigQuiet
set_option linter.unusedVariables false
set_option linter.unusedSimpArgs false
set_option linter.unnecessarySimpa false
namespace Go.Proofs.Ytjkhdldgmkkhjaa.P
open Go.RowKit Go.Proofs.YtjkhdldgmkkhjaaW.PrintWords Go.Proofs.YtjkhdldgmkkhjaaW.PrintLast Go.Proofs.YtjkhdldgmkkhjaaW.PrintMore Go.Proofs.Ytjkhdldgmkkhjaa.M
structure In2 (wd w:World) (go:Nat) (v2 v3:Value) (r2 r3:List Int):Prop where
 b:Below wd.heap.size wd w
 gin:wd.heap.size≤go
 t:w.heap[go]? = some (.cells #[.int .i64 0,.int .i64 0,.slice none 0 0,.slice none 0 0,.slice none 0 0,.slice none 0 0,.slice none 0 0] 30 (0,0))
 r2:Kd.R (Kd.int .i64) 3 w wd.heap.size (fun k=>some k=v2.ownBlock) v2 r2
 r3:Kd.R (Kd.int .i64) 3 w wd.heap.size (fun k=>some k=v3.ownBlock) v3 r3
 ne:∀k,some k=v2.ownBlock→some k≠v3.ownBlock
theorem OutR.born {w wO:World} {go:Nat} {v2 v3:Value} {r2 r3:List Int} (h:In2 wO w go v2 v3 r2 r3) (N G:Value) :
 OutR (((((((w.setCell ⟨go,0,none⟩ N).setCell ⟨go,1,none⟩ G).setCell ⟨go,2,none⟩ v2).setCell ⟨go,3,none⟩ v3).setCell ⟨go,4,none⟩ (.slice none 0 0)).setCell ⟨go,5,none⟩ (.slice none 0 0)).setCell ⟨go,6,none⟩ (.slice none 0 0)) wO go N G v2 v3 (.slice none 0 0) (.slice none 0 0) (.slice none 0 0) r2 r3 [] [] []:=by
 obtain⟨hb,hg,ht,h2,h3,ne⟩:=h
 have hne2:∀k,some k=v2.ownBlock→k=go→False:=fun k hk e=>Kd.R_ne h2 ht (by decide) (by rw [←hk];exact congrArg some e.symm)
 have hne3:∀k,some k=v3.ownBlock→k=go→False:=fun k hk e=>Kd.R_ne h3 ht (by decide) (by rw [←hk];exact congrArg some e.symm)
 exact⟨(((((((hb.setCell hg _).setCell hg _).setCell hg _).setCell hg _).setCell hg _).setCell hg _).setCell hg _),hg,blk_set (blk_set (blk_set (blk_set (blk_set (blk_set (blk_set (ht) 0 N) 1 G) 2 v2) 3 v3) 4 _) 5 _) 6 _,Kd.R_far (p:=⟨go,6,none⟩) (Kd.R_far (p:=⟨go,5,none⟩) (Kd.R_far (p:=⟨go,4,none⟩) (Kd.R_far (p:=⟨go,3,none⟩) (Kd.R_far (p:=⟨go,2,none⟩) (Kd.R_far (p:=⟨go,1,none⟩) (Kd.R_far (p:=⟨go,0,none⟩) (h2) (fun k hk e=>hne2 k hk e) _) (fun k hk e=>hne2 k hk e) _) (fun k hk e=>hne2 k hk e) _) (fun k hk e=>hne2 k hk e) _) (fun k hk e=>hne2 k hk e) _) (fun k hk e=>hne2 k hk e) _) (fun k hk e=>hne2 k hk e) _,Kd.R_far (p:=⟨go,6,none⟩) (Kd.R_far (p:=⟨go,5,none⟩) (Kd.R_far (p:=⟨go,4,none⟩) (Kd.R_far (p:=⟨go,3,none⟩) (Kd.R_far (p:=⟨go,2,none⟩) (Kd.R_far (p:=⟨go,1,none⟩) (Kd.R_far (p:=⟨go,0,none⟩) (h3) (fun k hk e=>hne3 k hk e) _) (fun k hk e=>hne3 k hk e) _) (fun k hk e=>hne3 k hk e) _) (fun k hk e=>hne3 k hk e) _) (fun k hk e=>hne3 k hk e) _) (fun k hk e=>hne3 k hk e) _) (fun k hk e=>hne3 k hk e) _,Kd.R_nil _ _ _ _ _,Kd.R_nil _ _ _ _ _,Kd.R_nil _ _ _ _ _,ne⟩
def toOpen4 (x:TOpen):TOpen:=⟨x.f0,x.f1,x.f2,x.f3⟩
def ofOpen4 (x:TOpen):TOpen:=⟨x.f0,x.f1,x.f2,x.f3⟩
theorem open_lift {W W' : World} {x:TOpen} {cs:List Value} (h:k52.K W x cs):k52.K W' x cs:=h
theorem rows_ne {w:World} {go n:Nat} {A:Option Addr} {l:List TOpen} {N G:Int} {a2 a3 a4 a5 a6:Option Addr} {n2 n3 n4 n5 n6 k2 k3 k4 k5 k6:Nat} (h:Kd.C k52 w A n l)
 (ht:w.heap[go]? = some (.cells #[.int .i64 N,.int .i64 G,.slice a2 n2 k2,.slice a3 n3 k3,.slice a4 n4 k4,.slice a5 n5 k5,.slice a6 n6 k6] 30 (0,0))):∀ad,A=some ad→0 < n→ad.block≠go:=by
 intro ad hA hn e
 obtain⟨ad2,e2,c0,c1,c2,c3⟩:=at_T52 h 0 (Int.le_refl _) (by omega)
 rw [hA] at e2
 cases e2
 have h2:w.cell? ⟨go,(ad.add ((0:Int).toNat*4)).off+2,none⟩=some (.int .i64 (rd_T52 l 0).f2):=by rw [←e];exact c2
 rw [blk_cell ht] at h2
 generalize (ad.add ((0:Int).toNat*4)).off=m at h2
 rcases m with _|_|_|_|_|m
 all_goals simp at h2
theorem rslice3 {α:Type} {d:Kd α} {e base:Nat} {ok:Nat→Prop} {w:World} {v:Value} {xs:List α} (h:d.R e w base ok v xs):∃A m c,v=.slice A m c:=by
 obtain⟨A,c,rfl⟩:=Kd.R_slice h
 exact⟨A,_,c,rfl⟩
theorem rinfoOpen:(Try.prog.info? 52).map (fun i=>(i.zero,i.size,i.bytes))=some (some (.agg #[.int .i64 0,.int .i64 0,.int .i64 0,.int .i64 0]),4,32):=by kernel_rfl
theorem rinfoClose:(Try.prog.info? 54).map (fun i=>(i.zero,i.size,i.bytes))=some (some (.agg #[.int .i64 0,.int .i64 0,.int .i64 0,.int .i64 0]),4,32):=by kernel_rfl
theorem rinfoInner:(Try.prog.info? 56).map (fun i=>(i.zero,i.size,i.bytes))=some (some (.agg #[.int .i64 0,.int .i64 0,.int .i64 0]),3,24):=by kernel_rfl
theorem map_next {α β:Type} (f:α→β) (l:List α) (i:Nat) (h:i < l.length):(l.take (i+1)).map f=(l.take i).map f ++ [f l[i]]:=by
 rw [List.take_add_one,List.getElem?_eq_getElem h,List.map_append]
 rfl
def toOpen5 (x:TClose):TOpen:=⟨x.f0,x.f1,x.f2,x.f3⟩
def ofOpen5 (x:TOpen):TClose:=⟨x.f0,x.f1,x.f2,x.f3⟩
def toOpen6 (x:TInner):TOpen:=⟨x.f0,x.f1,x.f2,0⟩
def ofOpen6 (x:TOpen):TInner:=⟨x.f0,x.f1,x.f2⟩
def N22r.T:Bool × List (List Nat × List Nat):=(true,[([],[]),([0],[0]),([],[]),([],[]),([2,3],[2,3]),([4],[4]),([5],[5]),([],[]),([],[]),([7,8],[7,8]),([9],[9]),([10],[10]),([],[]),([],[]),([12,13],[12,13]),([14],[14]),([15],[15]),([],[]),([],[]),([17,18],[17,18]),([19],[19]),([20],[20]),([6,11,16,21],[6,11,16,21]),([22],[22]),([1,23],[1,23]),([0,1,2,3,4,5,6,7,8,9,10,11,12,13,14,15,16,17,18,19,20,21,22,23,24],[]),([25,24,24,0,1,2,3,4,5,6,7,8,9,10,11,12,13,14,15,16,17,18,19,20,21,22,23,24],[24,25])])
def N22r.B:List Nat:=[0,1,0,0,12,28,60,0,0,384,896,1920,0,0,12288,28672,61440,0,0,393216,917504,1966080,4194300,8388604,16777215,33554431,67108863]
theorem N22r.tab:rtab .any (opsOf Try.f25 22)=N22r.T:=by kernel_rfl
theorem N22r.bits:waitsOk N22r.T.2 N22r.B=true:=by kernel_rfl
def N26r.T:Bool × List (List Nat × List Nat):=(true,[([],[]),([0],[0]),([],[]),([],[]),([2,3],[2,3]),([4],[4]),([5],[5]),([],[]),([],[]),([7,8],[7,8]),([9],[9]),([10],[10]),([],[]),([],[]),([12,13],[12,13]),([14],[14]),([15],[15]),([],[]),([],[]),([17,18],[17,18]),([19],[19]),([20],[20]),([6,11,16,21],[6,11,16,21]),([22],[22]),([1,23],[1,23]),([0,1,2,3,4,5,6,7,8,9,10,11,12,13,14,15,16,17,18,19,20,21,22,23,24],[]),([25,24,24,0,1,2,3,4,5,6,7,8,9,10,11,12,13,14,15,16,17,18,19,20,21,22,23,24],[24,25])])
def N26r.B:List Nat:=[0,1,0,0,12,28,60,0,0,384,896,1920,0,0,12288,28672,61440,0,0,393216,917504,1966080,4194300,8388604,16777215,33554431,67108863]
theorem N26r.tab:rtab .any (opsOf Try.f25 26)=N26r.T:=by kernel_rfl
theorem N26r.bits:waitsOk N26r.T.2 N26r.B=true:=by kernel_rfl
def N30r.T:Bool × List (List Nat × List Nat):=(true,[([],[]),([0],[0]),([],[]),([],[]),([2,3],[2,3]),([4],[4]),([5],[5]),([],[]),([],[]),([7,8],[7,8]),([9],[9]),([10],[10]),([],[]),([],[]),([12,13],[12,13]),([14],[14]),([15],[15]),([6,11,16],[6,11,16]),([17],[17]),([1,18],[1,18]),([0,1,2,3,4,5,6,7,8,9,10,11,12,13,14,15,16,17,18,19],[]),([20,19,19,0,1,2,3,4,5,6,7,8,9,10,11,12,13,14,15,16,17,18,19],[19,20])])
def N30r.B:List Nat:=[0,1,0,0,12,28,60,0,0,384,896,1920,0,0,12288,28672,61440,131068,262140,524287,1048575,2097151]
theorem N30r.tab:rtab .any (opsOf Try.f25 30)=N30r.T:=by kernel_rfl
theorem N30r.bits:waitsOk N30r.T.2 N30r.B=true:=by kernel_rfl
set_option maxHeartbeats 16000000 in
set_option maxRecDepth 100000 in
theorem refnorm_own (n g:Int) (A2:Option Addr) (c2:Nat) (l2:List Int) (A3:Option Addr) (c3:Nat) (l3:List Int) (A4:Option Addr) (c4:Nat) (l4:List TOpen) (A5:Option Addr) (c5:Nat) (l5:List TClose) (A6:Option Addr) (c6:Nat) (l6:List TInner) (w:World) (h2:Kd.C (Kd.int .i64) w A2 l2.length l2) (hc2:l2.length≤c2) (hl2:l2.length≤1000000000) (h3:Kd.C (Kd.int .i64) w A3 l3.length l3) (hc3:l3.length≤c3) (hl3:l3.length≤1000000000) (h4:Kd.C k52 w A4 l4.length l4) (hc4:l4.length≤c4) (hl4:l4.length≤1000000000) (h5:Kd.C k54 w A5 l5.length l5) (hc5:l5.length≤c5) (hl5:l5.length≤1000000000) (h6:Kd.C k56 w A6 l6.length l6) (hc6:l6.length≤c6) (hl6:l6.length≤1000000000) :
 Calls Try.prog 25 #[.agg #[.int .i64 n,.int .i64 g,.slice A2 l2.length c2,.slice A3 l3.length c3,.slice A4 l4.length c4,.slice A5 l5.length c5,.slice A6 l6.length c6]] w fun e w'=>∃v2 v3 v4 v5 v6:Value,e=.returned (.agg #[.int .i64 n,.int .i64 g,v2,v3,v4,v5,v6])∧
  OutV w' w.heap.size v2 v3 v4 v5 v6 (onceC cmpInt l2) (onceC cmpInt l3) ((onceC cmpOpen (l4.map toOpen4)).map ofOpen4) ((onceC cmpOpen (l5.map toOpen5)).map ofOpen5) ((onceC cmpOpen (l6.map toOpen6)).map ofOpen6)∧Below w.heap.size w w':=by
 have HI2:=Aside0.mk (And.intro h2 (And.intro hc2 hl2))
 have HI3:=Aside0.mk (And.intro h3 (And.intro hc3 hl3))
 have HI4:=Aside0.mk (And.intro h4 (And.intro hc4 hl4))
 have HI5:=Aside0.mk (And.intro h5 (And.intro hc5 hl5))
 have HI6:=Aside0.mk (And.intro h6 (And.intro hc6 hl6))
 clear h2 hc2 hl2 h3 hc3 hl3 h4 hc4 hl4 h5 hc5 hl5 h6 hc6 hl6
 go_enter Try.func25,Try.ntmps25
 go_upto_region 1 with (fail)
 have HAx:Aside0 (((w.alloc (.cells #[.int .i64 n,.int .i64 g,.slice A2 l2.length c2,.slice A3 l3.length c3,.slice A4 l4.length c4,.slice A5 l5.length c5,.slice A6 l6.length c6] 30)).alloc (.cells #[.int .i64 0,.int .i64 0,.slice none 0 0,.slice none 0 0,.slice none 0 0,.slice none 0 0,.slice none 0 0] 30)).heap[w.heap.size]? = some (.cells #[.int .i64 n,.int .i64 g,.slice A2 l2.length c2,.slice A3 l3.length c3,.slice A4 l4.length c4,.slice A5 l5.length c5,.slice A6 l6.length c6] 30 (0,0))):=⟨blk_old (blk_newAt _ rfl) _⟩
 have HZx:Aside0 (((w.alloc (.cells #[.int .i64 n,.int .i64 g,.slice A2 l2.length c2,.slice A3 l3.length c3,.slice A4 l4.length c4,.slice A5 l5.length c5,.slice A6 l6.length c6] 30)).alloc (.cells #[.int .i64 0,.int .i64 0,.slice none 0 0,.slice none 0 0,.slice none 0 0,.slice none 0 0,.slice none 0 0] 30)).heap[w.heap.size+1]? = some (.cells #[.int .i64 0,.int .i64 0,.slice none 0 0,.slice none 0 0,.slice none 0 0,.slice none 0 0,.slice none 0 0] 30 (0,0))):=⟨blk_newAt _ (size_alloc _ _).symm⟩
 have HBx:Aside0 (Below w.heap.size w ((w.alloc (.cells #[.int .i64 n,.int .i64 g,.slice A2 l2.length c2,.slice A3 l3.length c3,.slice A4 l4.length c4,.slice A5 l5.length c5,.slice A6 l6.length c6] 30)).alloc (.cells #[.int .i64 0,.int .i64 0,.slice none 0 0,.slice none 0 0,.slice none 0 0,.slice none 0 0,.slice none 0 0] 30))):=⟨below_alloc (below_alloc (Below.refl _ _) _) _⟩
 refine start_ (n:=13) (S:=fun w'=>w'.cell? ⟨w.heap.size,0,none⟩=some (.int .i64 n)∧w'.cell? ⟨w.heap.size,1,none⟩=some (.int .i64 g)∧w'.cell? ⟨w.heap.size,2,none⟩=some (.slice A2 l2.length c2)∧w'.cell? ⟨w.heap.size,3,none⟩=some (.slice A3 l3.length c3)) (ds:=[12]) (pm 0 13) (by kernel_rfl) rfl rfl ⟨(blk_cell (blk_drew HAx.out) 0).trans rfl,(blk_cell (blk_drew HAx.out) 1).trans rfl,(blk_cell (blk_drew HAx.out) 2).trans rfl,(blk_cell (blk_drew HAx.out) 3).trans rfl⟩ (fun hHeld=>?_)
 have HA:=Aside0.mk (blk_drew HAx.out)
 have HZ:=Aside0.mk (blk_drew HZx.out)
 have HB:Aside0 (Below w.heap.size w ((w.alloc (.cells #[.int .i64 n,.int .i64 g,.slice A2 l2.length c2,.slice A3 l3.length c3,.slice A4 l4.length c4,.slice A5 l5.length c5,.slice A6 l6.length c6] 30)).alloc (.cells #[.int .i64 0,.int .i64 0,.slice none 0 0,.slice none 0 0,.slice none 0 0,.slice none 0 0,.slice none 0 0] 30)).drew):=⟨below_drew HBx.out⟩
 generalize ((w.alloc (.cells #[.int .i64 n,.int .i64 g,.slice A2 l2.length c2,.slice A3 l3.length c3,.slice A4 l4.length c4,.slice A5 l5.length c5,.slice A6 l6.length c6] 30)).alloc (.cells #[.int .i64 0,.int .i64 0,.slice none 0 0,.slice none 0 0,.slice none 0 0,.slice none 0 0,.slice none 0 0] 30)).drew=wd at HA HZ HB hHeld ⊢
 clear HAx HZx HBx
 iterate 6 (first|(refine pn_ (v:=?_) (a':=?_) rfl (rfl (a:=some _)) (by kernel_rfl) (fun _ _ _ h=>h) (Or.inl ⟨by rfl,?_⟩) ?_ ?_;rotate_left;(intro w';go_simp;with_reducible rfl);rotate_left;(simp only [Act.put,M.sq3,i64_w,i32_w];rfl))|(refine tn_ (v:=?_) (a':=?_) rfl (rfl (a:=some _)) (by kernel_rfl) (fun _ _ _ h=>h) (Or.inl ⟨by rfl,?_⟩) hHeld ?_ ?_;rotate_left;(intro w' hS_;obtain⟨s0,s1,s2,s3⟩:=hS_;go_simp;with_reducible rfl);rotate_left;(simp only [Act.put,M.sq3,i64_w,i32_w];rfl)))
 refine po_ 7 (v:=?_) (a':=?_) rfl (rfl (a:=some _)) (by kernel_rfl) (fun _ _ _ h=>h) (Or.inl ⟨by rfl,?_⟩) ?_ ?_;rotate_left;(intro w';go_simp;with_reducible rfl);rotate_left;(simp only [Act.put,M.sq3,i64_w,i32_w];rfl)
 refine to_ 8 (v:=?_) (a':=?_) rfl (rfl (a:=some _)) (by kernel_rfl) (fun _ _ _ h=>h) (Or.inl ⟨by rfl,?_⟩) hHeld ?_ ?_;rotate_left;(intro w' hS_;obtain⟨s0,s1,s2,s3⟩:=hS_;go_simp;with_reducible rfl);rotate_left;(simp only [Act.put,M.sq3,i64_w,i32_w];rfl)
 refine join_ (σ:=Value × Value × Nat) 1 #[true,true,true,true,true,true,true,true,true,true,true,true,false] (fun s_=>[(22,s_.1),(25,s_.2.1),(3,.pointer (some ⟨s_.2.2,0,none⟩)),(26,.agg #[.int .i64 n,.int .i64 g,s_.1,s_.2.1,.slice none 0 0,.slice none 0 0,.slice none 0 0])]) (fun s_ w'=>In2 wd w' s_.2.2 s_.1 s_.2.1 (onceC cmpInt l2) (onceC cmpInt l3)) ?_ ?_
 rotate_left
 ·intro hCont
  have hCX:=Aside0.mk hCont
  clear hCont
  have HBd:Aside0 (Below wd.heap.size wd wd):=⟨Below.refl _ _⟩
  have HAd:Aside0 (wd.heap[w.heap.size]? = some (.cells #[.int .i64 n,.int .i64 g,.slice A2 l2.length c2,.slice A3 l3.length c3,.slice A4 l4.length c4,.slice A5 l5.length c5,.slice A6 l6.length c6] 30 (0,0))):=HA
  refine two_ (i:=6) (j:=11) (Ni:=some 22) (Nj:=some 3) #[true,true,true,true,true,true,true,true,true,false,false,false,false] #[true,true,true,true,true,true,false,true,true,false,false,true,false] rfl rfl rfl rfl (by kernel_rfl) (by decide) (by decide) (fun K hK=>?_) (fun K hK=>?_)
  ·skip
   refine goes_ Try.func34 (by kernel_rfl) rfl #[.slice A2 l2.length c2] rfl rfl rfl (by(try simp only [List.map_toArray,List.map_cons,List.map_nil]);rfl) ?_
   refine(canopyref2_Ints.calls A2 c2 l2 (onceC cmpInt l2) _ (Kd.C_below HI2.out.1 (below_then HB.out HB.out.size HBd.out)) HI2.out.2.1 (if_pos HI2.out.2.2)).mono ?_
   rintro e wx1 ⟨v2,rfl,hr_,hb_⟩
   have hs_:=hr_
   obtain⟨B2,b2,rfl⟩:=Kd.R_slice hs_
   clear hs_
   refine⟨_,rfl,?_⟩
   have HBx1:Aside0 (Below wd.heap.size wd wx1):=⟨below_then HBd.out HBd.out.size hb_⟩
   have HAx1:=Aside0.mk (blk_below HAd.out hb_)
   have HQx1:=Aside0.mk (Kd.R_lower (Kd.R_tight rfl hr_) HBd.out.size)
   clear hr_ hb_
   clear hHeld
   refine hK.out _ _ ⟨(blk_cell HAx1.out 0).trans rfl,(blk_cell HAx1.out 1).trans rfl,(blk_cell HAx1.out 2).trans rfl,(blk_cell HAx1.out 3).trans rfl⟩ (fun hHeld=>?_)
   clear hK K
   refine norm_ (a':=?_) ?_ ?_
   rotate_left
   ·show Act.put _ (some 22) _ = _
    simp only [Act.put,M.sq3,i64_w,i32_w]
    rfl
   refine two_ (i:=9) (j:=11) (Ni:=some 25) (Nj:=some 3) #[true,true,true,true,true,true,true,true,true,true,false,false,false] #[true,true,true,true,true,true,true,true,true,false,false,true,false] rfl rfl rfl rfl (by kernel_rfl) (by decide) (by decide) (fun K hK=>?_) (fun K hK=>?_)
   ·skip
    refine goes_ Try.func34 (by kernel_rfl) rfl #[.slice A3 l3.length c3] rfl rfl rfl (by(try simp only [List.map_toArray,List.map_cons,List.map_nil]);rfl) ?_
    refine(canopyref2_Ints.calls A3 c3 l3 (onceC cmpInt l3) _ (Kd.C_below HI3.out.1 (below_then HB.out HB.out.size HBx1.out)) HI3.out.2.1 (if_pos HI3.out.2.2)).mono ?_
    rintro e wx2 ⟨v3,rfl,hr_,hb_⟩
    have hs_:=hr_
    obtain⟨B3,b3,rfl⟩:=Kd.R_slice hs_
    clear hs_
    refine⟨_,rfl,?_⟩
    have HBx2:Aside0 (Below wd.heap.size wd wx2):=⟨below_then HBx1.out HBx1.out.size hb_⟩
    have HAx2:=Aside0.mk (blk_below HAx1.out hb_)
    have HSx2:=Aside0.mk (Kd.R_lower (Kd.R_tight rfl hr_) HBx1.out.size)
    have HQx2:=Aside0.mk (Kd.R_below HQx1.out hb_)
    have HNE:Aside0 (∀k,some k=(Value.slice B2 (onceC cmpInt l2).length b2).ownBlock→some k≠(Value.slice B3 (onceC cmpInt l3).length b3).ownBlock):=⟨fun k h1 h2=>by have e1:=Kd.R_lt HQx1.out k h1.symm;have e2:=Kd.R_base hr_ k h2.symm;omega⟩
    clear hr_ hb_
    clear hHeld
    refine hK.out _ _ ⟨(blk_cell HAx2.out 0).trans rfl,(blk_cell HAx2.out 1).trans rfl,(blk_cell HAx2.out 2).trans rfl,(blk_cell HAx2.out 3).trans rfl⟩ (fun hHeld=>?_)
    clear hK K
    refine norm_ (a':=?_) ?_ ?_
    rotate_left
    ·show Act.put _ (some 25) _ = _
     simp only [Act.put,M.sq3,i64_w,i32_w]
     rfl
    refine po_ 10 (v:=?_) (a':=?_) rfl (rfl (a:=some _)) (by kernel_rfl) (fun _ _ _ h=>h) (Or.inl ⟨by rfl,?_⟩) ?_ ?_;rotate_left;(intro w';go_simp;with_reducible rfl);rotate_left;(simp only [Act.put,M.sq3,i64_w,i32_w];rfl)
    refine one_ (i:=11) (N:=(some 3)) #[true,true,true,true,true,true,true,true,true,true,true,true,false] rfl rfl (by kernel_rfl) (by decide) (fun K hK=>?_)
    obtain⟨gx3,hgx3⟩:∃g:Nat,g=wx2.heap.size:=⟨_,rfl⟩
    have HPx3:Aside0 ((wx2.alloc (.cells #[.int .i64 0,.int .i64 0,.slice none 0 0,.slice none 0 0,.slice none 0 0,.slice none 0 0,.slice none 0 0] 30)).heap[gx3]? = some (.cells #[.int .i64 0,.int .i64 0,.slice none 0 0,.slice none 0 0,.slice none 0 0,.slice none 0 0,.slice none 0 0] 30 (0,0))∧wd.heap.size≤gx3):=⟨by rw [hgx3];exact⟨blk_newAt _ rfl,HBx2.out.size⟩⟩
    have HBx3:Aside0 (Below wd.heap.size wd (wx2.alloc (.cells #[.int .i64 0,.int .i64 0,.slice none 0 0,.slice none 0 0,.slice none 0 0,.slice none 0 0,.slice none 0 0] 30))):=⟨below_alloc HBx2.out _⟩
    have HAx3:=Aside0.mk (blk_old HAx2.out (.cells #[.int .i64 0,.int .i64 0,.slice none 0 0,.slice none 0 0,.slice none 0 0,.slice none 0 0,.slice none 0 0] 30))
    have HQx3:=Aside0.mk (Kd.R_alloc HQx2.out (.cells #[.int .i64 0,.int .i64 0,.slice none 0 0,.slice none 0 0,.slice none 0 0,.slice none 0 0,.slice none 0 0] 30))
    have HSx3:=Aside0.mk (Kd.R_alloc HSx2.out (.cells #[.int .i64 0,.int .i64 0,.slice none 0 0,.slice none 0 0,.slice none 0 0,.slice none 0 0,.slice none 0 0] 30))
    go_simp
    rw [←hgx3]
    generalize wx2.alloc (.cells #[.int .i64 0,.int .i64 0,.slice none 0 0,.slice none 0 0,.slice none 0 0,.slice none 0 0,.slice none 0 0] 30)=wx3 at HPx3 HBx3 HAx3 HQx3 HSx3 ⊢
    clear hgx3
    clear hHeld
    refine hK.out _ _ ⟨(blk_cell HAx3.out 0).trans rfl,(blk_cell HAx3.out 1).trans rfl,(blk_cell HAx3.out 2).trans rfl,(blk_cell HAx3.out 3).trans rfl⟩ (fun hHeld=>?_)
    clear hK K
    exact norm_ (by simp only [putAll,Act.put,M.sq3]) (hCX.out (.slice B2 (onceC cmpInt l2).length b2,.slice B3 (onceC cmpInt l3).length b3,gx3) _ ⟨HBx3.out,HPx3.out.2,HPx3.out.1,HQx3.out,HSx3.out,HNE.out⟩)
   skip
   obtain⟨gx4,hgx4⟩:∃g:Nat,g=wx1.heap.size:=⟨_,rfl⟩
   have HPx4:Aside0 ((wx1.alloc (.cells #[.int .i64 0,.int .i64 0,.slice none 0 0,.slice none 0 0,.slice none 0 0,.slice none 0 0,.slice none 0 0] 30)).heap[gx4]? = some (.cells #[.int .i64 0,.int .i64 0,.slice none 0 0,.slice none 0 0,.slice none 0 0,.slice none 0 0,.slice none 0 0] 30 (0,0))∧wd.heap.size≤gx4):=⟨by rw [hgx4];exact⟨blk_newAt _ rfl,HBx1.out.size⟩⟩
   have HBx4:Aside0 (Below wd.heap.size wd (wx1.alloc (.cells #[.int .i64 0,.int .i64 0,.slice none 0 0,.slice none 0 0,.slice none 0 0,.slice none 0 0,.slice none 0 0] 30))):=⟨below_alloc HBx1.out _⟩
   have HAx4:=Aside0.mk (blk_old HAx1.out (.cells #[.int .i64 0,.int .i64 0,.slice none 0 0,.slice none 0 0,.slice none 0 0,.slice none 0 0,.slice none 0 0] 30))
   have HQx4:=Aside0.mk (Kd.R_alloc HQx1.out (.cells #[.int .i64 0,.int .i64 0,.slice none 0 0,.slice none 0 0,.slice none 0 0,.slice none 0 0,.slice none 0 0] 30))
   go_simp
   rw [←hgx4]
   generalize wx1.alloc (.cells #[.int .i64 0,.int .i64 0,.slice none 0 0,.slice none 0 0,.slice none 0 0,.slice none 0 0,.slice none 0 0] 30)=wx4 at HPx4 HBx4 HAx4 HQx4 ⊢
   clear hgx4
   clear hHeld
   refine hK.out _ _ ⟨(blk_cell HAx4.out 0).trans rfl,(blk_cell HAx4.out 1).trans rfl,(blk_cell HAx4.out 2).trans rfl,(blk_cell HAx4.out 3).trans rfl⟩ (fun hHeld=>?_)
   clear hK K
   refine one_ (i:=9) (N:=(some 25)) #[true,true,true,true,true,true,true,true,true,true,false,true,false] rfl rfl (by kernel_rfl) (by decide) (fun K hK=>?_)
   refine goes_ Try.func34 (by kernel_rfl) rfl #[.slice A3 l3.length c3] rfl rfl rfl (by(try simp only [List.map_toArray,List.map_cons,List.map_nil]);rfl) ?_
   refine(canopyref2_Ints.calls A3 c3 l3 (onceC cmpInt l3) _ (Kd.C_below HI3.out.1 (below_then HB.out HB.out.size HBx4.out)) HI3.out.2.1 (if_pos HI3.out.2.2)).mono ?_
   rintro e wx5 ⟨v3,rfl,hr_,hb_⟩
   have hs_:=hr_
   obtain⟨B3,b3,rfl⟩:=Kd.R_slice hs_
   clear hs_
   refine⟨_,rfl,?_⟩
   have HBx5:Aside0 (Below wd.heap.size wd wx5):=⟨below_then HBx4.out HBx4.out.size hb_⟩
   have HAx5:=Aside0.mk (blk_below HAx4.out hb_)
   have HSx5:=Aside0.mk (Kd.R_lower (Kd.R_tight rfl hr_) HBx4.out.size)
   have HQx5:=Aside0.mk (Kd.R_below HQx4.out hb_)
   have HNE:Aside0 (∀k,some k=(Value.slice B2 (onceC cmpInt l2).length b2).ownBlock→some k≠(Value.slice B3 (onceC cmpInt l3).length b3).ownBlock):=⟨fun k h1 h2=>by have e1:=Kd.R_lt HQx4.out k h1.symm;have e2:=Kd.R_base hr_ k h2.symm;omega⟩
   have HPx5:=Aside0.mk (And.intro (blk_below HPx4.out.1 hb_) HPx4.out.2)
   clear hr_ hb_
   clear hHeld
   refine hK.out _ _ ⟨(blk_cell HAx5.out 0).trans rfl,(blk_cell HAx5.out 1).trans rfl,(blk_cell HAx5.out 2).trans rfl,(blk_cell HAx5.out 3).trans rfl⟩ (fun hHeld=>?_)
   clear hK K
   refine norm_ (a':=?_) ?_ ?_
   rotate_left
   ·show Act.put _ (some 25) _ = _
    simp only [Act.put,M.sq3,i64_w,i32_w]
    rfl
   refine po_ 10 (v:=?_) (a':=?_) rfl (rfl (a:=some _)) (by kernel_rfl) (fun _ _ _ h=>h) (Or.inl ⟨by rfl,?_⟩) ?_ ?_;rotate_left;(intro w';go_simp;with_reducible rfl);rotate_left;(simp only [Act.put,M.sq3,i64_w,i32_w];rfl)
   refine re_ #[true,true,true,true,true,true,true,true,true,true,true,true,false] (by kernel_rfl) ?_
   exact norm_ (by simp only [putAll,Act.put,M.sq3]) (hCX.out (.slice B2 (onceC cmpInt l2).length b2,.slice B3 (onceC cmpInt l3).length b3,gx4) _ ⟨HBx5.out,HPx5.out.2,HPx5.out.1,HQx5.out,HSx5.out,HNE.out⟩)
  skip
  obtain⟨gx6,hgx6⟩:∃g:Nat,g=wd.heap.size:=⟨_,rfl⟩
  have HPx6:Aside0 ((wd.alloc (.cells #[.int .i64 0,.int .i64 0,.slice none 0 0,.slice none 0 0,.slice none 0 0,.slice none 0 0,.slice none 0 0] 30)).heap[gx6]? = some (.cells #[.int .i64 0,.int .i64 0,.slice none 0 0,.slice none 0 0,.slice none 0 0,.slice none 0 0,.slice none 0 0] 30 (0,0))∧wd.heap.size≤gx6):=⟨by rw [hgx6];exact⟨blk_newAt _ rfl,HBd.out.size⟩⟩
  have HBx6:Aside0 (Below wd.heap.size wd (wd.alloc (.cells #[.int .i64 0,.int .i64 0,.slice none 0 0,.slice none 0 0,.slice none 0 0,.slice none 0 0,.slice none 0 0] 30))):=⟨below_alloc HBd.out _⟩
  have HAx6:=Aside0.mk (blk_old HAd.out (.cells #[.int .i64 0,.int .i64 0,.slice none 0 0,.slice none 0 0,.slice none 0 0,.slice none 0 0,.slice none 0 0] 30))
  go_simp
  rw [←hgx6]
  generalize wd.alloc (.cells #[.int .i64 0,.int .i64 0,.slice none 0 0,.slice none 0 0,.slice none 0 0,.slice none 0 0,.slice none 0 0] 30)=wx6 at HPx6 HBx6 HAx6 ⊢
  clear hgx6
  clear hHeld
  refine hK.out _ _ ⟨(blk_cell HAx6.out 0).trans rfl,(blk_cell HAx6.out 1).trans rfl,(blk_cell HAx6.out 2).trans rfl,(blk_cell HAx6.out 3).trans rfl⟩ (fun hHeld=>?_)
  clear hK K
  refine one_ (i:=6) (N:=(some 22)) #[true,true,true,true,true,true,true,true,true,false,false,true,false] rfl rfl (by kernel_rfl) (by decide) (fun K hK=>?_)
  refine goes_ Try.func34 (by kernel_rfl) rfl #[.slice A2 l2.length c2] rfl rfl rfl (by(try simp only [List.map_toArray,List.map_cons,List.map_nil]);rfl) ?_
  refine(canopyref2_Ints.calls A2 c2 l2 (onceC cmpInt l2) _ (Kd.C_below HI2.out.1 (below_then HB.out HB.out.size HBx6.out)) HI2.out.2.1 (if_pos HI2.out.2.2)).mono ?_
  rintro e wx7 ⟨v2,rfl,hr_,hb_⟩
  have hs_:=hr_
  obtain⟨B2,b2,rfl⟩:=Kd.R_slice hs_
  clear hs_
  refine⟨_,rfl,?_⟩
  have HBx7:Aside0 (Below wd.heap.size wd wx7):=⟨below_then HBx6.out HBx6.out.size hb_⟩
  have HAx7:=Aside0.mk (blk_below HAx6.out hb_)
  have HQx7:=Aside0.mk (Kd.R_lower (Kd.R_tight rfl hr_) HBx6.out.size)
  have HPx7:=Aside0.mk (And.intro (blk_below HPx6.out.1 hb_) HPx6.out.2)
  clear hr_ hb_
  clear hHeld
  refine hK.out _ _ ⟨(blk_cell HAx7.out 0).trans rfl,(blk_cell HAx7.out 1).trans rfl,(blk_cell HAx7.out 2).trans rfl,(blk_cell HAx7.out 3).trans rfl⟩ (fun hHeld=>?_)
  clear hK K
  refine norm_ (a':=?_) ?_ ?_
  rotate_left
  ·show Act.put _ (some 22) _ = _
   simp only [Act.put,M.sq3,i64_w,i32_w]
   rfl
  refine one_ (i:=9) (N:=(some 25)) #[true,true,true,true,true,true,true,true,true,true,false,true,false] rfl rfl (by kernel_rfl) (by decide) (fun K hK=>?_)
  refine goes_ Try.func34 (by kernel_rfl) rfl #[.slice A3 l3.length c3] rfl rfl rfl (by(try simp only [List.map_toArray,List.map_cons,List.map_nil]);rfl) ?_
  refine(canopyref2_Ints.calls A3 c3 l3 (onceC cmpInt l3) _ (Kd.C_below HI3.out.1 (below_then HB.out HB.out.size HBx7.out)) HI3.out.2.1 (if_pos HI3.out.2.2)).mono ?_
  rintro e wx8 ⟨v3,rfl,hr_,hb_⟩
  have hs_:=hr_
  obtain⟨B3,b3,rfl⟩:=Kd.R_slice hs_
  clear hs_
  refine⟨_,rfl,?_⟩
  have HBx8:Aside0 (Below wd.heap.size wd wx8):=⟨below_then HBx7.out HBx7.out.size hb_⟩
  have HAx8:=Aside0.mk (blk_below HAx7.out hb_)
  have HSx8:=Aside0.mk (Kd.R_lower (Kd.R_tight rfl hr_) HBx7.out.size)
  have HQx8:=Aside0.mk (Kd.R_below HQx7.out hb_)
  have HNE:Aside0 (∀k,some k=(Value.slice B2 (onceC cmpInt l2).length b2).ownBlock→some k≠(Value.slice B3 (onceC cmpInt l3).length b3).ownBlock):=⟨fun k h1 h2=>by have e1:=Kd.R_lt HQx7.out k h1.symm;have e2:=Kd.R_base hr_ k h2.symm;omega⟩
  have HPx8:=Aside0.mk (And.intro (blk_below HPx7.out.1 hb_) HPx7.out.2)
  clear hr_ hb_
  clear hHeld
  refine hK.out _ _ ⟨(blk_cell HAx8.out 0).trans rfl,(blk_cell HAx8.out 1).trans rfl,(blk_cell HAx8.out 2).trans rfl,(blk_cell HAx8.out 3).trans rfl⟩ (fun hHeld=>?_)
  clear hK K
  refine norm_ (a':=?_) ?_ ?_
  rotate_left
  ·show Act.put _ (some 25) _ = _
   simp only [Act.put,M.sq3,i64_w,i32_w]
   rfl
  refine po_ 10 (v:=?_) (a':=?_) rfl (rfl (a:=some _)) (by kernel_rfl) (fun _ _ _ h=>h) (Or.inl ⟨by rfl,?_⟩) ?_ ?_;rotate_left;(intro w';go_simp;with_reducible rfl);rotate_left;(simp only [Act.put,M.sq3,i64_w,i32_w];rfl)
  refine re_ #[true,true,true,true,true,true,true,true,true,true,true,true,false] (by kernel_rfl) ?_
  exact norm_ (by simp only [putAll,Act.put,M.sq3]) (hCX.out (.slice B2 (onceC cmpInt l2).length b2,.slice B3 (onceC cmpInt l3).length b3,gx6) _ ⟨HBx8.out,HPx8.out.2,HPx8.out.1,HQx8.out,HSx8.out,HNE.out⟩)
 rintro⟨v2,v3,go⟩ wq hin
 have q2:=hin.r2
 have q3:=hin.r3
 obtain⟨B2,b2,rfl⟩:=Kd.R_slice q2
 obtain⟨B3,b3,rfl⟩:=Kd.R_slice q3
 clear q2 q3
 have HIN:=Aside0.mk hin
 clear hin
 refine norm_ (a':=?_) ?_ ?_
 rotate_left
 ·simp only [putAll, Act.put, M.sq3, i64_w, i32_w]
  rfl
 -- MARK1
 refine last_ (i:=12) (N:=none) (pm 13 0) rfl rfl (by kernel_rfl) (by decide) (fun K hK=>?_)
 have hcz0:=fun j=>blk_cell HIN.out.t j
 have hc_0:=(hcz0 0).trans (show (#[.int .i64 0,.int .i64 0,.slice none 0 0,.slice none 0 0,.slice none 0 0,.slice none 0 0,.slice none 0 0]:Array Value)[0]? = some (.int .i64 0) from rfl)
 have hc_1:=(hcz0 1).trans (show (#[.int .i64 0,.int .i64 0,.slice none 0 0,.slice none 0 0,.slice none 0 0,.slice none 0 0,.slice none 0 0]:Array Value)[1]? = some (.int .i64 0) from rfl)
 have hc_2:=(hcz0 2).trans (show (#[.int .i64 0,.int .i64 0,.slice none 0 0,.slice none 0 0,.slice none 0 0,.slice none 0 0,.slice none 0 0]:Array Value)[2]? = some (.slice none 0 0) from rfl)
 have hc_3:=(hcz0 3).trans (show (#[.int .i64 0,.int .i64 0,.slice none 0 0,.slice none 0 0,.slice none 0 0,.slice none 0 0,.slice none 0 0]:Array Value)[3]? = some (.slice none 0 0) from rfl)
 have hc_4:=(hcz0 4).trans (show (#[.int .i64 0,.int .i64 0,.slice none 0 0,.slice none 0 0,.slice none 0 0,.slice none 0 0,.slice none 0 0]:Array Value)[4]? = some (.slice none 0 0) from rfl)
 have hc_5:=(hcz0 5).trans (show (#[.int .i64 0,.int .i64 0,.slice none 0 0,.slice none 0 0,.slice none 0 0,.slice none 0 0,.slice none 0 0]:Array Value)[5]? = some (.slice none 0 0) from rfl)
 have hc_6:=(hcz0 6).trans (show (#[.int .i64 0,.int .i64 0,.slice none 0 0,.slice none 0 0,.slice none 0 0,.slice none 0 0,.slice none 0 0]:Array Value)[6]? = some (.slice none 0 0) from rfl)
 have hf_0:=blk_frozen HIN.out.t 0
 have hf_1:=blk_frozen HIN.out.t 1
 have hf_2:=blk_frozen HIN.out.t 2
 have hf_3:=blk_frozen HIN.out.t 3
 have hf_4:=blk_frozen HIN.out.t 4
 have hf_5:=blk_frozen HIN.out.t 5
 have hf_6:=blk_frozen HIN.out.t 6
 clear hcz0
 have HO:Aside0 (OutR (((((((wq.setCell ⟨go,0,none⟩ (.int .i64 n)).setCell ⟨go,1,none⟩ (.int .i64 g)).setCell ⟨go,2,none⟩ (.slice B2 (onceC cmpInt l2).length b2)).setCell ⟨go,3,none⟩ (.slice B3 (onceC cmpInt l3).length b3)).setCell ⟨go,4,none⟩ (.slice none 0 0)).setCell ⟨go,5,none⟩ (.slice none 0 0)).setCell ⟨go,6,none⟩ (.slice none 0 0)) wd go (.int .i64 n) (.int .i64 g) (.slice B2 (onceC cmpInt l2).length b2) (.slice B3 (onceC cmpInt l3).length b3) (.slice none 0 0) (.slice none 0 0) (.slice none 0 0) (onceC cmpInt l2) (onceC cmpInt l3) [] [] []):=⟨OutR.born HIN.out _ _⟩
 refine Go.Proofs.Ytjkhdldgmkkhjaa.M.step_skip (w1:=(((((((wq.setCell ⟨go,0,none⟩ (.int .i64 n)).setCell ⟨go,1,none⟩ (.int .i64 g)).setCell ⟨go,2,none⟩ (.slice B2 (onceC cmpInt l2).length b2)).setCell ⟨go,3,none⟩ (.slice B3 (onceC cmpInt l3).length b3)).setCell ⟨go,4,none⟩ (.slice none 0 0)).setCell ⟨go,5,none⟩ (.slice none 0 0)).setCell ⟨go,6,none⟩ (.slice none 0 0))) rfl rfl (by go_simp) ?_
 clear hHeld
 refine hK.out _ _ ?_
 clear hK K
 obtain⟨wv,hwv⟩:∃wv:World,wv=(((((((wq.setCell ⟨go,0,none⟩ (.int .i64 n)).setCell ⟨go,1,none⟩ (.int .i64 g)).setCell ⟨go,2,none⟩ (.slice B2 (onceC cmpInt l2).length b2)).setCell ⟨go,3,none⟩ (.slice B3 (onceC cmpInt l3).length b3)).setCell ⟨go,4,none⟩ (.slice none 0 0)).setCell ⟨go,5,none⟩ (.slice none 0 0)).setCell ⟨go,6,none⟩ (.slice none 0 0)):=⟨_,rfl⟩
 rw [←hwv] at HO ⊢
 clear hwv hc_0 hc_1 hc_2 hc_3 hc_4 hc_5 hc_6 hf_0 hf_1 hf_2 hf_3 hf_4 hf_5 hf_6 HIN
 try clear wq
 obtain⟨wq,rfl⟩:∃wq:World,wq=wv:=⟨_,rfl⟩
 refine done_ (by kernel_rfl) ?_
 -- MARK2
 obtain⟨W1,rfl⟩:∃W:World,W=wq:=⟨_,rfl⟩
 have HW0:Aside0 (Below wd.heap.size wd W1):=⟨HO.out.b⟩
 have HAq:=Aside0.mk (blk_below HA.out HW0.out)
 have HG:=Aside0.mk (And.intro (blk_lt HA.out) (blk_lt HZ.out))
 have HC4:=Aside0.mk (And.intro (Kd.C_below (Kd.C_below HI4.out.1 HB.out) HW0.out) HI4.out.2)
 have HC5:=Aside0.mk (And.intro (Kd.C_below (Kd.C_below HI5.out.1 HB.out) HW0.out) HI5.out.2)
 have HC6:=Aside0.mk (And.intro (Kd.C_below (Kd.C_below HI6.out.1 HB.out) HW0.out) HI6.out.2)
 clear HA HI2 HI3 HI4 HI5 HI6 HW0
 go_wp2
 go_loopg [4,7] l4.length (fun gk v4 vi w'=>∃i_:Nat,vi=.int .i64 (i_:Int)∧Aside0 (i_≤l4.length∧l4.length - i_≤gk)∧Aside0 (Kd.R k52 83 w' W1.heap.size (fun q=>some q=v4.ownBlock) v4 ((l4.take i_).map toOpen4))∧Aside0 (Below W1.heap.size W1 w'))
 case atStart=>exact⟨0,rfl,⟨by omega,by omega⟩,⟨Kd.R_nil _ _ _ _ _⟩,⟨Below.refl _ _⟩⟩
 case' round=>skip
 obtain⟨i_,rfl,Hi,HP,HW⟩:=hrel
 obtain⟨wq,rfl⟩:∃wq:World,wq=wr:=⟨_,rfl⟩
 have b_:=(blk_cell (blk_below HAq.out HW.out) 4).trans (show (#[.int .i64 n,.int .i64 g,.slice A2 l2.length c2,.slice A3 l3.length c3,.slice A4 l4.length c4,.slice A5 l5.length c5,.slice A6 l6.length c6]:Array Value)[4]? = some (.slice A4 l4.length c4) from rfl)
 by_cases hlt:i_ < l4.length
 ·have HLT := Aside0.mk hlt
  obtain⟨row,hrow⟩:∃row,row=((l4.take i_).map toOpen4):=⟨_,rfl⟩
  have HRL:Aside0 (row.length=i_):=⟨by rw [hrow,List.length_map,List.length_take];omega⟩
  rw [←hrow] at HP
  obtain⟨ad,eA,k0,k1,k2,k3⟩:=at_T52 (Kd.C_below HC4.out.1 HW.out) (i_:Int) (by omega) (by omega)
  have hrd:rd_T52 l4 (i_:Int)=l4[i_]:=by unfold rd_T52;rw [Int.toNat_natCast,List.getD_eq_getElem?_getD,List.getElem?_eq_getElem hlt];rfl
  rw [hrd,Int.toNat_natCast] at k0 k1 k2 k3
  clear hrd
  have HN:Aside0 ((l4.take (i_+1)).map toOpen4=row ++ [toOpen4 l4[i_]]):=⟨by rw [hrow];exact map_next _ _ _ hlt⟩
  clear hrow
  generalize l4[i_]=x_ at HN k0 k1 k2 k3
  obtain⟨x0,x1,x2,x3⟩:=x_
  have s1:=eq_true (show (i_:Int) < (l4.length:Int) by omega)
  have s2:=eq_true (show (0:Int)≤(i_:Int) by omega)
  subst eA
  clear hlt
  have hp:=HP.out
  obtain⟨P_,p_,rfl⟩:=Kd.R_slice hp
  clear hp
  have HX:Aside0 ((wq.alloc (.cells #[.int .i64 x0,.int .i64 x1,.int .i64 x2,.int .i64 x3] 52)).heap[wq.heap.size]? = some (.cells #[.int .i64 x0,.int .i64 x1,.int .i64 x2,.int .i64 x3] 52 (0,0))):=⟨blk_newAt _ rfl⟩
  have HP1:=Aside0.mk (Kd.R_alloc HP.out (.cells #[.int .i64 x0,.int .i64 x1,.int .i64 x2,.int .i64 x3] 52))
  have HW1:Aside0 (Below W1.heap.size W1 (wq.alloc (.cells #[.int .i64 x0,.int .i64 x1,.int .i64 x2,.int .i64 x3] 52))):=⟨below_alloc HW.out _⟩
  go_upto_region 7 with (fail)
  obtain⟨wv,hwv⟩:∃wv:World,wv=wq.alloc (.cells #[.int .i64 x0,.int .i64 x1,.int .i64 x2,.int .i64 x3] 52):=⟨_,rfl⟩
  rw [←hwv] at HX HP1 HW1 ⊢
  generalize wq.heap.size=vb at HX ⊢
  clear hwv s1 s2 b_ HP HW k0 k1 k2 k3
  clear wq
  obtain⟨wq,rfl⟩:∃wq:World,wq=wv:=⟨_,rfl⟩
  have d0:=(blk_cell HX.out 0).trans (show (#[.int .i64 x0,.int .i64 x1,.int .i64 x2,.int .i64 x3]:Array Value)[0]? = some (.int .i64 x0) from rfl)
  have d1:=(blk_cell HX.out 1).trans (show (#[.int .i64 x0,.int .i64 x1,.int .i64 x2,.int .i64 x3]:Array Value)[1]? = some (.int .i64 x1) from rfl)
  have d2:=(blk_cell HX.out 2).trans (show (#[.int .i64 x0,.int .i64 x1,.int .i64 x2,.int .i64 x3]:Array Value)[2]? = some (.int .i64 x2) from rfl)
  have d3:=(blk_cell HX.out 3).trans (show (#[.int .i64 x0,.int .i64 x1,.int .i64 x2,.int .i64 x3]:Array Value)[3]? = some (.int .i64 x3) from rfl)
  go_wp2_with ((with_reducible refine gate_builtin (b:=.append) (xs:=#[.tmp 39,.tmp 49]) rfl ?_);at_builtin;go_loud (refine Kd.R_append k52 (w0:=W1) W1.heap.size rfl (.tmp 39) (.tmp 49) 82 83 (.agg #[.int .i64 0,.int .i64 0,.int .i64 0,.int .i64 0]) 32 rfl Try.underlying82 infoArr rfl (by decide) (by decide) (.slice P_ row.length p_) row ⟨x0,x1,x2,x3⟩ [.int .i64 x0,.int .i64 x1,.int .i64 x2,.int .i64 x3] (fun q=>some q=(Value.slice P_ row.length p_).ownBlock∨wq.heap.size≤q) (fun _=>False) rfl rfl (k52_mkM _ _ _ _) (fun _ h=>h.elim) (fun q h=>.inr h) (Kd.R_mono HP1.out (fun q h=>.inl h)) HW1.out HW1.out.size ?ql ?_);(case ql=>have:=HRL.out;have:=HLT.out;have:=HC4.out.2.2;omega);intro v1 w9 hr1 hb1 hg1 hat1;have HPz:=Aside0.mk (Kd.R_tight rfl hr1);have HWz:=Aside0.mk hb1;clear hr1 hb1 hg1 hat1)
  go_wp2
  go_roundg (l4.length - (i_+1))
  case measure=>have:=Hi.out;have:=HLT.out;omega
  case rel=>exact⟨i_+1,by first|rfl|rw [show wrap64 ((i_:Int)+1)=((i_+1:Nat):Int) by have:=HLT.out;have:=HC4.out.2.2;unfold wrap64;omega],⟨HLT.out,Nat.le_refl _⟩,⟨by rw [HN.out];exact HPz.out⟩,HWz⟩
 have hE:((l4.take i_).map toOpen4)=l4.map toOpen4:=by rw [List.take_of_length_le (by omega)]
 rw [hE] at HP
 clear hE
 obtain⟨m4,hm4⟩:∃m,m=l4.map toOpen4:=⟨_,rfl⟩
 rw [←hm4] at HP
 have HM4:Aside0 (m4=l4.map toOpen4∧m4.length=l4.length):=⟨hm4,by rw [hm4,List.length_map]⟩
 clear hm4
 have s1:=eq_false (show ¬(i_:Int) < (l4.length:Int) by omega)
 clear hlt
 have hp:=HP.out
 obtain⟨P4,p4,rfl⟩:=Kd.R_slice hp
 clear hp
 have HO1:=Aside0.mk (HO.out.below HW.out)
 have HA1:=Aside0.mk (blk_below HAq.out HW.out)
 have HQ4:Aside0 (Kd.C k52 wq P4 m4.length m4∧m4.length≤p4):=⟨(Kd.R_reads' HP.out).2.2,(Kd.R_reads' HP.out).2.1⟩
 have hq:=And.intro (Kd.C_below HC5.out.1 HW.out) HC5.out.2
 clear HC5
 have HC5:=Aside0.mk hq
 clear hq
 have hq:=And.intro (Kd.C_below HC6.out.1 HW.out) HC6.out.2
 clear HC6
 have HC6:=Aside0.mk hq
 clear hq
 have HL4:=Aside0.mk HC4.out.2.2
 clear HO HAq HP HW HC4
 have HO:=HO1
 have HAq:=HA1
 clear HO1 HA1
 obtain⟨W2,rfl⟩:∃W:World,W=wq:=⟨_,rfl⟩
 go_wp2
 go_loopg [5,9] l5.length (fun gk v5 vi w'=>∃i_:Nat,vi=.int .i64 (i_:Int)∧Aside0 (i_≤l5.length∧l5.length - i_≤gk)∧Aside0 (Kd.R k52 83 w' W2.heap.size (fun q=>some q=v5.ownBlock) v5 ((l5.take i_).map toOpen5))∧Aside0 (Below W2.heap.size W2 w'))
 case atStart=>exact⟨0,rfl,⟨by omega,by omega⟩,⟨Kd.R_nil _ _ _ _ _⟩,⟨Below.refl _ _⟩⟩
 case' round=>skip
 obtain⟨i_,rfl,Hi,HP,HW⟩:=hrel
 obtain⟨wq,rfl⟩:∃wq:World,wq=wr:=⟨_,rfl⟩
 have b_:=(blk_cell (blk_below HAq.out HW.out) 5).trans (show (#[.int .i64 n,.int .i64 g,.slice A2 l2.length c2,.slice A3 l3.length c3,.slice A4 l4.length c4,.slice A5 l5.length c5,.slice A6 l6.length c6]:Array Value)[5]? = some (.slice A5 l5.length c5) from rfl)
 by_cases hlt:i_ < l5.length
 ·have HLT := Aside0.mk hlt
  obtain⟨row,hrow⟩:∃row,row=((l5.take i_).map toOpen5):=⟨_,rfl⟩
  have HRL:Aside0 (row.length=i_):=⟨by rw [hrow,List.length_map,List.length_take];omega⟩
  rw [←hrow] at HP
  obtain⟨ad,eA,k0,k1,k2,k3⟩:=at_T54 (Kd.C_below HC5.out.1 HW.out) (i_:Int) (by omega) (by omega)
  have hrd:rd_T54 l5 (i_:Int)=l5[i_]:=by unfold rd_T54;rw [Int.toNat_natCast,List.getD_eq_getElem?_getD,List.getElem?_eq_getElem hlt];rfl
  rw [hrd,Int.toNat_natCast] at k0 k1 k2 k3
  clear hrd
  have HN:Aside0 ((l5.take (i_+1)).map toOpen5=row ++ [toOpen5 l5[i_]]):=⟨by rw [hrow];exact map_next _ _ _ hlt⟩
  clear hrow
  generalize l5[i_]=x_ at HN k0 k1 k2 k3
  obtain⟨x0,x1,x2,x3⟩:=x_
  have s1:=eq_true (show (i_:Int) < (l5.length:Int) by omega)
  have s2:=eq_true (show (0:Int)≤(i_:Int) by omega)
  subst eA
  clear hlt
  have hp:=HP.out
  obtain⟨P_,p_,rfl⟩:=Kd.R_slice hp
  clear hp
  have HX:Aside0 ((wq.alloc (.cells #[.int .i64 x0,.int .i64 x1,.int .i64 x2,.int .i64 x3] 54)).heap[wq.heap.size]? = some (.cells #[.int .i64 x0,.int .i64 x1,.int .i64 x2,.int .i64 x3] 54 (0,0))):=⟨blk_newAt _ rfl⟩
  have HP1:=Aside0.mk (Kd.R_alloc HP.out (.cells #[.int .i64 x0,.int .i64 x1,.int .i64 x2,.int .i64 x3] 54))
  have HW1:Aside0 (Below W2.heap.size W2 (wq.alloc (.cells #[.int .i64 x0,.int .i64 x1,.int .i64 x2,.int .i64 x3] 54))):=⟨below_alloc HW.out _⟩
  go_upto_region 12 with (fail)
  obtain⟨wv,hwv⟩:∃wv:World,wv=wq.alloc (.cells #[.int .i64 x0,.int .i64 x1,.int .i64 x2,.int .i64 x3] 54):=⟨_,rfl⟩
  rw [←hwv] at HX HP1 HW1 ⊢
  generalize wq.heap.size=vb at HX ⊢
  clear hwv s1 s2 b_ HP HW k0 k1 k2 k3
  clear wq
  obtain⟨wq,rfl⟩:∃wq:World,wq=wv:=⟨_,rfl⟩
  have d0:=(blk_cell HX.out 0).trans (show (#[.int .i64 x0,.int .i64 x1,.int .i64 x2,.int .i64 x3]:Array Value)[0]? = some (.int .i64 x0) from rfl)
  have d1:=(blk_cell HX.out 1).trans (show (#[.int .i64 x0,.int .i64 x1,.int .i64 x2,.int .i64 x3]:Array Value)[1]? = some (.int .i64 x1) from rfl)
  have d2:=(blk_cell HX.out 2).trans (show (#[.int .i64 x0,.int .i64 x1,.int .i64 x2,.int .i64 x3]:Array Value)[2]? = some (.int .i64 x2) from rfl)
  have d3:=(blk_cell HX.out 3).trans (show (#[.int .i64 x0,.int .i64 x1,.int .i64 x2,.int .i64 x3]:Array Value)[3]? = some (.int .i64 x3) from rfl)
  go_wp2_with ((with_reducible refine gate_builtin (b:=.append) (xs:=#[.tmp 63,.tmp 73]) rfl ?_);at_builtin;go_loud (refine Kd.R_append k52 (w0:=W2) W2.heap.size rfl (.tmp 63) (.tmp 73) 82 83 (.agg #[.int .i64 0,.int .i64 0,.int .i64 0,.int .i64 0]) 32 rfl Try.underlying82 infoArr rfl (by decide) (by decide) (.slice P_ row.length p_) row ⟨x0,x1,x2,x3⟩ [.int .i64 x0,.int .i64 x1,.int .i64 x2,.int .i64 x3] (fun q=>some q=(Value.slice P_ row.length p_).ownBlock∨wq.heap.size≤q) (fun _=>False) rfl rfl (k52_mkM _ _ _ _) (fun _ h=>h.elim) (fun q h=>.inr h) (Kd.R_mono HP1.out (fun q h=>.inl h)) HW1.out HW1.out.size ?ql ?_);(case ql=>have:=HRL.out;have:=HLT.out;have:=HC5.out.2.2;omega);intro v1 w9 hr1 hb1 hg1 hat1;have HPz:=Aside0.mk (Kd.R_tight rfl hr1);have HWz:=Aside0.mk hb1;clear hr1 hb1 hg1 hat1)
  go_wp2
  go_roundg (l5.length - (i_+1))
  case measure=>have:=Hi.out;have:=HLT.out;omega
  case rel=>exact⟨i_+1,by first|rfl|rw [show wrap64 ((i_:Int)+1)=((i_+1:Nat):Int) by have:=HLT.out;have:=HC5.out.2.2;unfold wrap64;omega],⟨HLT.out,Nat.le_refl _⟩,⟨by rw [HN.out];exact HPz.out⟩,HWz⟩
 have hE:((l5.take i_).map toOpen5)=l5.map toOpen5:=by rw [List.take_of_length_le (by omega)]
 rw [hE] at HP
 clear hE
 obtain⟨m5,hm5⟩:∃m,m=l5.map toOpen5:=⟨_,rfl⟩
 rw [←hm5] at HP
 have HM5:Aside0 (m5=l5.map toOpen5∧m5.length=l5.length):=⟨hm5,by rw [hm5,List.length_map]⟩
 clear hm5
 have s1:=eq_false (show ¬(i_:Int) < (l5.length:Int) by omega)
 clear hlt
 have hp:=HP.out
 obtain⟨P5,p5,rfl⟩:=Kd.R_slice hp
 clear hp
 have HO1:=Aside0.mk (HO.out.below HW.out)
 have HA1:=Aside0.mk (blk_below HAq.out HW.out)
 have HQ5:Aside0 (Kd.C k52 wq P5 m5.length m5∧m5.length≤p5):=⟨(Kd.R_reads' HP.out).2.2,(Kd.R_reads' HP.out).2.1⟩
 have hq:=And.intro (Kd.C_below HQ4.out.1 HW.out) HQ4.out.2
 clear HQ4
 have HQ4:=Aside0.mk hq
 clear hq
 have hq:=And.intro (Kd.C_below HC6.out.1 HW.out) HC6.out.2
 clear HC6
 have HC6:=Aside0.mk hq
 clear hq
 have HL5:=Aside0.mk HC5.out.2.2
 clear HO HAq HP HW HC5
 have HO:=HO1
 have HAq:=HA1
 clear HO1 HA1
 obtain⟨W3,rfl⟩:∃W:World,W=wq:=⟨_,rfl⟩
 go_wp2
 go_loopg [6,11] l6.length (fun gk v6 vi w'=>∃i_:Nat,vi=.int .i64 (i_:Int)∧Aside0 (i_≤l6.length∧l6.length - i_≤gk)∧Aside0 (Kd.R k52 83 w' W3.heap.size (fun q=>some q=v6.ownBlock) v6 ((l6.take i_).map toOpen6))∧Aside0 (Below W3.heap.size W3 w'))
 case atStart=>exact⟨0,rfl,⟨by omega,by omega⟩,⟨Kd.R_nil _ _ _ _ _⟩,⟨Below.refl _ _⟩⟩
 case' round=>skip
 obtain⟨i_,rfl,Hi,HP,HW⟩:=hrel
 obtain⟨wq,rfl⟩:∃wq:World,wq=wr:=⟨_,rfl⟩
 have b_:=(blk_cell (blk_below HAq.out HW.out) 6).trans (show (#[.int .i64 n,.int .i64 g,.slice A2 l2.length c2,.slice A3 l3.length c3,.slice A4 l4.length c4,.slice A5 l5.length c5,.slice A6 l6.length c6]:Array Value)[6]? = some (.slice A6 l6.length c6) from rfl)
 by_cases hlt:i_ < l6.length
 ·have HLT := Aside0.mk hlt
  obtain⟨row,hrow⟩:∃row,row=((l6.take i_).map toOpen6):=⟨_,rfl⟩
  have HRL:Aside0 (row.length=i_):=⟨by rw [hrow,List.length_map,List.length_take];omega⟩
  rw [←hrow] at HP
  obtain⟨ad,eA,k0,k1,k2⟩:=at_T56 (Kd.C_below HC6.out.1 HW.out) (i_:Int) (by omega) (by omega)
  have hrd:rd_T56 l6 (i_:Int)=l6[i_]:=by unfold rd_T56;rw [Int.toNat_natCast,List.getD_eq_getElem?_getD,List.getElem?_eq_getElem hlt];rfl
  rw [hrd,Int.toNat_natCast] at k0 k1 k2
  clear hrd
  have HN:Aside0 ((l6.take (i_+1)).map toOpen6=row ++ [toOpen6 l6[i_]]):=⟨by rw [hrow];exact map_next _ _ _ hlt⟩
  clear hrow
  generalize l6[i_]=x_ at HN k0 k1 k2
  obtain⟨x0,x1,x2⟩:=x_
  have s1:=eq_true (show (i_:Int) < (l6.length:Int) by omega)
  have s2:=eq_true (show (0:Int)≤(i_:Int) by omega)
  subst eA
  clear hlt
  have hp:=HP.out
  obtain⟨P_,p_,rfl⟩:=Kd.R_slice hp
  clear hp
  have HX:Aside0 ((wq.alloc (.cells #[.int .i64 x0,.int .i64 x1,.int .i64 x2] 56)).heap[wq.heap.size]? = some (.cells #[.int .i64 x0,.int .i64 x1,.int .i64 x2] 56 (0,0))):=⟨blk_newAt _ rfl⟩
  have HP1:=Aside0.mk (Kd.R_alloc HP.out (.cells #[.int .i64 x0,.int .i64 x1,.int .i64 x2] 56))
  have HW1:Aside0 (Below W3.heap.size W3 (wq.alloc (.cells #[.int .i64 x0,.int .i64 x1,.int .i64 x2] 56))):=⟨below_alloc HW.out _⟩
  go_upto_region 17 with (fail)
  obtain⟨wv,hwv⟩:∃wv:World,wv=wq.alloc (.cells #[.int .i64 x0,.int .i64 x1,.int .i64 x2] 56):=⟨_,rfl⟩
  rw [←hwv] at HX HP1 HW1 ⊢
  generalize wq.heap.size=vb at HX ⊢
  clear hwv s1 s2 b_ HP HW k0 k1 k2
  clear wq
  obtain⟨wq,rfl⟩:∃wq:World,wq=wv:=⟨_,rfl⟩
  have d0:=(blk_cell HX.out 0).trans (show (#[.int .i64 x0,.int .i64 x1,.int .i64 x2]:Array Value)[0]? = some (.int .i64 x0) from rfl)
  have d1:=(blk_cell HX.out 1).trans (show (#[.int .i64 x0,.int .i64 x1,.int .i64 x2]:Array Value)[1]? = some (.int .i64 x1) from rfl)
  have d2:=(blk_cell HX.out 2).trans (show (#[.int .i64 x0,.int .i64 x1,.int .i64 x2]:Array Value)[2]? = some (.int .i64 x2) from rfl)
  go_wp2_with ((with_reducible refine gate_builtin (b:=.append) (xs:=#[.tmp 87,.tmp 95]) rfl ?_);at_builtin;go_loud (refine Kd.R_append k52 (w0:=W3) W3.heap.size rfl (.tmp 87) (.tmp 95) 82 83 (.agg #[.int .i64 0,.int .i64 0,.int .i64 0,.int .i64 0]) 32 rfl Try.underlying82 infoArr rfl (by decide) (by decide) (.slice P_ row.length p_) row ⟨x0,x1,x2,0⟩ [.int .i64 x0,.int .i64 x1,.int .i64 x2,.int .i64 0] (fun q=>some q=(Value.slice P_ row.length p_).ownBlock∨wq.heap.size≤q) (fun _=>False) rfl rfl (k52_mkM _ _ _ _) (fun _ h=>h.elim) (fun q h=>.inr h) (Kd.R_mono HP1.out (fun q h=>.inl h)) HW1.out HW1.out.size ?ql ?_);(case ql=>have:=HRL.out;have:=HLT.out;have:=HC6.out.2.2;omega);intro v1 w9 hr1 hb1 hg1 hat1;have HPz:=Aside0.mk (Kd.R_tight rfl hr1);have HWz:=Aside0.mk hb1;clear hr1 hb1 hg1 hat1)
  go_wp2
  go_roundg (l6.length - (i_+1))
  case measure=>have:=Hi.out;have:=HLT.out;omega
  case rel=>exact⟨i_+1,by first|rfl|rw [show wrap64 ((i_:Int)+1)=((i_+1:Nat):Int) by have:=HLT.out;have:=HC6.out.2.2;unfold wrap64;omega],⟨HLT.out,Nat.le_refl _⟩,⟨by rw [HN.out];exact HPz.out⟩,HWz⟩
 have hE:((l6.take i_).map toOpen6)=l6.map toOpen6:=by rw [List.take_of_length_le (by omega)]
 rw [hE] at HP
 clear hE
 obtain⟨m6,hm6⟩:∃m,m=l6.map toOpen6:=⟨_,rfl⟩
 rw [←hm6] at HP
 have HM6:Aside0 (m6=l6.map toOpen6∧m6.length=l6.length):=⟨hm6,by rw [hm6,List.length_map]⟩
 clear hm6
 have s1:=eq_false (show ¬(i_:Int) < (l6.length:Int) by omega)
 clear hlt
 have hp:=HP.out
 obtain⟨P6,p6,rfl⟩:=Kd.R_slice hp
 clear hp
 have HO1:=Aside0.mk (HO.out.below HW.out)
 have HA1:=Aside0.mk (blk_below HAq.out HW.out)
 have HQ6:Aside0 (Kd.C k52 wq P6 m6.length m6∧m6.length≤p6):=⟨(Kd.R_reads' HP.out).2.2,(Kd.R_reads' HP.out).2.1⟩
 have hq:=And.intro (Kd.C_below HQ4.out.1 HW.out) HQ4.out.2
 clear HQ4
 have HQ4:=Aside0.mk hq
 clear hq
 have hq:=And.intro (Kd.C_below HQ5.out.1 HW.out) HQ5.out.2
 clear HQ5
 have HQ5:=Aside0.mk hq
 clear hq
 have HL6:=Aside0.mk HC6.out.2.2
 clear HO HAq HP HW HC6
 have HO:=HO1
 have HAq:=HA1
 clear HO1 HA1
 obtain⟨W4,rfl⟩:∃W:World,W=wq:=⟨_,rfl⟩
 -- MARK3
 clear HAq
 obtain⟨wq,rfl⟩:∃W:World,W=W4:=⟨_,rfl⟩
 go_upto_region 18 with (fail)
 go_wp2_with fail
 refine(rows_own m4.length P4 p4 m4 _ (Nat.le_refl _) (by have:=HM4.out.2;have:=HL4.out;omega) HQ4.out.1 HQ4.out.2).mono ?_
 rintro e wz ⟨D4,d4,rfl,hC_,hc_,hb_⟩
 have HT4:Aside0 ((onceC cmpOpen m4).length≤1000000000):=⟨by have h1:=once_lenle totalOpen m4;have:=HM4.out.2;have:=HL4.out;omega⟩
 obtain⟨t4,ht4⟩:∃t,t=onceC cmpOpen m4:=⟨_,rfl⟩
 rw [←ht4] at hC_ hc_ HT4 ⊢
 have HS4:=Aside0.mk (And.intro hC_ hc_)
 have HTE4:=Aside0.mk ht4
 clear ht4 hC_ hc_ HQ4 HL4
 have HO1:=Aside0.mk (HO.out.below hb_)
 clear HO
 have HO:=HO1
 clear HO1
 have hq:=And.intro (Kd.C_below HQ5.out.1 hb_) HQ5.out.2
 clear HQ5
 have HQ5:=Aside0.mk hq
 clear hq
 have hq:=And.intro (Kd.C_below HQ6.out.1 hb_) HQ6.out.2
 clear HQ6
 have HQ6:=Aside0.mk hq
 clear hq
 clear hb_
 try clear b_
 clear wq
 obtain⟨wq,rfl⟩:∃W:World,W=wz:=⟨_,rfl⟩
 go_wp2_with fail
 refine(rows_own m5.length P5 p5 m5 _ (Nat.le_refl _) (by have:=HM5.out.2;have:=HL5.out;omega) HQ5.out.1 HQ5.out.2).mono ?_
 rintro e wz ⟨D5,d5,rfl,hC_,hc_,hb_⟩
 have HT5:Aside0 ((onceC cmpOpen m5).length≤1000000000):=⟨by have h1:=once_lenle totalOpen m5;have:=HM5.out.2;have:=HL5.out;omega⟩
 obtain⟨t5,ht5⟩:∃t,t=onceC cmpOpen m5:=⟨_,rfl⟩
 rw [←ht5] at hC_ hc_ HT5 ⊢
 have HS5:=Aside0.mk (And.intro hC_ hc_)
 have HTE5:=Aside0.mk ht5
 clear ht5 hC_ hc_ HQ5 HL5
 have HO1:=Aside0.mk (HO.out.below hb_)
 clear HO
 have HO:=HO1
 clear HO1
 have hq:=And.intro (Kd.C_below HS4.out.1 hb_) HS4.out.2
 clear HS4
 have HS4:=Aside0.mk hq
 clear hq
 have hq:=And.intro (Kd.C_below HQ6.out.1 hb_) HQ6.out.2
 clear HQ6
 have HQ6:=Aside0.mk hq
 clear hq
 clear hb_
 try clear b_
 clear wq
 obtain⟨wq,rfl⟩:∃W:World,W=wz:=⟨_,rfl⟩
 go_wp2_with fail
 refine(rows_own m6.length P6 p6 m6 _ (Nat.le_refl _) (by have:=HM6.out.2;have:=HL6.out;omega) HQ6.out.1 HQ6.out.2).mono ?_
 rintro e wz ⟨D6,d6,rfl,hC_,hc_,hb_⟩
 have HT6:Aside0 ((onceC cmpOpen m6).length≤1000000000):=⟨by have h1:=once_lenle totalOpen m6;have:=HM6.out.2;have:=HL6.out;omega⟩
 obtain⟨t6,ht6⟩:∃t,t=onceC cmpOpen m6:=⟨_,rfl⟩
 rw [←ht6] at hC_ hc_ HT6 ⊢
 have HS6:=Aside0.mk (And.intro hC_ hc_)
 have HTE6:=Aside0.mk ht6
 clear ht6 hC_ hc_ HQ6 HL6
 have HO1:=Aside0.mk (HO.out.below hb_)
 clear HO
 have HO:=HO1
 clear HO1
 have hq:=And.intro (Kd.C_below HS4.out.1 hb_) HS4.out.2
 clear HS4
 have HS4:=Aside0.mk hq
 clear hq
 have hq:=And.intro (Kd.C_below HS5.out.1 hb_) HS5.out.2
 clear HS5
 have HS5:=Aside0.mk hq
 clear hq
 clear hb_
 try clear b_
 clear wq
 obtain⟨wq,rfl⟩:∃W:World,W=wz:=⟨_,rfl⟩
 -- MARK4
 obtain⟨W5,rfl⟩:∃W:World,W=wq:=⟨_,rfl⟩
 have HF4:Aside0 (∀W',KeepBut W5 W' go none→Kd.C k52 W' D4 t4.length t4):=⟨Kd.C_foot_ne open_lift HS4.out.1 (rows_ne HS4.out.1 HO.out.t)⟩
 clear HS4
 have HF5:Aside0 (∀W',KeepBut W5 W' go none→Kd.C k52 W' D5 t5.length t5):=⟨Kd.C_foot_ne open_lift HS5.out.1 (rows_ne HS5.out.1 HO.out.t)⟩
 clear HS5
 have HF6:Aside0 (∀W',KeepBut W5 W' go none→Kd.C k52 W' D6 t6.length t6):=⟨Kd.C_foot_ne open_lift HS6.out.1 (rows_ne HS6.out.1 HO.out.t)⟩
 clear HS6
 have HKB:Aside0 (KeepBut W5 W5 go none):=⟨KeepBut.refl _ _ _⟩
 go_wp2
 go_loopg [13] t4.length (fun gk vi w'=>∃(i_:Nat) (u_:Value),vi=.int .i64 (i_:Int)∧Aside0 (i_≤t4.length∧t4.length - i_≤gk)∧Aside0 (OutR w' wd go (.int .i64 n) (.int .i64 g) (.slice B2 (onceC cmpInt l2).length b2) (.slice B3 (onceC cmpInt l3).length b3) u_ (.slice none 0 0) (.slice none 0 0) (onceC cmpInt l2) (onceC cmpInt l3) ((t4.take i_).map ofOpen4) [] [])∧Aside0 (KeepBut W5 w' go none)∧Aside0 (none=u_.ownBlock∨∃b,u_.ownBlock=some b∧W5.heap.size≤b))
 case atStart=>exact⟨0,.slice none 0 0,rfl,⟨by omega,by omega⟩,HO,HKB,⟨.inl rfl⟩⟩
 case' round=>skip
 clear HO HKB
 obtain⟨i_,u_,rfl,Hi,HO,HKB,HNV⟩:=hrel
 try clear wq
 obtain⟨wq,rfl⟩:∃wq:World,wq=wr:=⟨_,rfl⟩
 by_cases hlt:i_ < t4.length
 ·have HLT := Aside0.mk hlt
  obtain⟨row,hrow⟩:∃row,row=((t4.take i_).map ofOpen4):=⟨_,rfl⟩
  have HRL:Aside0 (row.length=i_):=⟨by rw [hrow,List.length_map,List.length_take];omega⟩
  rw [←hrow] at HO
  have HN:Aside0 ((t4.take (i_+1)).map ofOpen4=row ++ [ofOpen4 t4[i_]]):=⟨by rw [hrow];exact map_next _ _ _ hlt⟩
  clear hrow
  have hCX:∃ad,D4=some ad∧∀W',KeepBut W5 W' go none→W'.cell? (ad.add (i_*4))=some (.int .i64 t4[i_].f0)∧W'.cell? ⟨(ad.add (i_*4)).block,(ad.add (i_*4)).off+1,none⟩=some (.int .i64 t4[i_].f1)∧W'.cell? ⟨(ad.add (i_*4)).block,(ad.add (i_*4)).off+2,none⟩=some (.int .i64 t4[i_].f2)∧W'.cell? ⟨(ad.add (i_*4)).block,(ad.add (i_*4)).off+3,none⟩=some (.int .i64 t4[i_].f3):=by
   obtain⟨ad,eA,_⟩:=at_T52 (HF4.out _ HKB.out) (i_:Int) (by omega) (by omega)
   refine⟨ad,eA,fun W' hk=>?_⟩
   obtain⟨ad2,e2,k0,k1,k2,k3⟩:=at_T52 (HF4.out _ hk) (i_:Int) (by omega) (by omega)
   rw [eA] at e2
   cases e2
   have hrd:rd_T52 t4 (i_:Int)=t4[i_]:=by unfold rd_T52;rw [Int.toNat_natCast,List.getD_eq_getElem?_getD,List.getElem?_eq_getElem hlt];rfl
   rw [hrd,Int.toNat_natCast] at k0 k1 k2 k3
   exact⟨k0,k1,k2,k3⟩
  obtain⟨ad,eA,hCX⟩:=hCX
  generalize t4[i_]=x_ at HN hCX
  obtain⟨x0,x1,x2,x3⟩:=x_
  have HCX:Aside0 (∀W',KeepBut W5 W' go none→W'.cell? (ad.add (i_*4))=some (.int .i64 x0)∧W'.cell? ⟨(ad.add (i_*4)).block,(ad.add (i_*4)).off+1,none⟩=some (.int .i64 x1)∧W'.cell? ⟨(ad.add (i_*4)).block,(ad.add (i_*4)).off+2,none⟩=some (.int .i64 x2)∧W'.cell? ⟨(ad.add (i_*4)).block,(ad.add (i_*4)).off+3,none⟩=some (.int .i64 x3)):=⟨hCX⟩
  clear hCX
  have s1:=eq_true (show (i_:Int) < (t4.length:Int) by omega)
  have s2:=eq_true (show (0:Int)≤(i_:Int) by omega)
  clear hlt
  subst eA
  have hu:=HO.out.r4
  obtain⟨U_,y_,rfl⟩:=Kd.R_slice hu
  clear hu
  go_upto_region 22 with (fail)
  refine start_ (n:=27) (S:=fun w'=>w'.cell? ⟨go,4,none⟩=some (Value.slice U_ row.length y_)∧w'.cell? (ad.add (i_*4))=some (.int .i64 x0)∧w'.cell? ⟨(ad.add (i_*4)).block,(ad.add (i_*4)).off+1,none⟩=some (.int .i64 x1)∧w'.cell? ⟨(ad.add (i_*4)).block,(ad.add (i_*4)).off+2,none⟩=some (.int .i64 x2)∧w'.cell? ⟨(ad.add (i_*4)).block,(ad.add (i_*4)).off+3,none⟩=some (.int .i64 x3)) (ds:=[26]) (pm 0 27) (by kernel_rfl) rfl rfl ⟨(blk_cell (blk_drew HO.out.t) 4).trans rfl,HCX.out _ (keep_drew HKB.out)⟩ (fun hHeld=>?_)
  refine with_tabW N22r.tab N22r.bits (fun HT_ HW_=>?_)
  have HO1:=Aside0.mk (HO.out.below (below_drew (Below.refl _ _)))
  have HK1:=Aside0.mk (keep_drew HKB.out)
  clear HO HKB
  have HO:=HO1
  have HKB:=HK1
  clear HO1 HK1
  obtain⟨wv,hwv⟩:∃wv:World,wv=wq.drew:=⟨_,rfl⟩
  rw [←hwv] at HO HKB hHeld ⊢
  clear hwv
  try clear wq
  obtain⟨wq,rfl⟩:∃wq:World,wq=wv:=⟨_,rfl⟩
  iterate 23 (first|(refine pn_ (v:=?_) (a':=?_) rfl (rfl (a:=some _)) (any_of HT_.out (by kernel_rfl)) (fun _ _ _ h=>h) (Or.inl ⟨by rfl,?_⟩) ?_ ?_;rotate_left;(intro w';go_simp;with_reducible rfl);rotate_left;(simp only [Act.put,M.sq3,i64_w,i32_w];rfl))|(refine tn_ (v:=?_) (a':=?_) rfl (rfl (a:=some _)) (take_ofW HT_.out HW_.out (by kernel_rfl)) (fun _ _ _ h=>h) (Or.inl ⟨by rfl,?_⟩) hHeld ?_ ?_;rotate_left;(intro w' hS_;obtain⟨s0,s1,s2,s3,s4⟩:=hS_;go_simp;with_reducible rfl);rotate_left;(simp only [Act.put,M.sq3,i64_w,i32_w];rfl)))
  refine one_ (i:=23) (N:=(some 132)) (pm 24 3) rfl rfl (one_of HT_.out (by kernel_rfl)) (by decide) (fun K hK=>?_)
  refine step_run (v:=.slice (some ⟨wq.heap.size,0,none⟩) 1 1) (w1:=wq.alloc (.cells #[.int .i64 x0,.int .i64 x1,.int .i64 x2,.int .i64 x3] 52)) rfl (by go_simp) ?_
  clear hHeld
  refine hK.out _ _ ⟨(blk_cell (blk_old HO.out.t (.cells #[.int .i64 x0,.int .i64 x1,.int .i64 x2,.int .i64 x3] 52)) 4).trans rfl,HCX.out _ (keep_alloc HKB.out (.cells #[.int .i64 x0,.int .i64 x1,.int .i64 x2,.int .i64 x3] 52))⟩ (fun hHeld=>?_)
  clear hK K
  refine norm_ (a':=?_) ?_ ?_
  rotate_left
  ·show Act.put _ (some 132) _ = _
   simp only [Act.put,M.sq3,i64_w,i32_w]
   rfl
  refine one_ (i:=24) (N:=(some 133)) (pm 25 2) rfl rfl (one_of HT_.out (by kernel_rfl)) (by decide) (fun K hK=>?_)
  refine Kd.R_append_step k52 (w0:=wd) wd.heap.size rfl (.tmp 110) (.tmp 132) 26 52 (.agg #[.int .i64 0,.int .i64 0,.int .i64 0,.int .i64 0]) 32 rfl Try.underlying26 rinfoOpen rfl (by decide) (by decide) (Value.slice U_ row.length y_) row (⟨x0,x1,x2,x3⟩) [.int .i64 x0,.int .i64 x1,.int .i64 x2,.int .i64 x3] (fun k=>some k=((Value.slice U_ row.length y_):Value).ownBlock∨wq.heap.size≤k) (fun _=>False) rfl rfl (k52_mkM _ _ _ _) (fun _ h=>h.elim) (fun k h=>.inr h) (Kd.R_mono HO.out.r4 (fun k h=>.inl h)) HO.out.b HO.out.b.size ?ql ?_
  case ql=>have:=HRL.out;have:=HLT.out;have:=HT4.out;omega
  intro v1 w4 hr1 hb1 hg1 hat1
  obtain⟨A1,m1,k1,rfl⟩:=rslice3 hr1
  have HO1:=Aside0.mk (HO.out.app4 hr1 hb1 hg1 hat1)
  have HT1:=Aside0.mk (blk_grown HO.out.t hg1 (Kd.R_ne HO.out.r4 HO.out.t (by decide)))
  have HK1:Aside0 (KeepBut W5 w4 go none):=⟨HKB.out.trans (KeepBut.of_grown hg1 go) (HNV.out.imp Eq.symm id)⟩
  have HNV1:Aside0 (none=(Value.slice A1 m1 k1).ownBlock∨∃b,(Value.slice A1 m1 k1).ownBlock=some b∧W5.heap.size≤b):=⟨by
   rcases hat1 with h|⟨b,h,h2⟩
   ·rw [h];exact HNV.out
   exact .inr ⟨b,h,Nat.le_trans (keep_size HKB.out) h2⟩⟩
  clear hr1 hb1 hg1 hat1 HO HKB HNV
  clear hHeld
  refine hK.out _ _ ⟨(blk_cell HT1.out 4).trans rfl,HCX.out _ HK1.out⟩ (fun hHeld=>?_)
  clear hK K
  refine norm_ (a':=?_) ?_ ?_
  rotate_left
  ·show Act.put _ (some 133) _ = _
   simp only [Act.put,M.sq3,i64_w,i32_w]
   rfl
  refine pn_ (v:=?_) (a':=?_) rfl (rfl (a:=some _)) (any_of HT_.out (by kernel_rfl)) (fun _ _ _ h=>h) (Or.inl ⟨by rfl,?_⟩) ?_ ?_;rotate_left;(intro w';go_simp;with_reducible rfl);rotate_left;(simp only [Act.put,M.sq3,i64_w,i32_w];rfl)
  refine last_ (i:=26) (N:=none) (pm 27 0) rfl rfl (one_of HT_.out (by kernel_rfl)) (by decide) (fun K hK=>?_)
  have hc2:=(blk_cell HT1.out 4).trans (show (#[.int .i64 n,.int .i64 g,(.slice B2 (onceC cmpInt l2).length b2),(.slice B3 (onceC cmpInt l3).length b3),(Value.slice U_ row.length y_),(.slice none 0 0),(.slice none 0 0)]:Array Value)[4]? = some (Value.slice U_ row.length y_) from rfl)
  have hf2:=blk_frozen HT1.out 4
  refine Go.Proofs.Ytjkhdldgmkkhjaa.M.step_skip (w1:=w4.setCell ⟨go,4,none⟩ (.slice A1 m1 k1)) rfl rfl (by go_simp) ?_
  clear hc2 hf2 HT1 hHeld
  refine hK.out _ _ ?_
  clear hK K
  have HK2:Aside0 (KeepBut W5 (w4.setCell ⟨go,4,none⟩ (.slice A1 m1 k1)) go none):=⟨HK1.out.set_ 4 _⟩
  clear HK1
  obtain⟨wv,hwv⟩:∃wv:World,wv=w4.setCell ⟨go,4,none⟩ (.slice A1 m1 k1):=⟨_,rfl⟩
  rw [←hwv] at HO1 HK2 ⊢
  clear hwv w4
  try clear wq
  obtain⟨wq,rfl⟩:∃wq:World,wq=wv:=⟨_,rfl⟩
  refine done_ (done_of HT_.out (by kernel_rfl)) ?_
  clear s1 s2
  go_wp2
  go_roundg (t4.length - (i_+1))
  case measure=>have:=Hi.out;have:=HLT.out;omega
  case rel=>exact⟨i_+1,.slice A1 m1 k1,by first|rfl|rw [show wrap64 ((i_:Int)+1)=((i_+1:Nat):Int) by have:=HLT.out;have:=HT4.out;unfold wrap64;omega],⟨HLT.out,Nat.le_refl _⟩,⟨by rw [HN.out];exact HO1.out⟩,HK2,HNV1⟩
 have hE:((t4.take i_).map ofOpen4)=t4.map ofOpen4:=by rw [List.take_of_length_le (by omega)]
 rw [hE] at HO
 clear hE
 obtain⟨o4,ho4⟩:∃m,m=t4.map ofOpen4:=⟨_,rfl⟩
 rw [←ho4] at HO
 have HOE4:=Aside0.mk ho4
 clear ho4
 have s1:=eq_false (show ¬(i_:Int) < (t4.length:Int) by omega)
 clear hlt HNV
 have hu:=HO.out.r4
 obtain⟨U4,y4,rfl⟩:=Kd.R_slice hu
 clear hu
 go_wp2
 go_loopg [14] t5.length (fun gk vi w'=>∃(i_:Nat) (u_:Value),vi=.int .i64 (i_:Int)∧Aside0 (i_≤t5.length∧t5.length - i_≤gk)∧Aside0 (OutR w' wd go (.int .i64 n) (.int .i64 g) (.slice B2 (onceC cmpInt l2).length b2) (.slice B3 (onceC cmpInt l3).length b3) (.slice U4 o4.length y4) u_ (.slice none 0 0) (onceC cmpInt l2) (onceC cmpInt l3) o4 ((t5.take i_).map ofOpen5) [])∧Aside0 (KeepBut W5 w' go none)∧Aside0 (none=u_.ownBlock∨∃b,u_.ownBlock=some b∧W5.heap.size≤b))
 case atStart=>exact⟨0,.slice none 0 0,rfl,⟨by omega,by omega⟩,HO,HKB,⟨.inl rfl⟩⟩
 case' round=>skip
 clear HO HKB
 obtain⟨i_,u_,rfl,Hi,HO,HKB,HNV⟩:=hrel
 try clear wq
 obtain⟨wq,rfl⟩:∃wq:World,wq=wr:=⟨_,rfl⟩
 by_cases hlt:i_ < t5.length
 ·have HLT := Aside0.mk hlt
  obtain⟨row,hrow⟩:∃row,row=((t5.take i_).map ofOpen5):=⟨_,rfl⟩
  have HRL:Aside0 (row.length=i_):=⟨by rw [hrow,List.length_map,List.length_take];omega⟩
  rw [←hrow] at HO
  have HN:Aside0 ((t5.take (i_+1)).map ofOpen5=row ++ [ofOpen5 t5[i_]]):=⟨by rw [hrow];exact map_next _ _ _ hlt⟩
  clear hrow
  have hCX:∃ad,D5=some ad∧∀W',KeepBut W5 W' go none→W'.cell? (ad.add (i_*4))=some (.int .i64 t5[i_].f0)∧W'.cell? ⟨(ad.add (i_*4)).block,(ad.add (i_*4)).off+1,none⟩=some (.int .i64 t5[i_].f1)∧W'.cell? ⟨(ad.add (i_*4)).block,(ad.add (i_*4)).off+2,none⟩=some (.int .i64 t5[i_].f2)∧W'.cell? ⟨(ad.add (i_*4)).block,(ad.add (i_*4)).off+3,none⟩=some (.int .i64 t5[i_].f3):=by
   obtain⟨ad,eA,_⟩:=at_T52 (HF5.out _ HKB.out) (i_:Int) (by omega) (by omega)
   refine⟨ad,eA,fun W' hk=>?_⟩
   obtain⟨ad2,e2,k0,k1,k2,k3⟩:=at_T52 (HF5.out _ hk) (i_:Int) (by omega) (by omega)
   rw [eA] at e2
   cases e2
   have hrd:rd_T52 t5 (i_:Int)=t5[i_]:=by unfold rd_T52;rw [Int.toNat_natCast,List.getD_eq_getElem?_getD,List.getElem?_eq_getElem hlt];rfl
   rw [hrd,Int.toNat_natCast] at k0 k1 k2 k3
   exact⟨k0,k1,k2,k3⟩
  obtain⟨ad,eA,hCX⟩:=hCX
  generalize t5[i_]=x_ at HN hCX
  obtain⟨x0,x1,x2,x3⟩:=x_
  have HCX:Aside0 (∀W',KeepBut W5 W' go none→W'.cell? (ad.add (i_*4))=some (.int .i64 x0)∧W'.cell? ⟨(ad.add (i_*4)).block,(ad.add (i_*4)).off+1,none⟩=some (.int .i64 x1)∧W'.cell? ⟨(ad.add (i_*4)).block,(ad.add (i_*4)).off+2,none⟩=some (.int .i64 x2)∧W'.cell? ⟨(ad.add (i_*4)).block,(ad.add (i_*4)).off+3,none⟩=some (.int .i64 x3)):=⟨hCX⟩
  clear hCX
  have s1:=eq_true (show (i_:Int) < (t5.length:Int) by omega)
  have s2:=eq_true (show (0:Int)≤(i_:Int) by omega)
  clear hlt
  subst eA
  have hu:=HO.out.r5
  obtain⟨U_,y_,rfl⟩:=Kd.R_slice hu
  clear hu
  go_upto_region 26 with (fail)
  refine start_ (n:=27) (S:=fun w'=>w'.cell? ⟨go,5,none⟩=some (Value.slice U_ row.length y_)∧w'.cell? (ad.add (i_*4))=some (.int .i64 x0)∧w'.cell? ⟨(ad.add (i_*4)).block,(ad.add (i_*4)).off+1,none⟩=some (.int .i64 x1)∧w'.cell? ⟨(ad.add (i_*4)).block,(ad.add (i_*4)).off+2,none⟩=some (.int .i64 x2)∧w'.cell? ⟨(ad.add (i_*4)).block,(ad.add (i_*4)).off+3,none⟩=some (.int .i64 x3)) (ds:=[26]) (pm 0 27) (by kernel_rfl) rfl rfl ⟨(blk_cell (blk_drew HO.out.t) 5).trans rfl,HCX.out _ (keep_drew HKB.out)⟩ (fun hHeld=>?_)
  refine with_tabW N26r.tab N26r.bits (fun HT_ HW_=>?_)
  have HO1:=Aside0.mk (HO.out.below (below_drew (Below.refl _ _)))
  have HK1:=Aside0.mk (keep_drew HKB.out)
  clear HO HKB
  have HO:=HO1
  have HKB:=HK1
  clear HO1 HK1
  obtain⟨wv,hwv⟩:∃wv:World,wv=wq.drew:=⟨_,rfl⟩
  rw [←hwv] at HO HKB hHeld ⊢
  clear hwv
  try clear wq
  obtain⟨wq,rfl⟩:∃wq:World,wq=wv:=⟨_,rfl⟩
  iterate 23 (first|(refine pn_ (v:=?_) (a':=?_) rfl (rfl (a:=some _)) (any_of HT_.out (by kernel_rfl)) (fun _ _ _ h=>h) (Or.inl ⟨by rfl,?_⟩) ?_ ?_;rotate_left;(intro w';go_simp;with_reducible rfl);rotate_left;(simp only [Act.put,M.sq3,i64_w,i32_w];rfl))|(refine tn_ (v:=?_) (a':=?_) rfl (rfl (a:=some _)) (take_ofW HT_.out HW_.out (by kernel_rfl)) (fun _ _ _ h=>h) (Or.inl ⟨by rfl,?_⟩) hHeld ?_ ?_;rotate_left;(intro w' hS_;obtain⟨s0,s1,s2,s3,s4⟩:=hS_;go_simp;with_reducible rfl);rotate_left;(simp only [Act.put,M.sq3,i64_w,i32_w];rfl)))
  refine one_ (i:=23) (N:=(some 164)) (pm 24 3) rfl rfl (one_of HT_.out (by kernel_rfl)) (by decide) (fun K hK=>?_)
  refine step_run (v:=.slice (some ⟨wq.heap.size,0,none⟩) 1 1) (w1:=wq.alloc (.cells #[.int .i64 x0,.int .i64 x1,.int .i64 x2,.int .i64 x3] 54)) rfl (by go_simp) ?_
  clear hHeld
  refine hK.out _ _ ⟨(blk_cell (blk_old HO.out.t (.cells #[.int .i64 x0,.int .i64 x1,.int .i64 x2,.int .i64 x3] 54)) 5).trans rfl,HCX.out _ (keep_alloc HKB.out (.cells #[.int .i64 x0,.int .i64 x1,.int .i64 x2,.int .i64 x3] 54))⟩ (fun hHeld=>?_)
  clear hK K
  refine norm_ (a':=?_) ?_ ?_
  rotate_left
  ·show Act.put _ (some 164) _ = _
   simp only [Act.put,M.sq3,i64_w,i32_w]
   rfl
  refine one_ (i:=24) (N:=(some 165)) (pm 25 2) rfl rfl (one_of HT_.out (by kernel_rfl)) (by decide) (fun K hK=>?_)
  refine Kd.R_append_step k54 (w0:=wd) wd.heap.size rfl (.tmp 142) (.tmp 164) 27 54 (.agg #[.int .i64 0,.int .i64 0,.int .i64 0,.int .i64 0]) 32 rfl Try.underlying27 rinfoClose rfl (by decide) (by decide) (Value.slice U_ row.length y_) row (⟨x0,x1,x2,x3⟩) [.int .i64 x0,.int .i64 x1,.int .i64 x2,.int .i64 x3] (fun k=>some k=((Value.slice U_ row.length y_):Value).ownBlock∨wq.heap.size≤k) (fun _=>False) rfl rfl (k54_mkM _ _ _ _) (fun _ h=>h.elim) (fun k h=>.inr h) (Kd.R_mono HO.out.r5 (fun k h=>.inl h)) HO.out.b HO.out.b.size ?ql ?_
  case ql=>have:=HRL.out;have:=HLT.out;have:=HT5.out;omega
  intro v1 w4 hr1 hb1 hg1 hat1
  obtain⟨A1,m1,k1,rfl⟩:=rslice3 hr1
  have HO1:=Aside0.mk (HO.out.app5 hr1 hb1 hg1 hat1)
  have HT1:=Aside0.mk (blk_grown HO.out.t hg1 (Kd.R_ne HO.out.r5 HO.out.t (by decide)))
  have HK1:Aside0 (KeepBut W5 w4 go none):=⟨HKB.out.trans (KeepBut.of_grown hg1 go) (HNV.out.imp Eq.symm id)⟩
  have HNV1:Aside0 (none=(Value.slice A1 m1 k1).ownBlock∨∃b,(Value.slice A1 m1 k1).ownBlock=some b∧W5.heap.size≤b):=⟨by
   rcases hat1 with h|⟨b,h,h2⟩
   ·rw [h];exact HNV.out
   exact .inr ⟨b,h,Nat.le_trans (keep_size HKB.out) h2⟩⟩
  clear hr1 hb1 hg1 hat1 HO HKB HNV
  clear hHeld
  refine hK.out _ _ ⟨(blk_cell HT1.out 5).trans rfl,HCX.out _ HK1.out⟩ (fun hHeld=>?_)
  clear hK K
  refine norm_ (a':=?_) ?_ ?_
  rotate_left
  ·show Act.put _ (some 165) _ = _
   simp only [Act.put,M.sq3,i64_w,i32_w]
   rfl
  refine pn_ (v:=?_) (a':=?_) rfl (rfl (a:=some _)) (any_of HT_.out (by kernel_rfl)) (fun _ _ _ h=>h) (Or.inl ⟨by rfl,?_⟩) ?_ ?_;rotate_left;(intro w';go_simp;with_reducible rfl);rotate_left;(simp only [Act.put,M.sq3,i64_w,i32_w];rfl)
  refine last_ (i:=26) (N:=none) (pm 27 0) rfl rfl (one_of HT_.out (by kernel_rfl)) (by decide) (fun K hK=>?_)
  have hc2:=(blk_cell HT1.out 5).trans (show (#[.int .i64 n,.int .i64 g,(.slice B2 (onceC cmpInt l2).length b2),(.slice B3 (onceC cmpInt l3).length b3),(.slice U4 o4.length y4),(Value.slice U_ row.length y_),(.slice none 0 0)]:Array Value)[5]? = some (Value.slice U_ row.length y_) from rfl)
  have hf2:=blk_frozen HT1.out 5
  refine Go.Proofs.Ytjkhdldgmkkhjaa.M.step_skip (w1:=w4.setCell ⟨go,5,none⟩ (.slice A1 m1 k1)) rfl rfl (by go_simp) ?_
  clear hc2 hf2 HT1 hHeld
  refine hK.out _ _ ?_
  clear hK K
  have HK2:Aside0 (KeepBut W5 (w4.setCell ⟨go,5,none⟩ (.slice A1 m1 k1)) go none):=⟨HK1.out.set_ 5 _⟩
  clear HK1
  obtain⟨wv,hwv⟩:∃wv:World,wv=w4.setCell ⟨go,5,none⟩ (.slice A1 m1 k1):=⟨_,rfl⟩
  rw [←hwv] at HO1 HK2 ⊢
  clear hwv w4
  try clear wq
  obtain⟨wq,rfl⟩:∃wq:World,wq=wv:=⟨_,rfl⟩
  refine done_ (done_of HT_.out (by kernel_rfl)) ?_
  clear s1 s2
  go_wp2
  go_roundg (t5.length - (i_+1))
  case measure=>have:=Hi.out;have:=HLT.out;omega
  case rel=>exact⟨i_+1,.slice A1 m1 k1,by first|rfl|rw [show wrap64 ((i_:Int)+1)=((i_+1:Nat):Int) by have:=HLT.out;have:=HT5.out;unfold wrap64;omega],⟨HLT.out,Nat.le_refl _⟩,⟨by rw [HN.out];exact HO1.out⟩,HK2,HNV1⟩
 have hE:((t5.take i_).map ofOpen5)=t5.map ofOpen5:=by rw [List.take_of_length_le (by omega)]
 rw [hE] at HO
 clear hE
 obtain⟨o5,ho5⟩:∃m,m=t5.map ofOpen5:=⟨_,rfl⟩
 rw [←ho5] at HO
 have HOE5:=Aside0.mk ho5
 clear ho5
 have s1:=eq_false (show ¬(i_:Int) < (t5.length:Int) by omega)
 clear hlt HNV
 have hu:=HO.out.r5
 obtain⟨U5,y5,rfl⟩:=Kd.R_slice hu
 clear hu
 go_wp2
 go_loopg [15] t6.length (fun gk vi w'=>∃(i_:Nat) (u_:Value),vi=.int .i64 (i_:Int)∧Aside0 (i_≤t6.length∧t6.length - i_≤gk)∧Aside0 (OutR w' wd go (.int .i64 n) (.int .i64 g) (.slice B2 (onceC cmpInt l2).length b2) (.slice B3 (onceC cmpInt l3).length b3) (.slice U4 o4.length y4) (.slice U5 o5.length y5) u_ (onceC cmpInt l2) (onceC cmpInt l3) o4 o5 ((t6.take i_).map ofOpen6))∧Aside0 (KeepBut W5 w' go none)∧Aside0 (none=u_.ownBlock∨∃b,u_.ownBlock=some b∧W5.heap.size≤b))
 case atStart=>exact⟨0,.slice none 0 0,rfl,⟨by omega,by omega⟩,HO,HKB,⟨.inl rfl⟩⟩
 case' round=>skip
 clear HO HKB
 obtain⟨i_,u_,rfl,Hi,HO,HKB,HNV⟩:=hrel
 try clear wq
 obtain⟨wq,rfl⟩:∃wq:World,wq=wr:=⟨_,rfl⟩
 by_cases hlt:i_ < t6.length
 ·have HLT := Aside0.mk hlt
  obtain⟨row,hrow⟩:∃row,row=((t6.take i_).map ofOpen6):=⟨_,rfl⟩
  have HRL:Aside0 (row.length=i_):=⟨by rw [hrow,List.length_map,List.length_take];omega⟩
  rw [←hrow] at HO
  have HN:Aside0 ((t6.take (i_+1)).map ofOpen6=row ++ [ofOpen6 t6[i_]]):=⟨by rw [hrow];exact map_next _ _ _ hlt⟩
  clear hrow
  have hCX:∃ad,D6=some ad∧∀W',KeepBut W5 W' go none→W'.cell? (ad.add (i_*4))=some (.int .i64 t6[i_].f0)∧W'.cell? ⟨(ad.add (i_*4)).block,(ad.add (i_*4)).off+1,none⟩=some (.int .i64 t6[i_].f1)∧W'.cell? ⟨(ad.add (i_*4)).block,(ad.add (i_*4)).off+2,none⟩=some (.int .i64 t6[i_].f2)∧W'.cell? ⟨(ad.add (i_*4)).block,(ad.add (i_*4)).off+3,none⟩=some (.int .i64 t6[i_].f3):=by
   obtain⟨ad,eA,_⟩:=at_T52 (HF6.out _ HKB.out) (i_:Int) (by omega) (by omega)
   refine⟨ad,eA,fun W' hk=>?_⟩
   obtain⟨ad2,e2,k0,k1,k2,k3⟩:=at_T52 (HF6.out _ hk) (i_:Int) (by omega) (by omega)
   rw [eA] at e2
   cases e2
   have hrd:rd_T52 t6 (i_:Int)=t6[i_]:=by unfold rd_T52;rw [Int.toNat_natCast,List.getD_eq_getElem?_getD,List.getElem?_eq_getElem hlt];rfl
   rw [hrd,Int.toNat_natCast] at k0 k1 k2 k3
   exact⟨k0,k1,k2,k3⟩
  obtain⟨ad,eA,hCX⟩:=hCX
  generalize t6[i_]=x_ at HN hCX
  obtain⟨x0,x1,x2,x3⟩:=x_
  have HCX:Aside0 (∀W',KeepBut W5 W' go none→W'.cell? (ad.add (i_*4))=some (.int .i64 x0)∧W'.cell? ⟨(ad.add (i_*4)).block,(ad.add (i_*4)).off+1,none⟩=some (.int .i64 x1)∧W'.cell? ⟨(ad.add (i_*4)).block,(ad.add (i_*4)).off+2,none⟩=some (.int .i64 x2)∧W'.cell? ⟨(ad.add (i_*4)).block,(ad.add (i_*4)).off+3,none⟩=some (.int .i64 x3)):=⟨hCX⟩
  clear hCX
  have s1:=eq_true (show (i_:Int) < (t6.length:Int) by omega)
  have s2:=eq_true (show (0:Int)≤(i_:Int) by omega)
  clear hlt
  subst eA
  have hu:=HO.out.r6
  obtain⟨U_,y_,rfl⟩:=Kd.R_slice hu
  clear hu
  go_upto_region 30 with (fail)
  refine start_ (n:=22) (S:=fun w'=>w'.cell? ⟨go,6,none⟩=some (Value.slice U_ row.length y_)∧w'.cell? (ad.add (i_*4))=some (.int .i64 x0)∧w'.cell? ⟨(ad.add (i_*4)).block,(ad.add (i_*4)).off+1,none⟩=some (.int .i64 x1)∧w'.cell? ⟨(ad.add (i_*4)).block,(ad.add (i_*4)).off+2,none⟩=some (.int .i64 x2)∧w'.cell? ⟨(ad.add (i_*4)).block,(ad.add (i_*4)).off+3,none⟩=some (.int .i64 x3)) (ds:=[21]) (pm 0 22) (by kernel_rfl) rfl rfl ⟨(blk_cell (blk_drew HO.out.t) 6).trans rfl,HCX.out _ (keep_drew HKB.out)⟩ (fun hHeld=>?_)
  refine with_tabW N30r.tab N30r.bits (fun HT_ HW_=>?_)
  have HO1:=Aside0.mk (HO.out.below (below_drew (Below.refl _ _)))
  have HK1:=Aside0.mk (keep_drew HKB.out)
  clear HO HKB
  have HO:=HO1
  have HKB:=HK1
  clear HO1 HK1
  obtain⟨wv,hwv⟩:∃wv:World,wv=wq.drew:=⟨_,rfl⟩
  rw [←hwv] at HO HKB hHeld ⊢
  clear hwv
  try clear wq
  obtain⟨wq,rfl⟩:∃wq:World,wq=wv:=⟨_,rfl⟩
  iterate 18 (first|(refine pn_ (v:=?_) (a':=?_) rfl (rfl (a:=some _)) (any_of HT_.out (by kernel_rfl)) (fun _ _ _ h=>h) (Or.inl ⟨by rfl,?_⟩) ?_ ?_;rotate_left;(intro w';go_simp;with_reducible rfl);rotate_left;(simp only [Act.put,M.sq3,i64_w,i32_w];rfl))|(refine tn_ (v:=?_) (a':=?_) rfl (rfl (a:=some _)) (take_ofW HT_.out HW_.out (by kernel_rfl)) (fun _ _ _ h=>h) (Or.inl ⟨by rfl,?_⟩) hHeld ?_ ?_;rotate_left;(intro w' hS_;obtain⟨s0,s1,s2,s3,s4⟩:=hS_;go_simp;with_reducible rfl);rotate_left;(simp only [Act.put,M.sq3,i64_w,i32_w];rfl)))
  refine one_ (i:=18) (N:=(some 191)) (pm 19 3) rfl rfl (one_of HT_.out (by kernel_rfl)) (by decide) (fun K hK=>?_)
  refine step_run (v:=.slice (some ⟨wq.heap.size,0,none⟩) 1 1) (w1:=wq.alloc (.cells #[.int .i64 x0,.int .i64 x1,.int .i64 x2] 56)) rfl (by go_simp) ?_
  clear hHeld
  refine hK.out _ _ ⟨(blk_cell (blk_old HO.out.t (.cells #[.int .i64 x0,.int .i64 x1,.int .i64 x2] 56)) 6).trans rfl,HCX.out _ (keep_alloc HKB.out (.cells #[.int .i64 x0,.int .i64 x1,.int .i64 x2] 56))⟩ (fun hHeld=>?_)
  clear hK K
  refine norm_ (a':=?_) ?_ ?_
  rotate_left
  ·show Act.put _ (some 191) _ = _
   simp only [Act.put,M.sq3,i64_w,i32_w]
   rfl
  refine one_ (i:=19) (N:=(some 192)) (pm 20 2) rfl rfl (one_of HT_.out (by kernel_rfl)) (by decide) (fun K hK=>?_)
  refine Kd.R_append_step k56 (w0:=wd) wd.heap.size rfl (.tmp 174) (.tmp 191) 28 56 (.agg #[.int .i64 0,.int .i64 0,.int .i64 0]) 24 rfl Try.underlying28 rinfoInner rfl (by decide) (by decide) (Value.slice U_ row.length y_) row (⟨x0,x1,x2⟩) [.int .i64 x0,.int .i64 x1,.int .i64 x2] (fun k=>some k=((Value.slice U_ row.length y_):Value).ownBlock∨wq.heap.size≤k) (fun _=>False) rfl rfl (k56_mkM _ _ _ _) (fun _ h=>h.elim) (fun k h=>.inr h) (Kd.R_mono HO.out.r6 (fun k h=>.inl h)) HO.out.b HO.out.b.size ?ql ?_
  case ql=>have:=HRL.out;have:=HLT.out;have:=HT6.out;omega
  intro v1 w4 hr1 hb1 hg1 hat1
  obtain⟨A1,m1,k1,rfl⟩:=rslice3 hr1
  have HO1:=Aside0.mk (HO.out.app6 hr1 hb1 hg1 hat1)
  have HT1:=Aside0.mk (blk_grown HO.out.t hg1 (Kd.R_ne HO.out.r6 HO.out.t (by decide)))
  have HK1:Aside0 (KeepBut W5 w4 go none):=⟨HKB.out.trans (KeepBut.of_grown hg1 go) (HNV.out.imp Eq.symm id)⟩
  have HNV1:Aside0 (none=(Value.slice A1 m1 k1).ownBlock∨∃b,(Value.slice A1 m1 k1).ownBlock=some b∧W5.heap.size≤b):=⟨by
   rcases hat1 with h|⟨b,h,h2⟩
   ·rw [h];exact HNV.out
   exact .inr ⟨b,h,Nat.le_trans (keep_size HKB.out) h2⟩⟩
  clear hr1 hb1 hg1 hat1 HO HKB HNV
  clear hHeld
  refine hK.out _ _ ⟨(blk_cell HT1.out 6).trans rfl,HCX.out _ HK1.out⟩ (fun hHeld=>?_)
  clear hK K
  refine norm_ (a':=?_) ?_ ?_
  rotate_left
  ·show Act.put _ (some 192) _ = _
   simp only [Act.put,M.sq3,i64_w,i32_w]
   rfl
  refine pn_ (v:=?_) (a':=?_) rfl (rfl (a:=some _)) (any_of HT_.out (by kernel_rfl)) (fun _ _ _ h=>h) (Or.inl ⟨by rfl,?_⟩) ?_ ?_;rotate_left;(intro w';go_simp;with_reducible rfl);rotate_left;(simp only [Act.put,M.sq3,i64_w,i32_w];rfl)
  refine last_ (i:=21) (N:=none) (pm 22 0) rfl rfl (one_of HT_.out (by kernel_rfl)) (by decide) (fun K hK=>?_)
  have hc2:=(blk_cell HT1.out 6).trans (show (#[.int .i64 n,.int .i64 g,(.slice B2 (onceC cmpInt l2).length b2),(.slice B3 (onceC cmpInt l3).length b3),(.slice U4 o4.length y4),(.slice U5 o5.length y5),(Value.slice U_ row.length y_)]:Array Value)[6]? = some (Value.slice U_ row.length y_) from rfl)
  have hf2:=blk_frozen HT1.out 6
  refine Go.Proofs.Ytjkhdldgmkkhjaa.M.step_skip (w1:=w4.setCell ⟨go,6,none⟩ (.slice A1 m1 k1)) rfl rfl (by go_simp) ?_
  clear hc2 hf2 HT1 hHeld
  refine hK.out _ _ ?_
  clear hK K
  have HK2:Aside0 (KeepBut W5 (w4.setCell ⟨go,6,none⟩ (.slice A1 m1 k1)) go none):=⟨HK1.out.set_ 6 _⟩
  clear HK1
  obtain⟨wv,hwv⟩:∃wv:World,wv=w4.setCell ⟨go,6,none⟩ (.slice A1 m1 k1):=⟨_,rfl⟩
  rw [←hwv] at HO1 HK2 ⊢
  clear hwv w4
  try clear wq
  obtain⟨wq,rfl⟩:∃wq:World,wq=wv:=⟨_,rfl⟩
  refine done_ (done_of HT_.out (by kernel_rfl)) ?_
  clear s1 s2
  go_wp2
  go_roundg (t6.length - (i_+1))
  case measure=>have:=Hi.out;have:=HLT.out;omega
  case rel=>exact⟨i_+1,.slice A1 m1 k1,by first|rfl|rw [show wrap64 ((i_:Int)+1)=((i_+1:Nat):Int) by have:=HLT.out;have:=HT6.out;unfold wrap64;omega],⟨HLT.out,Nat.le_refl _⟩,⟨by rw [HN.out];exact HO1.out⟩,HK2,HNV1⟩
 have hE:((t6.take i_).map ofOpen6)=t6.map ofOpen6:=by rw [List.take_of_length_le (by omega)]
 rw [hE] at HO
 clear hE
 obtain⟨o6,ho6⟩:∃m,m=t6.map ofOpen6:=⟨_,rfl⟩
 rw [←ho6] at HO
 have HOE6:=Aside0.mk ho6
 clear ho6
 have s1:=eq_false (show ¬(i_:Int) < (t6.length:Int) by omega)
 clear hlt HNV
 have hu:=HO.out.r6
 obtain⟨U6,y6,rfl⟩:=Kd.R_slice hu
 clear hu
 -- MARK5
 have cb0:=(blk_cell HO.out.t 0).trans (show (#[.int .i64 n,.int .i64 g,(.slice B2 (onceC cmpInt l2).length b2),(.slice B3 (onceC cmpInt l3).length b3),(.slice U4 o4.length y4),(.slice U5 o5.length y5),(.slice U6 o6.length y6)]:Array Value)[0]? = some (.int .i64 n) from rfl)
 have cb1:=(blk_cell HO.out.t 1).trans (show (#[.int .i64 n,.int .i64 g,(.slice B2 (onceC cmpInt l2).length b2),(.slice B3 (onceC cmpInt l3).length b3),(.slice U4 o4.length y4),(.slice U5 o5.length y5),(.slice U6 o6.length y6)]:Array Value)[1]? = some (.int .i64 g) from rfl)
 have cb2:=(blk_cell HO.out.t 2).trans (show (#[.int .i64 n,.int .i64 g,(.slice B2 (onceC cmpInt l2).length b2),(.slice B3 (onceC cmpInt l3).length b3),(.slice U4 o4.length y4),(.slice U5 o5.length y5),(.slice U6 o6.length y6)]:Array Value)[2]? = some ((.slice B2 (onceC cmpInt l2).length b2)) from rfl)
 have cb3:=(blk_cell HO.out.t 3).trans (show (#[.int .i64 n,.int .i64 g,(.slice B2 (onceC cmpInt l2).length b2),(.slice B3 (onceC cmpInt l3).length b3),(.slice U4 o4.length y4),(.slice U5 o5.length y5),(.slice U6 o6.length y6)]:Array Value)[3]? = some ((.slice B3 (onceC cmpInt l3).length b3)) from rfl)
 have cb4:=(blk_cell HO.out.t 4).trans (show (#[.int .i64 n,.int .i64 g,(.slice B2 (onceC cmpInt l2).length b2),(.slice B3 (onceC cmpInt l3).length b3),(.slice U4 o4.length y4),(.slice U5 o5.length y5),(.slice U6 o6.length y6)]:Array Value)[4]? = some ((.slice U4 o4.length y4)) from rfl)
 have cb5:=(blk_cell HO.out.t 5).trans (show (#[.int .i64 n,.int .i64 g,(.slice B2 (onceC cmpInt l2).length b2),(.slice B3 (onceC cmpInt l3).length b3),(.slice U4 o4.length y4),(.slice U5 o5.length y5),(.slice U6 o6.length y6)]:Array Value)[5]? = some ((.slice U5 o5.length y5)) from rfl)
 have cb6:=(blk_cell HO.out.t 6).trans (show (#[.int .i64 n,.int .i64 g,(.slice B2 (onceC cmpInt l2).length b2),(.slice B3 (onceC cmpInt l3).length b3),(.slice U4 o4.length y4),(.slice U5 o5.length y5),(.slice U6 o6.length y6)]:Array Value)[6]? = some ((.slice U6 o6.length y6)) from rfl)
 have HZ5:=Aside0.mk (blk_below HZ.out HO.out.b)
 have y_0:=(blk_cell HZ5.out 0).trans (show (#[.int .i64 0,.int .i64 0,.slice none 0 0,.slice none 0 0,.slice none 0 0,.slice none 0 0,.slice none 0 0]:Array Value)[0]? = some (.int .i64 0) from rfl)
 have g_0:=blk_frozen HZ5.out 0
 have y_1:=(blk_cell HZ5.out 1).trans (show (#[.int .i64 0,.int .i64 0,.slice none 0 0,.slice none 0 0,.slice none 0 0,.slice none 0 0,.slice none 0 0]:Array Value)[1]? = some (.int .i64 0) from rfl)
 have g_1:=blk_frozen HZ5.out 1
 have y_2:=(blk_cell HZ5.out 2).trans (show (#[.int .i64 0,.int .i64 0,.slice none 0 0,.slice none 0 0,.slice none 0 0,.slice none 0 0,.slice none 0 0]:Array Value)[2]? = some (.slice none 0 0) from rfl)
 have g_2:=blk_frozen HZ5.out 2
 have y_3:=(blk_cell HZ5.out 3).trans (show (#[.int .i64 0,.int .i64 0,.slice none 0 0,.slice none 0 0,.slice none 0 0,.slice none 0 0,.slice none 0 0]:Array Value)[3]? = some (.slice none 0 0) from rfl)
 have g_3:=blk_frozen HZ5.out 3
 have y_4:=(blk_cell HZ5.out 4).trans (show (#[.int .i64 0,.int .i64 0,.slice none 0 0,.slice none 0 0,.slice none 0 0,.slice none 0 0,.slice none 0 0]:Array Value)[4]? = some (.slice none 0 0) from rfl)
 have g_4:=blk_frozen HZ5.out 4
 have y_5:=(blk_cell HZ5.out 5).trans (show (#[.int .i64 0,.int .i64 0,.slice none 0 0,.slice none 0 0,.slice none 0 0,.slice none 0 0,.slice none 0 0]:Array Value)[5]? = some (.slice none 0 0) from rfl)
 have g_5:=blk_frozen HZ5.out 5
 have y_6:=(blk_cell HZ5.out 6).trans (show (#[.int .i64 0,.int .i64 0,.slice none 0 0,.slice none 0 0,.slice none 0 0,.slice none 0 0,.slice none 0 0]:Array Value)[6]? = some (.slice none 0 0) from rfl)
 have g_6:=blk_frozen HZ5.out 6
 go_wp2
 refine bodyPost_ret (results_cell_row rfl _ _ (w.heap.size+1) 30 #[.int .i64 n,.int .i64 g,(.slice B2 (onceC cmpInt l2).length b2),(.slice B3 (onceC cmpInt l3).length b3),(.slice U4 o4.length y4),(.slice U5 o5.length y5),(.slice U6 o6.length y6)] (0,0) _ rfl (blk_set (blk_set (blk_set (blk_set (blk_set (blk_set (blk_set (HZ5.out) 0 (.int .i64 n)) 1 (.int .i64 g)) 2 ((.slice B2 (onceC cmpInt l2).length b2))) 3 ((.slice B3 (onceC cmpInt l3).length b3))) 4 ((.slice U4 o4.length y4))) 5 ((.slice U5 o5.length y5))) 6 ((.slice U6 o6.length y6))) Try.underlying30 rfl (by kernel_rfl)) rfl ?_
 refine⟨_,_,_,_,_,rfl,?_,?_⟩
 ·rw [← HM4.out.1, ← HM5.out.1, ← HM6.out.1, ← HTE4.out, ← HTE5.out, ← HTE6.out, ← HOE4.out, ← HOE5.out, ← HOE6.out]
  have hlt8:=HG.out.2
  refine OutV.lower ?_ HB.out.size
  repeat (refine OutV.set ?_ hlt8 _)
  exact OutV.of_R HO.out
 exact below_setCells7g (below_then HB.out HB.out.size HO.out.b) (by omega)
end Go.Proofs.Ytjkhdldgmkkhjaa.P
