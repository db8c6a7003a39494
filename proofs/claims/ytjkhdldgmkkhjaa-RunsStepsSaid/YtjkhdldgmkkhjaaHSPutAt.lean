/- Words and walks of this claim: SPutAt. -/
import Derived.Test.YtjkhdldgmkkhjaaHMFar
import Derived.Test.YtjkhdldgmkkhjaaHMIntsEtc
import Derived.BigQuiet
set_option linter.unusedVariables false
set_option linter.unusedSimpArgs false
set_option linter.unnecessarySimpa false
namespace Go.Proofs.Ytjkhdldgmkkhjaa.P
open Go.RowKit Go.Proofs.YtjkhdldgmkkhjaaW.PrintWords Go.Proofs.YtjkhdldgmkkhjaaW.PrintLast Go.Proofs.YtjkhdldgmkkhjaaW.PrintMore Go.Proofs.Ytjkhdldgmkkhjaa.M
def cmpR (x y:RAt):Int:=orInt (cmpInt x.f0 y.f0) (cmpList x.f1 y.f1)
def lessB (x y:RAt):Bool:=decide (cmpR x y < 0)
theorem less_loop (a b:List Int) (ha:a.length≤1000):∀(d:Nat) (i:Int),0≤i→i≤a.length→a.length - i=d→i≤b.length→∀k,2*d+1 < k→canopyref1_Less.l0 k a b i=some (decide (cmpList (a.drop i.toNat) (b.drop i.toNat) < 0)):=by
 intro d
 induction d with
 | zero=>
  intro i h0 h1 hd hb k hk
  obtain⟨k,rfl⟩:∃e,k=e+1+1:=⟨k - 2,by omega⟩
  unfold canopyref1_Less.l0
  rw [if_neg (by omega)]
  unfold canopyref1_Less.j1
  rw [if_neg (by decide),List.drop_of_length_le (l:=a) (by omega)]
  congr 1
  by_cases h:(b.drop i.toNat) = []
  ·rw [h]
   have h2:=congrArg List.length h
   rw [List.length_drop] at h2
   simp only [List.length_nil] at h2
   rw [decide_eq_false (by omega)];rfl
  obtain ⟨y, t, e⟩ := List.exists_cons_of_ne_nil h
  have h2:=congrArg List.length e
  rw [List.length_drop] at h2
  simp only [List.length_cons] at h2
  rw [e,decide_eq_true (by omega)];rfl
 | succ d ih=>
  intro i h0 h1 hd hb k hk
  obtain⟨k,rfl⟩:∃e,k=e+1+1:=⟨k - 2,by omega⟩
  have c1:i < (a.length:Int):=by omega
  have ea:a.drop i.toNat=rd a i :: a.drop (i+1).toNat:=by
   rw [List.drop_eq_getElem_cons (by omega),show (i+1).toNat=i.toNat+1 by omega]
   congr 1
   unfold rd
   rw [List.getD_eq_getElem?_getD,List.getElem?_eq_getElem (by omega)];rfl
  unfold canopyref1_Less.l0
  rw [if_pos c1]
  unfold canopyref1_Less.j1
  by_cases c2:i < (b.length:Int)
  ·have eb:b.drop i.toNat=rd b i :: b.drop (i+1).toNat:=by
    rw [List.drop_eq_getElem_cons (by omega),show (i+1).toNat=i.toNat+1 by omega]
    congr 1
    unfold rd
    rw [List.getD_eq_getElem?_getD,List.getElem?_eq_getElem (by omega)];rfl
   rw [if_pos (decide_eq_true c2),if_pos h0,if_pos c1,if_pos c2,ea,eb]
   have ec:cmpList (rd a i :: a.drop (i+1).toNat) (rd b i :: b.drop (i+1).toNat)=if cmpInt (rd a i) (rd b i)=0 then cmpList (a.drop (i+1).toNat) (b.drop (i+1).toNat) else cmpInt (rd a i) (rd b i):=rfl
   rw [ec]
   by_cases c3:rd a i=rd b i
   ·rw [if_pos c3, if_pos (cmpInt_zero.2 c3), show wrap64 (i + 1) = i + 1 by unfold wrap64; omega]
    exact ih (i+1) (by omega) (by omega) (by omega) (by omega) k (by omega)
   rw [if_neg c3, if_neg (fun h => c3 (cmpInt_zero.1 h))]
   congr 1
   refine decide_eq_decide.2 ?_
   unfold cmpInt
   split
   ·omega
   split<;>omega
  rw [if_neg (by rw [decide_eq_false c2]; decide), ea, List.drop_of_length_le (l := b) (by omega), decide_eq_false (show ¬ (a.length : Int) < (b.length : Int) by omega)]
  rfl
theorem less_eq (x y:RAt) (h:x.f1.length≤1000):canopyref4_less.f 2010 x.f0 x.f1 y.f0 y.f1=some (lessB x y):=by
 unfold canopyref4_less.f lessB cmpR orInt
 by_cases c1:x.f0 < y.f0
 ·have e : cmpInt x.f0 y.f0 = -1 := if_pos c1
  rw [if_pos c1,e,if_neg (by decide)];rfl
 rw [if_neg c1]
 by_cases c2:x.f0=y.f0
 ·rw [if_pos c2, if_pos (cmpInt_zero.2 c2)]
  unfold canopyref1_Less.f
  rw [less_loop x.f1 y.f1 h x.f1.length 0 (by omega) (by omega) (by omega) (by omega) 2010 (by omega)]
  rfl
 have e : cmpInt x.f0 y.f0 = 1 := by unfold cmpInt; rw [if_neg c1, if_pos (by omega)]
 rw [if_neg c2,e,if_neg (by decide)];rfl
def putK (x:RAt) (l:List RAt):Nat→Nat
 | 0=>0
 | k+1=>if lessB x (l.getD k ⟨0,[]⟩)=true then putK x l k else k+1
theorem putK_le (x:RAt) (l:List RAt):∀k,putK x l k≤k
 | 0=>Nat.le_refl _
 | k+1=>by
  unfold putK
  split
  ·exact Nat.le_succ_of_le (putK_le x l k)
  exact Nat.le_refl _
def putL (x:RAt) (l:List RAt):List RAt:=
 if 0 < putK x l l.length∧lessB (l.getD (putK x l l.length - 1) ⟨0,[]⟩) x=false then l else l.take (putK x l l.length) ++ [x] ++ l.drop (putK x l l.length)
theorem rawI:(Try.prog.info? 67).map (fun i=>(i.zero,i.size,i.bytes))=some (some (.agg #[.int .i64 0,.slice none 0 0]),2,32):=by kernel_rfl
theorem RawOf.form {w:World} {r:Raw} {x:RAt} (h:RawOf w r x):∃A c,r=(x.f0,A,x.f1.length,c)∧x.f1.length≤c∧Kd.C (Kd.int .i64) w A x.f1.length x.f1:=by
 obtain⟨s,A,n,c⟩:=r
 obtain⟨h1,h2,h3,h4⟩:=h
 exact⟨A,c,by simp only at h1 h2;rw [h1,h2],h3,h4⟩
def Pa6t.T:Bool × List (List Nat × List Nat):=(true,[([],[]),([],[]),([],[]),([1,2],[1,2]),([0,3],[0,3]),([],[]),([5],[5]),([4,6,4],[4,6]),([],[]),([],[]),([8,9],[8,9]),([7,10,7],[7,10]),([11,11,0,1,2,3,4,5,6,7,8,9,10,11],[11])])
def Pa6t.B:List Nat:=[0,0,0,6,15,0,32,127,0,0,768,2047,4095]
theorem Pa6t.tab:rtab .any (opsOf Try.f39 6)=Pa6t.T:=by kernel_rfl
theorem Pa6t.bits:waitsOk Pa6t.T.2 Pa6t.B=true:=by kernel_rfl
set_option maxHeartbeats 16000000 in
set_option maxRecDepth 100000 in
theorem put_own (A:Option Addr) (c:Nat) (rs:List Raw) (l:List RAt) (AX:Option Addr) (cx:Nat) (x:RAt) (w:World) (hC:Kd.C kRaw w A rs.length rs) (hc:rs.length≤c) (hR:RawsOf w rs l) (hx1:x.f1.length≤cx) (hx2:Kd.C (Kd.int .i64) w AX x.f1.length x.f1) (hl:rs.length≤1000000) (hs:∀y∈l,y.f1.length≤1000) (hsx:x.f1.length≤1000) :
 Calls Try.prog 39 #[.slice A rs.length c,.agg #[.int .i64 x.f0,.slice AX x.f1.length cx]] w fun e w'=>∃A' c' rs',e=.returned (.slice A' rs'.length c')∧Kd.C kRaw w' A' rs'.length rs'∧rs'.length≤c'∧RawsOf w' rs' (putL x l)∧Below w.heap.size w w':=by
 have HC:=Aside0.mk (And.intro hC hc)
 have HR:=Aside0.mk hR
 have HX:=Aside0.mk (And.intro hx1 hx2)
 have HL:=Aside0.mk hl
 have HS:=Aside0.mk hs
 have HSX:=Aside0.mk hsx
 have HLN:=Aside0.mk hR.len
 clear hC hc hR hx1 hx2 hl hs hsx
 go_enter Try.func39,Try.ntmps39
 go_upto_region 1 with (fail)
 obtain⟨w1,hw1⟩:∃W:World,W=w.alloc (.cells #[.int .i64 x.f0,.slice AX x.f1.length cx] 67):=⟨_,rfl⟩
 obtain⟨gx,hgx⟩:∃g,g=w.heap.size:=⟨_,rfl⟩
 have HG:Aside0 (w1.heap[gx]? = some (.cells #[.int .i64 x.f0,.slice AX x.f1.length cx] 67 (0,0))):=⟨by rw [hw1,hgx];exact blk_newAt _ rfl⟩
 have HW:Aside0 (Below w.heap.size w w1):=⟨by rw [hw1];exact below_alloc (Below.refl _ _) _⟩
 have HC1:=Aside0.mk (And.intro (Kd.C_below HC.out.1 HW.out) HC.out.2)
 have HR1:=Aside0.mk (RawsOf.below HW.out HR.out)
 have HX1:=Aside0.mk (And.intro HX.out.1 (Kd.C_below HX.out.2 HW.out))
 rw [←hw1,←hgx]
 clear hw1 hgx HC HR HX
 have HC:=HC1
 have HR:=HR1
 have HX:=HX1
 clear HC1 HR1 HX1
 have HK:Aside0 (putK x l rs.length=putK x l l.length):=⟨by rw [HLN.out]⟩
 have HB:Aside0 (Below w1.heap.size w1 w1):=⟨Below.refl _ _⟩
 go_wp2
 go_loopg [5] rs.length (fun gk vk w'=>∃k_:Nat,vk=.int .i64 (k_:Int)∧Aside0 (k_≤rs.length∧k_≤gk)∧Aside0 (Below w1.heap.size w1 w')∧Aside0 (putK x l k_=putK x l l.length))
 case atStart=>exact⟨rs.length,rfl,⟨Nat.le_refl _,Nat.le_refl _⟩,HB,HK⟩
 case' round=>skip
 clear HB HK
 obtain⟨k_,rfl,Hk,HB,HK⟩:=hrel
 obtain⟨wl,rfl⟩:∃W:World,W=wr:=⟨_,rfl⟩
 by_cases h0:k_=0
 ·as_aux_lemma=>
   have q1:=decide_eq_false (show ¬(k_:Int) > 0 by omega)
   have q2:=eq_false (show ¬(k_:Int) > 0 by omega)
   have q5:=eq_false (show ¬0 < k_ by omega)
   have HK0:Aside0 (putK x l l.length=k_):=⟨by rw [←HK.out,h0];rfl⟩
   have HPL:Aside0 (putL x l=l.take k_ ++ [x] ++ l.drop k_):=⟨by unfold putL;rw [HK0.out,if_neg (fun h=>by have:=h.1;omega)]⟩
   have HKL:Aside0 (k_≤rs.length):=⟨Hk.out.1⟩
   clear HK Hk HK0 h0
   go_wp2_with fail
   go_quiet (fail)
   have HB1:=Aside0.mk (HB.out.trans (pw_below_drewN (Below.refl _ _) nq))
   clear HB
   have HB:=HB1
   clear HB1
   obtain⟨wd,hwd⟩:∃W:World,W=wl.drewN nq:=⟨_,rfl⟩
   rw [←hwd] at HB ⊢
   clear hwd
   try clear wl
   obtain⟨wl,rfl⟩:∃W:World,W=wd:=⟨_,rfl⟩
   go_wp2
   go_quiet (fail)
   have HB1:=Aside0.mk (HB.out.trans (pw_below_drewN (Below.refl _ _) nq))
   clear HB
   have HB:=HB1
   clear HB1
   obtain⟨wd,hwd⟩:∃W:World,W=wl.drewN nq:=⟨_,rfl⟩
   rw [←hwd] at HB ⊢
   clear hwd
   try clear wl
   obtain⟨wl,rfl⟩:∃W:World,W=wd:=⟨_,rfl⟩
   clear q1 q2 q5
   go_upto_region 6 with (fail)
   obtain⟨i0_,hi0,_,hsz0,_⟩:=info_parts rawI
   have hcut1:=cut_to (P:=Try.prog) 35 67 .i64 Try.underlying35 hi0 A rs.length c (k_:Int) (by omega) (by have:=HKL.out;omega) HC.out.2
   rw [Int.toNat_natCast] at hcut1
   have hcut2:=cut_from (P:=Try.prog) 35 67 .i64 Try.underlying35 hi0 2 hsz0 A rs.length c (k_:Int) (by omega) (by have:=HKL.out;omega)
   rw [Int.toNat_natCast] at hcut2
   obtain⟨AD,hAD⟩:∃A1,A1=(if c=k_ then A else (A:Option Addr).map (·.add (k_*2))):=⟨_,rfl⟩
   rw [←hAD] at hcut2
   have HD1:Aside0 (Kd.C kRaw w1 AD (rs.length - k_) (rs.drop k_)):=⟨by rw [hAD,←List.length_drop];exact Kd.C_drop (k:=kRaw) HC.out.1 HKL.out HC.out.2⟩
   have HT1:Aside0 (Kd.C kRaw w1 A k_ (rs.take k_)):=⟨by have h:=Kd.C_take HC.out.1 HKL.out;rw [List.length_take,Nat.min_eq_left HKL.out] at h;exact h⟩
   have HRW:Aside0 (RawsOf w1 (rs.take k_ ++ [(x.f0,AX,x.f1.length,cx)] ++ rs.drop k_) (putL x l)):=⟨by rw [HPL.out];exact RawsOf.app (HR.out.drop k_) (RawsOf.app (show RawsOf w1 [(x.f0,AX,x.f1.length,cx)] [x] from⟨⟨rfl,rfl,HX.out.1,HX.out.2⟩,trivial⟩) (HR.out.take k_))⟩
   obtain⟨rt,hrt⟩:∃r,r=rs.take k_:=⟨_,rfl⟩
   obtain⟨rd_,hrd⟩:∃r,r=rs.drop k_:=⟨_,rfl⟩
   obtain⟨nd,hnd⟩:∃n,n=rs.length - k_:=⟨_,rfl⟩
   have HLL:Aside0 (rt.length≤1000000∧k_≤1000000∧nd≤1000000):=⟨by have:=HL.out;have:=HKL.out;rw [hrt,hnd,List.length_take];omega⟩
   rw [←hrt] at HT1 HRW
   rw [←hrd] at HD1 HRW
   rw [←hnd] at HD1 hcut2
   clear hAD hrt hrd hnd hi0 hsz0
   refine start_ (n:=13) (S:=fun w'=>w'.cell? ⟨gx,0,none⟩=some (.int .i64 x.f0)∧w'.cell? ⟨gx,1,none⟩=some (.slice AX x.f1.length cx)) (ds:=[]) (pm 0 13) (by kernel_rfl) rfl rfl ⟨(blk_cell (blk_below HG.out (HB.out.trans (below_drew (Below.refl _ _)))) 0).trans rfl,(blk_cell (blk_below HG.out (HB.out.trans (below_drew (Below.refl _ _)))) 1).trans rfl⟩ (fun hHeld=>?_)
   refine with_tabW Pa6t.tab Pa6t.bits (fun HT_ HW_=>?_)
   have HBd:=Aside0.mk (HB.out.trans (below_drew (Below.refl _ _)))
   clear HB
   obtain⟨wd,hwd⟩:∃W:World,W=wl.drew:=⟨_,rfl⟩
   rw [←hwd] at HBd hHeld ⊢
   clear hwd
   try clear wl
   refine po_ 1 (v:=?_) (a':=?_) rfl (rfl (a:=some _)) (any_of HT_.out (by kernel_rfl)) (fun _ _ _ h=>h) (Or.inl ⟨by rfl,?_⟩) ?_ ?_;rotate_left;(intro w';go_simp;with_reducible rfl);rotate_left;(simp only [Act.put,M.sq3,i64_w,i32_w];rfl)
   refine po_ 2 (v:=?_) (a':=?_) rfl (rfl (a:=some _)) (any_of HT_.out (by kernel_rfl)) (fun _ _ _ h=>h) (Or.inl ⟨by rfl,?_⟩) ?_ ?_;rotate_left;(intro w';go_simp;with_reducible rfl);rotate_left;(simp only [Act.put,M.sq3,i64_w,i32_w];rfl)
   refine po_ 3 (v:=?_) (a':=?_) rfl (rfl (a:=some _)) (any_of HT_.out (by kernel_rfl)) (fun _ _ _ h=>h) (Or.inl ⟨by rfl,?_⟩) ?_ ?_;rotate_left;(intro w';go_simp;with_reducible rfl);rotate_left;(simp only [Act.put,M.sq3,i64_w,i32_w];rfl)
   refine to_ 5 (v:=?_) (a':=?_) rfl (rfl (a:=some _)) (take_ofW HT_.out HW_.out (by kernel_rfl)) (fun _ _ _ h=>h) (Or.inl ⟨by rfl,?_⟩) hHeld ?_ ?_;rotate_left;(intro w' hS_;obtain⟨s0,s1⟩:=hS_;go_simp;with_reducible rfl);rotate_left;(simp only [Act.put,M.sq3,i64_w,i32_w];rfl)
   refine po_ 8 (v:=?_) (a':=?_) rfl (rfl (a:=some _)) (any_of HT_.out (by kernel_rfl)) (fun _ _ _ h=>h) (Or.inl ⟨by rfl,?_⟩) ?_ ?_;rotate_left;(intro w';go_simp;with_reducible rfl);rotate_left;(simp only [Act.put,M.sq3,i64_w,i32_w];rfl)
   refine po_ 9 (v:=?_) (a':=?_) rfl (rfl (a:=some _)) (any_of HT_.out (by kernel_rfl)) (fun _ _ _ h=>h) (Or.inl ⟨by rfl,?_⟩) ?_ ?_;rotate_left;(intro w';go_simp;with_reducible rfl);rotate_left;(simp only [Act.put,M.sq3,i64_w,i32_w];rfl)
   refine po_ 10 (v:=?_) (a':=?_) rfl (rfl (a:=some _)) (any_of HT_.out (by kernel_rfl)) (fun _ _ _ h=>h) (Or.inl ⟨by rfl,?_⟩) ?_ ?_;rotate_left;(intro w';go_simp;with_reducible rfl);rotate_left;(simp only [Act.put,M.sq3,i64_w,i32_w];rfl)
   refine join_ (σ:=Value × Value × Value) 3 #[true,true,true,true,true,true,true,false,true,true,true,false,false] (fun s_=>[(34,s_.1),(38,s_.2.1),(40,s_.2.2)]) (fun s_ w'=>Below w1.heap.size w1 w'∧kRaw.R 67 w' w1.heap.size (fun k=>some k=s_.2.1.ownBlock) s_.2.1 (([]:List Raw) ++ rt)∧kRaw.R 67 w' w1.heap.size (fun k=>some k=s_.2.2.ownBlock) s_.2.2 [(x.f0,AX,x.f1.length,cx)]) ?_ ?_
   rotate_left
   ·intro hCont
    have hCX:=Aside0.mk hCont
    clear hCont
    refine two_ (i:=0) (j:=6) (Ni:=some 34) (Nj:=some 40) #[true,true,true,true,false,true,false,false,true,true,true,false,false] #[false,true,true,true,false,true,true,false,true,true,true,false,false] rfl rfl rfl rfl (by kernel_rfl) (by decide) (by decide) (fun K hK=>?_) (fun K hK=>?_)
    ·skip
     refine Kd.R_lit_step kRaw _ 67 ?hg (N:=34) ?hd (xs:=([]:List Raw)) (inner:=[]) (ok:=fun _=>True) (okp:=fun _=>True) ?hr ?hp (fun _ hk=>hk) trivial HBd.out HBd.out.size (by simp) ?_
     case hd=>rfl
     case hg=>rfl
     case hr=>first|(go_simp;done)|(go_simp;rfl)
     case hp=>exact(Reps.none _ _)
     intro v0 wq1 ho hb hg_ hn_
     have HOq1:=Aside0.mk (Kd.R_tight rfl ho)
     have HBq1:=Aside0.mk hb
     clear ho hb hg_ hn_ hHeld
     refine hK.out _ _ ⟨(blk_cell (blk_below HG.out HBq1.out) 0).trans rfl,(blk_cell (blk_below HG.out HBq1.out) 1).trans rfl⟩ (fun hHeld=>?_)
     clear hK K
     refine norm_ (a':=?_) ?_ ?_
     rotate_left
     ·show Act.put _ (some 34) _ = _
      simp only [Act.put,M.sq3,i64_w,i32_w]
      rfl
     refine two_ (i:=4) (j:=6) (Ni:=some 38) (Nj:=some 40) #[true,true,true,true,true,true,false,false,true,true,true,false,false] #[true,true,true,true,false,true,true,false,true,true,true,false,false] rfl rfl rfl rfl (by kernel_rfl) (by decide) (by decide) (fun K hK=>?_) (fun K hK=>?_)
     ·skip
      refine Kd.R_append_rows_step kRaw (w0:=w1) w1.heap.size (by rfl) (.tmp 34) (.tmp 37) 35 67 (.agg #[.int .i64 0,.slice none 0 0]) 32 rfl Try.underlying35 rawI rfl (by decide) (by omega) v0 ([]:List Raw) rt A k_ c (fun _=>True) (fun _=>False) rfl rfl (Kd.R_mono HOq1.out (fun _ _=>trivial)) (Kd.C_below HT1.out HBq1.out) (fun _ _ h=>h) (fun _ h=>h.elim) (fun _ _=>trivial) HBq1.out HBq1.out.size ?aL ?_
      case aL=>have:=HLL.out;first|omega|(simp;omega)
      intro v4 wq2 ho hb hg_ hn_
      have HOq2:=Aside0.mk (Kd.R_tight rfl ho)
      have HBq2:=Aside0.mk hb
      clear ho hb hg_ hn_ hHeld
      refine hK.out _ _ ⟨(blk_cell (blk_below HG.out HBq2.out) 0).trans rfl,(blk_cell (blk_below HG.out HBq2.out) 1).trans rfl⟩ (fun hHeld=>?_)
      clear hK K
      refine norm_ (a':=?_) ?_ ?_
      rotate_left
      ·show Act.put _ (some 38) _ = _
       simp only [Act.put,M.sq3,i64_w,i32_w]
       rfl
      refine one_ (i:=6) (N:=(some 40)) #[true,true,true,true,true,true,true,false,true,true,true,false,false] rfl rfl (one_of HT_.out (by kernel_rfl)) (by decide) (fun K hK=>?_)
      refine Kd.R_lit_step kRaw _ 67 ?hg (N:=40) ?hd (xs:=[(x.f0,AX,x.f1.length,cx)]) (inner:=[.int .i64 x.f0,.slice AX x.f1.length cx]) (ok:=fun _=>True) (okp:=fun _=>True) ?hr ?hp (fun _ hk=>hk) trivial HBq2.out HBq2.out.size (by simp) ?_
      case hd=>rfl
      case hg=>rfl
      case hr=>first|(go_simp;done)|(go_simp;rfl)
      case hp=>exact(Reps.c2 (show kRaw.M _ _ _ (x.f0,AX,x.f1.length,cx) [.int .i64 x.f0,.slice AX x.f1.length cx] from⟨_,_,rfl,rfl,rfl⟩) (Reps.none _ _))
      intro v6 wq3 ho hb hg_ hn_
      have HXq3:=Aside0.mk (Kd.R_tight rfl ho)
      have HBq3:=Aside0.mk hb
      have HOq3:=Aside0.mk (Kd.R_grown HOq2.out hg_ (fun _ _=>nen))
      have HNq3:Aside0 (∀k,some k=(v6:Value).ownBlock→some k≠(v4:Value).ownBlock):=⟨fun k h1 h2=>by
       obtain⟨b,e,hb2⟩:=hn_
       have hlt:=Kd.R_lt HOq2.out k (h2).symm
       rw [e] at h1
       cases h1
       omega⟩
      clear ho hb hg_ hn_ hHeld
      refine hK.out _ _ ⟨(blk_cell (blk_below HG.out HBq3.out) 0).trans rfl,(blk_cell (blk_below HG.out HBq3.out) 1).trans rfl⟩ (fun hHeld=>?_)
      clear hK K
      refine norm_ (a':=?_) ?_ ?_
      rotate_left
      ·show Act.put _ (some 40) _ = _
       simp only [Act.put,M.sq3,i64_w,i32_w]
       rfl
      exact norm_ (by simp only [putAll,Act.put,M.sq3]) (hCX.out (v0,v4,v6) _ ⟨HBq3.out,HOq3.out,HXq3.out⟩)
     skip
     refine Kd.R_lit_step kRaw _ 67 ?hg (N:=40) ?hd (xs:=[(x.f0,AX,x.f1.length,cx)]) (inner:=[.int .i64 x.f0,.slice AX x.f1.length cx]) (ok:=fun _=>True) (okp:=fun _=>True) ?hr ?hp (fun _ hk=>hk) trivial HBq1.out HBq1.out.size (by simp) ?_
     case hd=>rfl
     case hg=>rfl
     case hr=>first|(go_simp;done)|(go_simp;rfl)
     case hp=>exact(Reps.c2 (show kRaw.M _ _ _ (x.f0,AX,x.f1.length,cx) [.int .i64 x.f0,.slice AX x.f1.length cx] from⟨_,_,rfl,rfl,rfl⟩) (Reps.none _ _))
     intro v6 wq4 ho hb hg_ hn_
     have HXq4:=Aside0.mk (Kd.R_tight rfl ho)
     have HBq4:=Aside0.mk hb
     have HOq4:=Aside0.mk (Kd.R_grown HOq1.out hg_ (fun _ _=>nen))
     have HNq4:Aside0 (∀k,some k=(v6:Value).ownBlock→some k≠(v0:Value).ownBlock):=⟨fun k h1 h2=>by
      obtain⟨b,e,hb2⟩:=hn_
      have hlt:=Kd.R_lt HOq1.out k (h2).symm
      rw [e] at h1
      cases h1
      omega⟩
     clear ho hb hg_ hn_ hHeld
     refine hK.out _ _ ⟨(blk_cell (blk_below HG.out HBq4.out) 0).trans rfl,(blk_cell (blk_below HG.out HBq4.out) 1).trans rfl⟩ (fun hHeld=>?_)
     clear hK K
     refine norm_ (a':=?_) ?_ ?_
     rotate_left
     ·show Act.put _ (some 40) _ = _
      simp only [Act.put,M.sq3,i64_w,i32_w]
      rfl
     refine one_ (i:=4) (N:=(some 38)) #[true,true,true,true,true,true,true,false,true,true,true,false,false] rfl rfl (one_of HT_.out (by kernel_rfl)) (by decide) (fun K hK=>?_)
     refine Kd.R_append_rows_step kRaw (w0:=w1) w1.heap.size (by rfl) (.tmp 34) (.tmp 37) 35 67 (.agg #[.int .i64 0,.slice none 0 0]) 32 rfl Try.underlying35 rawI rfl (by decide) (by omega) v0 ([]:List Raw) rt A k_ c (fun _=>True) (fun _=>False) rfl rfl (Kd.R_mono HOq4.out (fun _ _=>trivial)) (Kd.C_below HT1.out HBq4.out) (fun _ _ h=>h) (fun _ h=>h.elim) (fun _ _=>trivial) HBq4.out HBq4.out.size ?aL ?_
     case aL=>have:=HLL.out;first|omega|(simp;omega)
     intro v4 wq5 ho hb hg_ hn_
     have HOq5:=Aside0.mk (Kd.R_tight rfl ho)
     have HBq5:=Aside0.mk hb
     have HXq5:=Aside0.mk (Kd.R_grown HXq4.out hg_ (fun k hk=>HNq4.out k hk))
     clear ho hb hg_ hn_ hHeld
     refine hK.out _ _ ⟨(blk_cell (blk_below HG.out HBq5.out) 0).trans rfl,(blk_cell (blk_below HG.out HBq5.out) 1).trans rfl⟩ (fun hHeld=>?_)
     clear hK K
     refine norm_ (a':=?_) ?_ ?_
     rotate_left
     ·show Act.put _ (some 38) _ = _
      simp only [Act.put,M.sq3,i64_w,i32_w]
      rfl
     exact norm_ (by simp only [putAll,Act.put,M.sq3]) (hCX.out (v0,v4,v6) _ ⟨HBq5.out,HOq5.out,HXq5.out⟩)
    skip
    refine Kd.R_lit_step kRaw _ 67 ?hg (N:=40) ?hd (xs:=[(x.f0,AX,x.f1.length,cx)]) (inner:=[.int .i64 x.f0,.slice AX x.f1.length cx]) (ok:=fun _=>True) (okp:=fun _=>True) ?hr ?hp (fun _ hk=>hk) trivial HBd.out HBd.out.size (by simp) ?_
    case hd=>rfl
    case hg=>rfl
    case hr=>first|(go_simp;done)|(go_simp;rfl)
    case hp=>exact(Reps.c2 (show kRaw.M _ _ _ (x.f0,AX,x.f1.length,cx) [.int .i64 x.f0,.slice AX x.f1.length cx] from⟨_,_,rfl,rfl,rfl⟩) (Reps.none _ _))
    intro v6 wq6 ho hb hg_ hn_
    have HXq6:=Aside0.mk (Kd.R_tight rfl ho)
    have HBq6:=Aside0.mk hb
    clear ho hb hg_ hn_ hHeld
    refine hK.out _ _ ⟨(blk_cell (blk_below HG.out HBq6.out) 0).trans rfl,(blk_cell (blk_below HG.out HBq6.out) 1).trans rfl⟩ (fun hHeld=>?_)
    clear hK K
    refine norm_ (a':=?_) ?_ ?_
    rotate_left
    ·show Act.put _ (some 40) _ = _
     simp only [Act.put,M.sq3,i64_w,i32_w]
     rfl
    refine one_ (i:=0) (N:=(some 34)) #[true,true,true,true,false,true,true,false,true,true,true,false,false] rfl rfl (one_of HT_.out (by kernel_rfl)) (by decide) (fun K hK=>?_)
    refine Kd.R_lit_step kRaw _ 67 ?hg (N:=34) ?hd (xs:=([]:List Raw)) (inner:=[]) (ok:=fun _=>True) (okp:=fun _=>True) ?hr ?hp (fun _ hk=>hk) trivial HBq6.out HBq6.out.size (by simp) ?_
    case hd=>rfl
    case hg=>rfl
    case hr=>first|(go_simp;done)|(go_simp;rfl)
    case hp=>exact(Reps.none _ _)
    intro v0 wq7 ho hb hg_ hn_
    have HOq7:=Aside0.mk (Kd.R_tight rfl ho)
    have HBq7:=Aside0.mk hb
    have HXq7:=Aside0.mk (Kd.R_grown HXq6.out hg_ (fun _ _=>nen))
    have HNq7:Aside0 (∀k,some k=(v6:Value).ownBlock→some k≠(v0:Value).ownBlock):=⟨fun k h1 h2=>by
     obtain⟨b,e,hb2⟩:=hn_
     have hlt:=Kd.R_lt HXq6.out k (h1).symm
     rw [e] at h2
     cases h2
     omega⟩
    clear ho hb hg_ hn_ hHeld
    refine hK.out _ _ ⟨(blk_cell (blk_below HG.out HBq7.out) 0).trans rfl,(blk_cell (blk_below HG.out HBq7.out) 1).trans rfl⟩ (fun hHeld=>?_)
    clear hK K
    refine norm_ (a':=?_) ?_ ?_
    rotate_left
    ·show Act.put _ (some 34) _ = _
     simp only [Act.put,M.sq3,i64_w,i32_w]
     rfl
    refine one_ (i:=4) (N:=(some 38)) #[true,true,true,true,true,true,true,false,true,true,true,false,false] rfl rfl (one_of HT_.out (by kernel_rfl)) (by decide) (fun K hK=>?_)
    refine Kd.R_append_rows_step kRaw (w0:=w1) w1.heap.size (by rfl) (.tmp 34) (.tmp 37) 35 67 (.agg #[.int .i64 0,.slice none 0 0]) 32 rfl Try.underlying35 rawI rfl (by decide) (by omega) v0 ([]:List Raw) rt A k_ c (fun _=>True) (fun _=>False) rfl rfl (Kd.R_mono HOq7.out (fun _ _=>trivial)) (Kd.C_below HT1.out HBq7.out) (fun _ _ h=>h) (fun _ h=>h.elim) (fun _ _=>trivial) HBq7.out HBq7.out.size ?aL ?_
    case aL=>have:=HLL.out;first|omega|(simp;omega)
    intro v4 wq8 ho hb hg_ hn_
    have HOq8:=Aside0.mk (Kd.R_tight rfl ho)
    have HBq8:=Aside0.mk hb
    have HXq8:=Aside0.mk (Kd.R_grown HXq7.out hg_ (fun k hk=>HNq7.out k hk))
    clear ho hb hg_ hn_ hHeld
    refine hK.out _ _ ⟨(blk_cell (blk_below HG.out HBq8.out) 0).trans rfl,(blk_cell (blk_below HG.out HBq8.out) 1).trans rfl⟩ (fun hHeld=>?_)
    clear hK K
    refine norm_ (a':=?_) ?_ ?_
    rotate_left
    ·show Act.put _ (some 38) _ = _
     simp only [Act.put,M.sq3,i64_w,i32_w]
     rfl
    exact norm_ (by simp only [putAll,Act.put,M.sq3]) (hCX.out (v0,v4,v6) _ ⟨HBq8.out,HOq8.out,HXq8.out⟩)
   rintro⟨v0,v4,v6⟩ wj ⟨hb,ho,hx⟩
   obtain⟨XA,xc,rfl⟩:=Kd.R_slice hx
   have HBj:=Aside0.mk hb
   have HOj:=Aside0.mk ho
   have HXj:=Aside0.mk hx
   clear hb ho hx HBd
   refine norm_ (a':=?_) ?_ ?_
   rotate_left
   ·simp only [putAll, Act.put, M.sq3, i64_w, i32_w]
    rfl
   refine one_ (i:=7) (N:=(some 41)) (pm 11 2) rfl rfl (one_of HT_.out (by kernel_rfl)) (by decide) (fun K hK=>?_)
   refine Kd.R_append_rows_step kRaw (w0:=w1) w1.heap.size (by rfl) (.tmp 38) (.tmp 40) 35 67 (.agg #[.int .i64 0,.slice none 0 0]) 32 rfl Try.underlying35 rawI rfl (by decide) (by omega) v4 (([]:List Raw) ++ rt) [(x.f0,AX,x.f1.length,cx)] XA [(x.f0,AX,x.f1.length,cx)].length xc (fun _=>True) (fun _=>False) rfl rfl (Kd.R_mono HOj.out (fun _ _=>trivial)) (Kd.R_reads' HXj.out).2.2 (fun _ _ h=>h) (fun _ h=>h.elim) (fun _ _=>trivial) HBj.out HBj.out.size ?aL ?_
   case aL=>have:=HLL.out;first|omega|(simp;omega)
   intro v7 wq9 ho hb hg_ hn_
   have HOq9:=Aside0.mk (Kd.R_tight rfl ho)
   have HBq9:=Aside0.mk hb
   clear ho hb hg_ hn_ hHeld
   refine hK.out _ _ ⟨(blk_cell (blk_below HG.out HBq9.out) 0).trans rfl,(blk_cell (blk_below HG.out HBq9.out) 1).trans rfl⟩ (fun hHeld=>?_)
   clear hK K
   refine norm_ (a':=?_) ?_ ?_
   rotate_left
   ·show Act.put _ (some 41) _ = _
    simp only [Act.put,M.sq3,i64_w,i32_w]
    rfl
   refine one_ (i:=11) (N:=(some 45)) (pm 12 1) rfl rfl (one_of HT_.out (by kernel_rfl)) (by decide) (fun K hK=>?_)
   refine Kd.R_append_rows_step kRaw (w0:=w1) w1.heap.size (by rfl) (.tmp 41) (.tmp 44) 35 67 (.agg #[.int .i64 0,.slice none 0 0]) 32 rfl Try.underlying35 rawI rfl (by decide) (by omega) v7 ((([]:List Raw) ++ rt) ++ [(x.f0,AX,x.f1.length,cx)]) rd_ AD nd (c - k_) (fun _=>True) (fun _=>False) rfl rfl (Kd.R_mono HOq9.out (fun _ _=>trivial)) (Kd.C_below HD1.out HBq9.out) (fun _ _ h=>h) (fun _ h=>h.elim) (fun _ _=>trivial) HBq9.out HBq9.out.size ?aL ?_
   case aL=>have:=HLL.out;first|omega|(simp;omega)
   intro v11 wq10 ho hb hg_ hn_
   have HOq10:=Aside0.mk (Kd.R_tight rfl ho)
   have HBq10:=Aside0.mk hb
   clear ho hb hg_ hn_ hHeld
   refine hK.out _ _ ⟨(blk_cell (blk_below HG.out HBq10.out) 0).trans rfl,(blk_cell (blk_below HG.out HBq10.out) 1).trans rfl⟩ (fun hHeld=>?_)
   clear hK K
   refine norm_ (a':=?_) ?_ ?_
   rotate_left
   ·show Act.put _ (some 45) _ = _
    simp only [Act.put,M.sq3,i64_w,i32_w]
    rfl
   have ho:=HOq10.out
   obtain⟨ro,hro⟩:∃r,r=(((([]:List Raw) ++ rt) ++ [(x.f0,AX,x.f1.length,cx)]) ++ rd_):=⟨_,rfl⟩
   rw [←hro] at ho
   have HRE:Aside0 (ro=rt ++ [(x.f0,AX,x.f1.length,cx)] ++ rd_):=⟨by rw [hro,List.nil_append]⟩
   clear hro
   obtain⟨RA,rc,rfl⟩:=Kd.R_slice ho
   have HRF:=Aside0.mk ho
   clear ho
   refine pn_ (v:=?_) (a':=?_) rfl (rfl (a:=some _)) (any_of HT_.out (by kernel_rfl)) (fun _ _ _ h=>h) (Or.inl ⟨by rfl,?_⟩) ?_ ?_;rotate_left;(intro w';go_simp;with_reducible rfl);rotate_left;(simp only [Act.put,M.sq3,i64_w,i32_w];rfl)
   refine done_ (done_of HT_.out (by kernel_rfl)) ?_
   have HRO:Aside0 (Kd.C kRaw wq10 RA ro.length ro∧ro.length≤rc):=⟨(Kd.R_reads' HRF.out).2.2,(Kd.R_reads' HRF.out).2.1⟩
   clear hcut1 hcut2
   go_wp2
   go_ret
   exact⟨RA,rc,ro,rfl,HRO.out.1,HRO.out.2,by rw [HRE.out];exact HRW.out.below HBq10.out,below_then HW.out HW.out.size HBq10.out⟩
 obtain⟨p_,hp_⟩:∃p,k_=p+1:=⟨k_ - 1,by omega⟩
 have q1:=decide_eq_true (show (k_:Int) > 0 by omega)
 have q2:=eq_true (show (k_:Int) > 0 by omega)
 have q5:=eq_true (show 0 < k_ by omega)
 have q6:wrap64 ((k_:Int) - 1)=(p_:Int):=by have h1:=Hk.out.1;have h2:=HL.out;unfold wrap64;omega
 have hpl:p_ < l.length:=by have h1:=HLN.out;have h2:=Hk.out.1;omega
 have hpr:p_ < rs.length:=by have h2:=Hk.out.1;omega
 obtain⟨A1,c1,hr1,HY1,HY2⟩:=(HR.out.get p_ hpr hpl).form
 obtain⟨y,hy⟩:∃y,y=l[p_]:=⟨_,rfl⟩
 have HGD:Aside0 (l.getD p_ ⟨0,[]⟩=y):=⟨by rw [List.getD_eq_getElem?_getD,List.getElem?_eq_getElem hpl,hy];rfl⟩
 have HYL:Aside0 (y.f1.length≤1000):=⟨HS.out y (by rw [hy];exact List.getElem_mem _)⟩
 rw [←hy] at hr1 HY1 HY2
 have HY:=Aside0.mk (And.intro HY1 HY2)
 obtain⟨ad,eA,p0,p1⟩:=at_raw HC.out.1 p_ (y.f0,A1,y.f1.length,c1) (by rw [←hr1];exact List.getElem?_eq_getElem _) hpr
 have HP:Aside0 (w1.cell? (ad.add (p_*2))=some (.int .i64 y.f0)∧w1.cell? ⟨(ad.add (p_*2)).block,(ad.add (p_*2)).off+1,none⟩=some (.slice A1 y.f1.length c1)):=⟨p0,p1⟩
 have q3:=eq_true (show (0:Int)≤(p_:Int) by omega)
 have q4:=eq_true (show (p_:Int) < (rs.length:Int) by omega)
 have HPK:=Aside0.mk hp_
 subst eA
 clear hpl hpr hr1 hy HY1 HY2 p0 p1 hp_ h0
 go_upto_region 2 with (fail)
 refine start_ (n:=11) (S:=fun w'=>w'.cell? ⟨gx,0,none⟩=some (.int .i64 x.f0)∧w'.cell? ⟨gx,1,none⟩=some (.slice AX x.f1.length cx)∧w'.cell? (ad.add (p_*2))=some (.int .i64 y.f0)∧w'.cell? ⟨(ad.add (p_*2)).block,(ad.add (p_*2)).off+1,none⟩=some (.slice A1 y.f1.length c1)) (ds:=[]) (pm 0 11) (by kernel_rfl) rfl rfl ⟨(blk_cell (blk_below HG.out (HB.out.trans (below_drew (Below.refl _ _)))) 0).trans rfl,(blk_cell (blk_below HG.out (HB.out.trans (below_drew (Below.refl _ _)))) 1).trans rfl,((HB.out.trans (below_drew (Below.refl _ _))).cell (World.block_lt_of_cell? _ _ HP.out.1)).trans HP.out.1,((HB.out.trans (below_drew (Below.refl _ _))).cell (World.block_lt_of_cell? _ _ HP.out.2)).trans HP.out.2⟩ (fun hHeld=>?_)
 have HB1:=Aside0.mk (HB.out.trans (below_drew (Below.refl _ _)))
 clear HB
 have HB:=HB1
 clear HB1
 obtain⟨wd,hwd⟩:∃W:World,W=wl.drew:=⟨_,rfl⟩
 rw [←hwd] at HB hHeld ⊢
 clear hwd
 try clear wl
 obtain⟨wl,rfl⟩:∃W:World,W=wd:=⟨_,rfl⟩
 iterate 9 (first|(refine pn_ (v:=?_) (a':=?_) rfl (rfl (a:=some _)) (by kernel_rfl) (fun _ _ _ h=>h) (Or.inl ⟨by rfl,?_⟩) ?_ ?_;rotate_left;(intro w';go_simp;with_reducible rfl);rotate_left;(simp only [Act.put,M.sq3,i64_w,i32_w];rfl))|(refine tn_ (v:=?_) (a':=?_) rfl (rfl (a:=some _)) (by kernel_rfl) (fun _ _ _ h=>h) (Or.inl ⟨by rfl,?_⟩) hHeld ?_ ?_;rotate_left;(intro w' hS_;obtain⟨s0,s1,s2,s3⟩:=hS_;go_simp;with_reducible rfl);rotate_left;(simp only [Act.put,M.sq3,i64_w,i32_w];rfl)))
 refine one_ (i:=9) (N:=(some 17)) (pm 10 1) rfl rfl (by kernel_rfl) (by decide) (fun K hK=>?_)
 refine goes_ Try.func53 (by kernel_rfl) rfl #[.agg #[.int .i64 x.f0,.slice AX x.f1.length cx],.agg #[.int .i64 y.f0,.slice A1 y.f1.length c1]] rfl rfl rfl (by(try simp only [List.map_toArray,List.map_cons,List.map_nil]);rfl) ?_
 refine(canopyref4_less.calls 2010 x.f0 AX cx x.f1 y.f0 A1 c1 y.f1 (lessB x y) _ (Kd.C_below HX.out.2 HB.out) HX.out.1 (Kd.C_below HY.out.2 HB.out) HY.out.1 (less_eq x y HSX.out)).mono ?_
 rintro e we ⟨rfl,hb⟩
 have HB1:=Aside0.mk (below_then HB.out HB.out.size hb)
 clear hb HB hHeld
 have HB:=HB1
 clear HB1
 refine⟨_,rfl,?_⟩
 refine hK.out _ _ ⟨(blk_cell (blk_below HG.out HB.out) 0).trans rfl,(blk_cell (blk_below HG.out HB.out) 1).trans rfl,(HB.out.cell (World.block_lt_of_cell? _ _ HP.out.1)).trans HP.out.1,(HB.out.cell (World.block_lt_of_cell? _ _ HP.out.2)).trans HP.out.2⟩ (fun hHeld=>?_)
 clear hK K
 obtain⟨wl,rfl⟩:∃W:World,W=we:=⟨_,rfl⟩
 refine norm_ (a':=?_) ?_ ?_
 rotate_left
 ·show Act.put _ (some 17) _ = _
  simp only [Act.put,M.sq3,i64_w,i32_w]
  rfl
 refine pn_ (v:=?_) (a':=?_) rfl (rfl (a:=some _)) (by kernel_rfl) (fun _ _ _ h=>h) (Or.inl ⟨by rfl,?_⟩) ?_ ?_;rotate_left;(intro w';go_simp;with_reducible rfl);rotate_left;(simp only [Act.put,M.sq3,i64_w,i32_w];rfl)
 refine done_ (by kernel_rfl) ?_
 obtain⟨bb,hbb⟩:∃b,b=lessB x y:=⟨_,rfl⟩
 rw [←hbb]
 have HBB:=Aside0.mk hbb
 clear hbb
 cases bb
 rotate_left
 ·as_aux_lemma=>
   have HK1:Aside0 (putK x l p_=putK x l l.length):=⟨by have h:=HK.out;rw [HPK.out,putK,HGD.out,if_pos HBB.out.symm] at h;exact h⟩
   go_wp2
   go_roundg p_
   case measure=>have h1:=HPK.out;have h2:=Hk.out;omega
   case rel=>exact⟨p_,by first|rfl|exact congrArg _ q6,⟨by have h1:=HPK.out;have h2:=Hk.out;omega,Nat.le_refl _⟩,HB,HK1⟩
 have HK0:Aside0 (putK x l l.length=k_):=⟨by rw [←HK.out,HPK.out,putK,HGD.out,if_neg (by rw [←HBB.out];decide)]⟩
 clear HK HBB
 go_upto_region 4 with (fail)
 refine start_ (n:=12) (S:=fun w'=>w'.cell? ⟨gx,0,none⟩=some (.int .i64 x.f0)∧w'.cell? ⟨gx,1,none⟩=some (.slice AX x.f1.length cx)∧w'.cell? (ad.add (p_*2))=some (.int .i64 y.f0)∧w'.cell? ⟨(ad.add (p_*2)).block,(ad.add (p_*2)).off+1,none⟩=some (.slice A1 y.f1.length c1)) (ds:=[]) (pm 0 12) (by kernel_rfl) rfl rfl ⟨(blk_cell (blk_below HG.out (HB.out.trans (below_drew (Below.refl _ _)))) 0).trans rfl,(blk_cell (blk_below HG.out (HB.out.trans (below_drew (Below.refl _ _)))) 1).trans rfl,((HB.out.trans (below_drew (Below.refl _ _))).cell (World.block_lt_of_cell? _ _ HP.out.1)).trans HP.out.1,((HB.out.trans (below_drew (Below.refl _ _))).cell (World.block_lt_of_cell? _ _ HP.out.2)).trans HP.out.2⟩ (fun hHeld=>?_)
 have HB1:=Aside0.mk (HB.out.trans (below_drew (Below.refl _ _)))
 clear HB
 have HB:=HB1
 clear HB1
 obtain⟨wd,hwd⟩:∃W:World,W=wl.drew:=⟨_,rfl⟩
 rw [←hwd] at HB hHeld ⊢
 clear hwd
 try clear wl
 obtain⟨wl,rfl⟩:∃W:World,W=wd:=⟨_,rfl⟩
 iterate 9 (first|(refine pn_ (v:=?_) (a':=?_) rfl (rfl (a:=some _)) (by kernel_rfl) (fun _ _ _ h=>h) (Or.inl ⟨by rfl,?_⟩) ?_ ?_;rotate_left;(intro w';go_simp;with_reducible rfl);rotate_left;(simp only [Act.put,M.sq3,i64_w,i32_w];rfl))|(refine tn_ (v:=?_) (a':=?_) rfl (rfl (a:=some _)) (by kernel_rfl) (fun _ _ _ h=>h) (Or.inl ⟨by rfl,?_⟩) hHeld ?_ ?_;rotate_left;(intro w' hS_;obtain⟨s0,s1,s2,s3⟩:=hS_;go_simp;with_reducible rfl);rotate_left;(simp only [Act.put,M.sq3,i64_w,i32_w];rfl)))
 refine one_ (i:=9) (N:=(some 30)) (pm 10 2) rfl rfl (by kernel_rfl) (by decide) (fun K hK=>?_)
 refine goes_ Try.func53 (by kernel_rfl) rfl #[.agg #[.int .i64 y.f0,.slice A1 y.f1.length c1],.agg #[.int .i64 x.f0,.slice AX x.f1.length cx]] rfl rfl rfl (by(try simp only [List.map_toArray,List.map_cons,List.map_nil]);rfl) ?_
 refine(canopyref4_less.calls 2010 y.f0 A1 c1 y.f1 x.f0 AX cx x.f1 (lessB y x) _ (Kd.C_below HY.out.2 HB.out) HY.out.1 (Kd.C_below HX.out.2 HB.out) HX.out.1 (less_eq y x HYL.out)).mono ?_
 rintro e we ⟨rfl,hb⟩
 have HB1:=Aside0.mk (below_then HB.out HB.out.size hb)
 clear hb HB hHeld
 have HB:=HB1
 clear HB1
 refine⟨_,rfl,?_⟩
 refine hK.out _ _ ⟨(blk_cell (blk_below HG.out HB.out) 0).trans rfl,(blk_cell (blk_below HG.out HB.out) 1).trans rfl,(HB.out.cell (World.block_lt_of_cell? _ _ HP.out.1)).trans HP.out.1,(HB.out.cell (World.block_lt_of_cell? _ _ HP.out.2)).trans HP.out.2⟩ (fun hHeld=>?_)
 clear hK K
 obtain⟨wl,rfl⟩:∃W:World,W=we:=⟨_,rfl⟩
 refine norm_ (a':=?_) ?_ ?_
 rotate_left
 ·show Act.put _ (some 30) _ = _
  simp only [Act.put,M.sq3,i64_w,i32_w]
  rfl
 iterate 2 (refine pn_ (v:=?_) (a':=?_) rfl (rfl (a:=some _)) (by kernel_rfl) (fun _ _ _ h=>h) (Or.inl ⟨by rfl,?_⟩) ?_ ?_;rotate_left;(intro w';go_simp;with_reducible rfl);rotate_left;(simp only [Act.put,M.sq3,i64_w,i32_w];rfl))
 refine done_ (by kernel_rfl) ?_
 obtain⟨bb,hbb⟩:∃b,b=lessB y x:=⟨_,rfl⟩
 rw [←hbb]
 have HBB:=Aside0.mk hbb
 clear hbb
 cases bb
 ·as_aux_lemma=>
   have HPL:Aside0 (putL x l=l):=⟨by unfold putL;rw [if_pos ⟨by rw [HK0.out,HPK.out];omega,by rw [HK0.out,HPK.out,Nat.add_sub_cancel,HGD.out];exact HBB.out.symm⟩]⟩
   go_wp2
   go_ret
   exact⟨some ad,c,rs,rfl,Kd.C_below HC.out.1 HB.out,HC.out.2,by rw [HPL.out];exact HR.out.below HB.out,below_then HW.out HW.out.size HB.out⟩
 have HPL:Aside0 (putL x l=l.take k_ ++ [x] ++ l.drop k_):=⟨by unfold putL;rw [HK0.out,if_neg (fun h=>by have h2:=h.2;rw [HPK.out,Nat.add_sub_cancel,HGD.out,←HBB.out] at h2;cases h2)]⟩
 have HKL:Aside0 (k_≤rs.length):=⟨Hk.out.1⟩
 clear HK0 HBB q1 q2 q3 q4 q5 q6 HP HGD Hk
 obtain⟨A,hA⟩:∃A:Option Addr,A=some ad:=⟨_,rfl⟩
 rw [←hA] at HC ⊢
 clear hA
 go_upto_region 6 with (fail)
 obtain⟨i0_,hi0,_,hsz0,_⟩:=info_parts rawI
 have hcut1:=cut_to (P:=Try.prog) 35 67 .i64 Try.underlying35 hi0 A rs.length c (k_:Int) (by omega) (by have:=HKL.out;omega) HC.out.2
 rw [Int.toNat_natCast] at hcut1
 have hcut2:=cut_from (P:=Try.prog) 35 67 .i64 Try.underlying35 hi0 2 hsz0 A rs.length c (k_:Int) (by omega) (by have:=HKL.out;omega)
 rw [Int.toNat_natCast] at hcut2
 obtain⟨AD,hAD⟩:∃A1,A1=(if c=k_ then A else (A:Option Addr).map (·.add (k_*2))):=⟨_,rfl⟩
 rw [←hAD] at hcut2
 have HD1:Aside0 (Kd.C kRaw w1 AD (rs.length - k_) (rs.drop k_)):=⟨by rw [hAD,←List.length_drop];exact Kd.C_drop (k:=kRaw) HC.out.1 HKL.out HC.out.2⟩
 have HT1:Aside0 (Kd.C kRaw w1 A k_ (rs.take k_)):=⟨by have h:=Kd.C_take HC.out.1 HKL.out;rw [List.length_take,Nat.min_eq_left HKL.out] at h;exact h⟩
 have HRW:Aside0 (RawsOf w1 (rs.take k_ ++ [(x.f0,AX,x.f1.length,cx)] ++ rs.drop k_) (putL x l)):=⟨by rw [HPL.out];exact RawsOf.app (HR.out.drop k_) (RawsOf.app (show RawsOf w1 [(x.f0,AX,x.f1.length,cx)] [x] from⟨⟨rfl,rfl,HX.out.1,HX.out.2⟩,trivial⟩) (HR.out.take k_))⟩
 obtain⟨rt,hrt⟩:∃r,r=rs.take k_:=⟨_,rfl⟩
 obtain⟨rd_,hrd⟩:∃r,r=rs.drop k_:=⟨_,rfl⟩
 obtain⟨nd,hnd⟩:∃n,n=rs.length - k_:=⟨_,rfl⟩
 have HLL:Aside0 (rt.length≤1000000∧k_≤1000000∧nd≤1000000):=⟨by have:=HL.out;have:=HKL.out;rw [hrt,hnd,List.length_take];omega⟩
 rw [←hrt] at HT1 HRW
 rw [←hrd] at HD1 HRW
 rw [←hnd] at HD1 hcut2
 clear hAD hrt hrd hnd hi0 hsz0
 refine start_ (n:=13) (S:=fun w'=>w'.cell? ⟨gx,0,none⟩=some (.int .i64 x.f0)∧w'.cell? ⟨gx,1,none⟩=some (.slice AX x.f1.length cx)) (ds:=[]) (pm 0 13) (by kernel_rfl) rfl rfl ⟨(blk_cell (blk_below HG.out (HB.out.trans (below_drew (Below.refl _ _)))) 0).trans rfl,(blk_cell (blk_below HG.out (HB.out.trans (below_drew (Below.refl _ _)))) 1).trans rfl⟩ (fun hHeld=>?_)
 refine with_tabW Pa6t.tab Pa6t.bits (fun HT_ HW_=>?_)
 have HBd:=Aside0.mk (HB.out.trans (below_drew (Below.refl _ _)))
 clear HB
 obtain⟨wd,hwd⟩:∃W:World,W=wl.drew:=⟨_,rfl⟩
 rw [←hwd] at HBd hHeld ⊢
 clear hwd
 try clear wl
 refine po_ 1 (v:=?_) (a':=?_) rfl (rfl (a:=some _)) (any_of HT_.out (by kernel_rfl)) (fun _ _ _ h=>h) (Or.inl ⟨by rfl,?_⟩) ?_ ?_;rotate_left;(intro w';go_simp;with_reducible rfl);rotate_left;(simp only [Act.put,M.sq3,i64_w,i32_w];rfl)
 refine po_ 2 (v:=?_) (a':=?_) rfl (rfl (a:=some _)) (any_of HT_.out (by kernel_rfl)) (fun _ _ _ h=>h) (Or.inl ⟨by rfl,?_⟩) ?_ ?_;rotate_left;(intro w';go_simp;with_reducible rfl);rotate_left;(simp only [Act.put,M.sq3,i64_w,i32_w];rfl)
 refine po_ 3 (v:=?_) (a':=?_) rfl (rfl (a:=some _)) (any_of HT_.out (by kernel_rfl)) (fun _ _ _ h=>h) (Or.inl ⟨by rfl,?_⟩) ?_ ?_;rotate_left;(intro w';go_simp;with_reducible rfl);rotate_left;(simp only [Act.put,M.sq3,i64_w,i32_w];rfl)
 refine to_ 5 (v:=?_) (a':=?_) rfl (rfl (a:=some _)) (take_ofW HT_.out HW_.out (by kernel_rfl)) (fun _ _ _ h=>h) (Or.inl ⟨by rfl,?_⟩) hHeld ?_ ?_;rotate_left;(intro w' hS_;obtain⟨s0,s1⟩:=hS_;go_simp;with_reducible rfl);rotate_left;(simp only [Act.put,M.sq3,i64_w,i32_w];rfl)
 refine po_ 8 (v:=?_) (a':=?_) rfl (rfl (a:=some _)) (any_of HT_.out (by kernel_rfl)) (fun _ _ _ h=>h) (Or.inl ⟨by rfl,?_⟩) ?_ ?_;rotate_left;(intro w';go_simp;with_reducible rfl);rotate_left;(simp only [Act.put,M.sq3,i64_w,i32_w];rfl)
 refine po_ 9 (v:=?_) (a':=?_) rfl (rfl (a:=some _)) (any_of HT_.out (by kernel_rfl)) (fun _ _ _ h=>h) (Or.inl ⟨by rfl,?_⟩) ?_ ?_;rotate_left;(intro w';go_simp;with_reducible rfl);rotate_left;(simp only [Act.put,M.sq3,i64_w,i32_w];rfl)
 refine po_ 10 (v:=?_) (a':=?_) rfl (rfl (a:=some _)) (any_of HT_.out (by kernel_rfl)) (fun _ _ _ h=>h) (Or.inl ⟨by rfl,?_⟩) ?_ ?_;rotate_left;(intro w';go_simp;with_reducible rfl);rotate_left;(simp only [Act.put,M.sq3,i64_w,i32_w];rfl)
 refine join_ (σ:=Value × Value × Value) 3 #[true,true,true,true,true,true,true,false,true,true,true,false,false] (fun s_=>[(34,s_.1),(38,s_.2.1),(40,s_.2.2)]) (fun s_ w'=>Below w1.heap.size w1 w'∧kRaw.R 67 w' w1.heap.size (fun k=>some k=s_.2.1.ownBlock) s_.2.1 (([]:List Raw) ++ rt)∧kRaw.R 67 w' w1.heap.size (fun k=>some k=s_.2.2.ownBlock) s_.2.2 [(x.f0,AX,x.f1.length,cx)]) ?_ ?_
 rotate_left
 ·intro hCont
  have hCX:=Aside0.mk hCont
  clear hCont
  refine two_ (i:=0) (j:=6) (Ni:=some 34) (Nj:=some 40) #[true,true,true,true,false,true,false,false,true,true,true,false,false] #[false,true,true,true,false,true,true,false,true,true,true,false,false] rfl rfl rfl rfl (by kernel_rfl) (by decide) (by decide) (fun K hK=>?_) (fun K hK=>?_)
  ·skip
   refine Kd.R_lit_step kRaw _ 67 ?hg (N:=34) ?hd (xs:=([]:List Raw)) (inner:=[]) (ok:=fun _=>True) (okp:=fun _=>True) ?hr ?hp (fun _ hk=>hk) trivial HBd.out HBd.out.size (by simp) ?_
   case hd=>rfl
   case hg=>rfl
   case hr=>first|(go_simp;done)|(go_simp;rfl)
   case hp=>exact(Reps.none _ _)
   intro v0 wq1 ho hb hg_ hn_
   have HOq1:=Aside0.mk (Kd.R_tight rfl ho)
   have HBq1:=Aside0.mk hb
   clear ho hb hg_ hn_ hHeld
   refine hK.out _ _ ⟨(blk_cell (blk_below HG.out HBq1.out) 0).trans rfl,(blk_cell (blk_below HG.out HBq1.out) 1).trans rfl⟩ (fun hHeld=>?_)
   clear hK K
   refine norm_ (a':=?_) ?_ ?_
   rotate_left
   ·show Act.put _ (some 34) _ = _
    simp only [Act.put,M.sq3,i64_w,i32_w]
    rfl
   refine two_ (i:=4) (j:=6) (Ni:=some 38) (Nj:=some 40) #[true,true,true,true,true,true,false,false,true,true,true,false,false] #[true,true,true,true,false,true,true,false,true,true,true,false,false] rfl rfl rfl rfl (by kernel_rfl) (by decide) (by decide) (fun K hK=>?_) (fun K hK=>?_)
   ·skip
    refine Kd.R_append_rows_step kRaw (w0:=w1) w1.heap.size (by rfl) (.tmp 34) (.tmp 37) 35 67 (.agg #[.int .i64 0,.slice none 0 0]) 32 rfl Try.underlying35 rawI rfl (by decide) (by omega) v0 ([]:List Raw) rt A k_ c (fun _=>True) (fun _=>False) rfl rfl (Kd.R_mono HOq1.out (fun _ _=>trivial)) (Kd.C_below HT1.out HBq1.out) (fun _ _ h=>h) (fun _ h=>h.elim) (fun _ _=>trivial) HBq1.out HBq1.out.size ?aL ?_
    case aL=>have:=HLL.out;first|omega|(simp;omega)
    intro v4 wq2 ho hb hg_ hn_
    have HOq2:=Aside0.mk (Kd.R_tight rfl ho)
    have HBq2:=Aside0.mk hb
    clear ho hb hg_ hn_ hHeld
    refine hK.out _ _ ⟨(blk_cell (blk_below HG.out HBq2.out) 0).trans rfl,(blk_cell (blk_below HG.out HBq2.out) 1).trans rfl⟩ (fun hHeld=>?_)
    clear hK K
    refine norm_ (a':=?_) ?_ ?_
    rotate_left
    ·show Act.put _ (some 38) _ = _
     simp only [Act.put,M.sq3,i64_w,i32_w]
     rfl
    refine one_ (i:=6) (N:=(some 40)) #[true,true,true,true,true,true,true,false,true,true,true,false,false] rfl rfl (one_of HT_.out (by kernel_rfl)) (by decide) (fun K hK=>?_)
    refine Kd.R_lit_step kRaw _ 67 ?hg (N:=40) ?hd (xs:=[(x.f0,AX,x.f1.length,cx)]) (inner:=[.int .i64 x.f0,.slice AX x.f1.length cx]) (ok:=fun _=>True) (okp:=fun _=>True) ?hr ?hp (fun _ hk=>hk) trivial HBq2.out HBq2.out.size (by simp) ?_
    case hd=>rfl
    case hg=>rfl
    case hr=>first|(go_simp;done)|(go_simp;rfl)
    case hp=>exact(Reps.c2 (show kRaw.M _ _ _ (x.f0,AX,x.f1.length,cx) [.int .i64 x.f0,.slice AX x.f1.length cx] from⟨_,_,rfl,rfl,rfl⟩) (Reps.none _ _))
    intro v6 wq3 ho hb hg_ hn_
    have HXq3:=Aside0.mk (Kd.R_tight rfl ho)
    have HBq3:=Aside0.mk hb
    have HOq3:=Aside0.mk (Kd.R_grown HOq2.out hg_ (fun _ _=>nen))
    have HNq3:Aside0 (∀k,some k=(v6:Value).ownBlock→some k≠(v4:Value).ownBlock):=⟨fun k h1 h2=>by
     obtain⟨b,e,hb2⟩:=hn_
     have hlt:=Kd.R_lt HOq2.out k (h2).symm
     rw [e] at h1
     cases h1
     omega⟩
    clear ho hb hg_ hn_ hHeld
    refine hK.out _ _ ⟨(blk_cell (blk_below HG.out HBq3.out) 0).trans rfl,(blk_cell (blk_below HG.out HBq3.out) 1).trans rfl⟩ (fun hHeld=>?_)
    clear hK K
    refine norm_ (a':=?_) ?_ ?_
    rotate_left
    ·show Act.put _ (some 40) _ = _
     simp only [Act.put,M.sq3,i64_w,i32_w]
     rfl
    exact norm_ (by simp only [putAll,Act.put,M.sq3]) (hCX.out (v0,v4,v6) _ ⟨HBq3.out,HOq3.out,HXq3.out⟩)
   skip
   refine Kd.R_lit_step kRaw _ 67 ?hg (N:=40) ?hd (xs:=[(x.f0,AX,x.f1.length,cx)]) (inner:=[.int .i64 x.f0,.slice AX x.f1.length cx]) (ok:=fun _=>True) (okp:=fun _=>True) ?hr ?hp (fun _ hk=>hk) trivial HBq1.out HBq1.out.size (by simp) ?_
   case hd=>rfl
   case hg=>rfl
   case hr=>first|(go_simp;done)|(go_simp;rfl)
   case hp=>exact(Reps.c2 (show kRaw.M _ _ _ (x.f0,AX,x.f1.length,cx) [.int .i64 x.f0,.slice AX x.f1.length cx] from⟨_,_,rfl,rfl,rfl⟩) (Reps.none _ _))
   intro v6 wq4 ho hb hg_ hn_
   have HXq4:=Aside0.mk (Kd.R_tight rfl ho)
   have HBq4:=Aside0.mk hb
   have HOq4:=Aside0.mk (Kd.R_grown HOq1.out hg_ (fun _ _=>nen))
   have HNq4:Aside0 (∀k,some k=(v6:Value).ownBlock→some k≠(v0:Value).ownBlock):=⟨fun k h1 h2=>by
    obtain⟨b,e,hb2⟩:=hn_
    have hlt:=Kd.R_lt HOq1.out k (h2).symm
    rw [e] at h1
    cases h1
    omega⟩
   clear ho hb hg_ hn_ hHeld
   refine hK.out _ _ ⟨(blk_cell (blk_below HG.out HBq4.out) 0).trans rfl,(blk_cell (blk_below HG.out HBq4.out) 1).trans rfl⟩ (fun hHeld=>?_)
   clear hK K
   refine norm_ (a':=?_) ?_ ?_
   rotate_left
   ·show Act.put _ (some 40) _ = _
    simp only [Act.put,M.sq3,i64_w,i32_w]
    rfl
   refine one_ (i:=4) (N:=(some 38)) #[true,true,true,true,true,true,true,false,true,true,true,false,false] rfl rfl (one_of HT_.out (by kernel_rfl)) (by decide) (fun K hK=>?_)
   refine Kd.R_append_rows_step kRaw (w0:=w1) w1.heap.size (by rfl) (.tmp 34) (.tmp 37) 35 67 (.agg #[.int .i64 0,.slice none 0 0]) 32 rfl Try.underlying35 rawI rfl (by decide) (by omega) v0 ([]:List Raw) rt A k_ c (fun _=>True) (fun _=>False) rfl rfl (Kd.R_mono HOq4.out (fun _ _=>trivial)) (Kd.C_below HT1.out HBq4.out) (fun _ _ h=>h) (fun _ h=>h.elim) (fun _ _=>trivial) HBq4.out HBq4.out.size ?aL ?_
   case aL=>have:=HLL.out;first|omega|(simp;omega)
   intro v4 wq5 ho hb hg_ hn_
   have HOq5:=Aside0.mk (Kd.R_tight rfl ho)
   have HBq5:=Aside0.mk hb
   have HXq5:=Aside0.mk (Kd.R_grown HXq4.out hg_ (fun k hk=>HNq4.out k hk))
   clear ho hb hg_ hn_ hHeld
   refine hK.out _ _ ⟨(blk_cell (blk_below HG.out HBq5.out) 0).trans rfl,(blk_cell (blk_below HG.out HBq5.out) 1).trans rfl⟩ (fun hHeld=>?_)
   clear hK K
   refine norm_ (a':=?_) ?_ ?_
   rotate_left
   ·show Act.put _ (some 38) _ = _
    simp only [Act.put,M.sq3,i64_w,i32_w]
    rfl
   exact norm_ (by simp only [putAll,Act.put,M.sq3]) (hCX.out (v0,v4,v6) _ ⟨HBq5.out,HOq5.out,HXq5.out⟩)
  skip
  refine Kd.R_lit_step kRaw _ 67 ?hg (N:=40) ?hd (xs:=[(x.f0,AX,x.f1.length,cx)]) (inner:=[.int .i64 x.f0,.slice AX x.f1.length cx]) (ok:=fun _=>True) (okp:=fun _=>True) ?hr ?hp (fun _ hk=>hk) trivial HBd.out HBd.out.size (by simp) ?_
  case hd=>rfl
  case hg=>rfl
  case hr=>first|(go_simp;done)|(go_simp;rfl)
  case hp=>exact(Reps.c2 (show kRaw.M _ _ _ (x.f0,AX,x.f1.length,cx) [.int .i64 x.f0,.slice AX x.f1.length cx] from⟨_,_,rfl,rfl,rfl⟩) (Reps.none _ _))
  intro v6 wq6 ho hb hg_ hn_
  have HXq6:=Aside0.mk (Kd.R_tight rfl ho)
  have HBq6:=Aside0.mk hb
  clear ho hb hg_ hn_ hHeld
  refine hK.out _ _ ⟨(blk_cell (blk_below HG.out HBq6.out) 0).trans rfl,(blk_cell (blk_below HG.out HBq6.out) 1).trans rfl⟩ (fun hHeld=>?_)
  clear hK K
  refine norm_ (a':=?_) ?_ ?_
  rotate_left
  ·show Act.put _ (some 40) _ = _
   simp only [Act.put,M.sq3,i64_w,i32_w]
   rfl
  refine one_ (i:=0) (N:=(some 34)) #[true,true,true,true,false,true,true,false,true,true,true,false,false] rfl rfl (one_of HT_.out (by kernel_rfl)) (by decide) (fun K hK=>?_)
  refine Kd.R_lit_step kRaw _ 67 ?hg (N:=34) ?hd (xs:=([]:List Raw)) (inner:=[]) (ok:=fun _=>True) (okp:=fun _=>True) ?hr ?hp (fun _ hk=>hk) trivial HBq6.out HBq6.out.size (by simp) ?_
  case hd=>rfl
  case hg=>rfl
  case hr=>first|(go_simp;done)|(go_simp;rfl)
  case hp=>exact(Reps.none _ _)
  intro v0 wq7 ho hb hg_ hn_
  have HOq7:=Aside0.mk (Kd.R_tight rfl ho)
  have HBq7:=Aside0.mk hb
  have HXq7:=Aside0.mk (Kd.R_grown HXq6.out hg_ (fun _ _=>nen))
  have HNq7:Aside0 (∀k,some k=(v6:Value).ownBlock→some k≠(v0:Value).ownBlock):=⟨fun k h1 h2=>by
   obtain⟨b,e,hb2⟩:=hn_
   have hlt:=Kd.R_lt HXq6.out k (h1).symm
   rw [e] at h2
   cases h2
   omega⟩
  clear ho hb hg_ hn_ hHeld
  refine hK.out _ _ ⟨(blk_cell (blk_below HG.out HBq7.out) 0).trans rfl,(blk_cell (blk_below HG.out HBq7.out) 1).trans rfl⟩ (fun hHeld=>?_)
  clear hK K
  refine norm_ (a':=?_) ?_ ?_
  rotate_left
  ·show Act.put _ (some 34) _ = _
   simp only [Act.put,M.sq3,i64_w,i32_w]
   rfl
  refine one_ (i:=4) (N:=(some 38)) #[true,true,true,true,true,true,true,false,true,true,true,false,false] rfl rfl (one_of HT_.out (by kernel_rfl)) (by decide) (fun K hK=>?_)
  refine Kd.R_append_rows_step kRaw (w0:=w1) w1.heap.size (by rfl) (.tmp 34) (.tmp 37) 35 67 (.agg #[.int .i64 0,.slice none 0 0]) 32 rfl Try.underlying35 rawI rfl (by decide) (by omega) v0 ([]:List Raw) rt A k_ c (fun _=>True) (fun _=>False) rfl rfl (Kd.R_mono HOq7.out (fun _ _=>trivial)) (Kd.C_below HT1.out HBq7.out) (fun _ _ h=>h) (fun _ h=>h.elim) (fun _ _=>trivial) HBq7.out HBq7.out.size ?aL ?_
  case aL=>have:=HLL.out;first|omega|(simp;omega)
  intro v4 wq8 ho hb hg_ hn_
  have HOq8:=Aside0.mk (Kd.R_tight rfl ho)
  have HBq8:=Aside0.mk hb
  have HXq8:=Aside0.mk (Kd.R_grown HXq7.out hg_ (fun k hk=>HNq7.out k hk))
  clear ho hb hg_ hn_ hHeld
  refine hK.out _ _ ⟨(blk_cell (blk_below HG.out HBq8.out) 0).trans rfl,(blk_cell (blk_below HG.out HBq8.out) 1).trans rfl⟩ (fun hHeld=>?_)
  clear hK K
  refine norm_ (a':=?_) ?_ ?_
  rotate_left
  ·show Act.put _ (some 38) _ = _
   simp only [Act.put,M.sq3,i64_w,i32_w]
   rfl
  exact norm_ (by simp only [putAll,Act.put,M.sq3]) (hCX.out (v0,v4,v6) _ ⟨HBq8.out,HOq8.out,HXq8.out⟩)
 rintro⟨v0,v4,v6⟩ wj ⟨hb,ho,hx⟩
 obtain⟨XA,xc,rfl⟩:=Kd.R_slice hx
 have HBj:=Aside0.mk hb
 have HOj:=Aside0.mk ho
 have HXj:=Aside0.mk hx
 clear hb ho hx HBd
 refine norm_ (a':=?_) ?_ ?_
 rotate_left
 ·simp only [putAll, Act.put, M.sq3, i64_w, i32_w]
  rfl
 refine one_ (i:=7) (N:=(some 41)) (pm 11 2) rfl rfl (one_of HT_.out (by kernel_rfl)) (by decide) (fun K hK=>?_)
 refine Kd.R_append_rows_step kRaw (w0:=w1) w1.heap.size (by rfl) (.tmp 38) (.tmp 40) 35 67 (.agg #[.int .i64 0,.slice none 0 0]) 32 rfl Try.underlying35 rawI rfl (by decide) (by omega) v4 (([]:List Raw) ++ rt) [(x.f0,AX,x.f1.length,cx)] XA [(x.f0,AX,x.f1.length,cx)].length xc (fun _=>True) (fun _=>False) rfl rfl (Kd.R_mono HOj.out (fun _ _=>trivial)) (Kd.R_reads' HXj.out).2.2 (fun _ _ h=>h) (fun _ h=>h.elim) (fun _ _=>trivial) HBj.out HBj.out.size ?aL ?_
 case aL=>have:=HLL.out;first|omega|(simp;omega)
 intro v7 wq9 ho hb hg_ hn_
 have HOq9:=Aside0.mk (Kd.R_tight rfl ho)
 have HBq9:=Aside0.mk hb
 clear ho hb hg_ hn_ hHeld
 refine hK.out _ _ ⟨(blk_cell (blk_below HG.out HBq9.out) 0).trans rfl,(blk_cell (blk_below HG.out HBq9.out) 1).trans rfl⟩ (fun hHeld=>?_)
 clear hK K
 refine norm_ (a':=?_) ?_ ?_
 rotate_left
 ·show Act.put _ (some 41) _ = _
  simp only [Act.put,M.sq3,i64_w,i32_w]
  rfl
 refine one_ (i:=11) (N:=(some 45)) (pm 12 1) rfl rfl (one_of HT_.out (by kernel_rfl)) (by decide) (fun K hK=>?_)
 refine Kd.R_append_rows_step kRaw (w0:=w1) w1.heap.size (by rfl) (.tmp 41) (.tmp 44) 35 67 (.agg #[.int .i64 0,.slice none 0 0]) 32 rfl Try.underlying35 rawI rfl (by decide) (by omega) v7 ((([]:List Raw) ++ rt) ++ [(x.f0,AX,x.f1.length,cx)]) rd_ AD nd (c - k_) (fun _=>True) (fun _=>False) rfl rfl (Kd.R_mono HOq9.out (fun _ _=>trivial)) (Kd.C_below HD1.out HBq9.out) (fun _ _ h=>h) (fun _ h=>h.elim) (fun _ _=>trivial) HBq9.out HBq9.out.size ?aL ?_
 case aL=>have:=HLL.out;first|omega|(simp;omega)
 intro v11 wq10 ho hb hg_ hn_
 have HOq10:=Aside0.mk (Kd.R_tight rfl ho)
 have HBq10:=Aside0.mk hb
 clear ho hb hg_ hn_ hHeld
 refine hK.out _ _ ⟨(blk_cell (blk_below HG.out HBq10.out) 0).trans rfl,(blk_cell (blk_below HG.out HBq10.out) 1).trans rfl⟩ (fun hHeld=>?_)
 clear hK K
 refine norm_ (a':=?_) ?_ ?_
 rotate_left
 ·show Act.put _ (some 45) _ = _
  simp only [Act.put,M.sq3,i64_w,i32_w]
  rfl
 have ho:=HOq10.out
 obtain⟨ro,hro⟩:∃r,r=(((([]:List Raw) ++ rt) ++ [(x.f0,AX,x.f1.length,cx)]) ++ rd_):=⟨_,rfl⟩
 rw [←hro] at ho
 have HRE:Aside0 (ro=rt ++ [(x.f0,AX,x.f1.length,cx)] ++ rd_):=⟨by rw [hro,List.nil_append]⟩
 clear hro
 obtain⟨RA,rc,rfl⟩:=Kd.R_slice ho
 have HRF:=Aside0.mk ho
 clear ho
 refine pn_ (v:=?_) (a':=?_) rfl (rfl (a:=some _)) (any_of HT_.out (by kernel_rfl)) (fun _ _ _ h=>h) (Or.inl ⟨by rfl,?_⟩) ?_ ?_;rotate_left;(intro w';go_simp;with_reducible rfl);rotate_left;(simp only [Act.put,M.sq3,i64_w,i32_w];rfl)
 refine done_ (done_of HT_.out (by kernel_rfl)) ?_
 have HRO:Aside0 (Kd.C kRaw wq10 RA ro.length ro∧ro.length≤rc):=⟨(Kd.R_reads' HRF.out).2.2,(Kd.R_reads' HRF.out).2.1⟩
 clear hcut1 hcut2
 go_wp2
 go_ret
 exact⟨RA,rc,ro,rfl,HRO.out.1,HRO.out.2,by rw [HRE.out];exact HRW.out.below HBq10.out,below_then HW.out HW.out.size HBq10.out⟩
end Go.Proofs.Ytjkhdldgmkkhjaa.P
