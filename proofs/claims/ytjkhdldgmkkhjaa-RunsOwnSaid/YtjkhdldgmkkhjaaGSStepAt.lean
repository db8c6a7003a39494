/- Words and walks of this claim: SStepAt. -/
import Derived.Test.YtjkhdldgmkkhjaaGMFar
import Derived.Test.YtjkhdldgmkkhjaaGMIntsEtc
import Derived.BigQuiet
set_option linter.unusedVariables false
set_option linter.unusedSimpArgs false
set_option linter.unnecessarySimpa false
namespace Go.Proofs.Ytjkhdldgmkkhjaa.P
open Go.RowKit Go.Proofs.YtjkhdldgmkkhjaaW.PrintWords Go.Proofs.YtjkhdldgmkkhjaaW.PrintLast Go.Proofs.YtjkhdldgmkkhjaaW.PrintMore Go.Proofs.Ytjkhdldgmkkhjaa.M
theorem headD_get (l:List Int) (h:0 < l.length):l.headD 0=l[0]:=by
 cases l with
 | nil=>simp at h
 | cons a t=>rfl
def mvN (x:RAt) (s:Int) (r:TInner):List RAt:=if r.f0=x.f0∧r.f1=s then [⟨r.f2,x.f1⟩] else []
def mvO (x:RAt) (s:Int) (r:TOpen):List RAt:=if r.f0=x.f0∧r.f1=s then [⟨r.f2,r.f3 :: x.f1⟩] else []
def mvC (x:RAt) (s:Int) (r:TClose):List RAt:=if r.f0=x.f0∧r.f1=s∧r.f2=x.f1.headD 0 then [⟨r.f3,x.f1.tail⟩] else []
def stR (os:List TOpen) (cs:List TClose) (is:List TInner) (x:RAt) (s:Int):List RAt:=is.flatMap (mvN x s) ++ os.flatMap (mvO x s) ++ cs.flatMap (mvC x s)
theorem rawI2:(Try.prog.info? 67).map (fun i=>(i.zero,i.size,i.bytes))=some (some (.agg #[.int .i64 0,.slice none 0 0]),2,32):=by kernel_rfl
def RawR (w:World) (B:Nat) (r:Raw) (x:RAt):Prop:=r.1=x.f0∧Kd.R (Kd.int .i64) 3 w B (fun k=>some k=(rawV r.2).ownBlock) (rawV r.2) x.f1
def RawsR (w:World) (B:Nat):List Raw→List RAt→Prop
 | [],[]=>True
 | r :: rs,x :: xs=>RawR w B r x∧RawsR w B rs xs
 | _,_=>False
theorem RawsR.imp {w w' : World} {B:Nat} (h:∀r x,RawR w B r x→RawR w' B r x):∀{rs:List Raw} {xs:List RAt},RawsR w B rs xs→RawsR w' B rs xs
 | [],[],_=>trivial
 | _ :: _,_ :: _,⟨h1,h2⟩=>⟨h _ _ h1,RawsR.imp h h2⟩
 | [],_ :: _,h=>h.elim
 | _ :: _,[],h=>h.elim
theorem RawsR.app {w:World} {B:Nat} {rs2:List Raw} {xs2:List RAt} (h2:RawsR w B rs2 xs2):∀{rs:List Raw} {xs:List RAt},RawsR w B rs xs→RawsR w B (rs ++ rs2) (xs ++ xs2)
 | [],[],_=>h2
 | _ :: _,_ :: _,⟨h1,h3⟩=>⟨h1,RawsR.app h2 h3⟩
 | [],_ :: _,h=>h.elim
 | _ :: _,[],h=>h.elim
theorem RawR.of {w:World} {B:Nat} {r:Raw} {x:RAt} (h:RawR w B r x):RawOf w r x:=by
 obtain⟨h1,h2⟩:=h
 obtain⟨a,b,c⟩:=Kd.R_reads' h2
 exact⟨h1,a,by rw [←a];exact b,c⟩
theorem RawsR.of {w:World} {B:Nat} : ∀{rs:List Raw} {xs:List RAt},RawsR w B rs xs→RawsOf w rs xs
 | [],[],_=>trivial
 | _ :: _,_ :: _,⟨h1,h2⟩=>⟨h1.of,RawsR.of h2⟩
 | [],_ :: _,h=>h.elim
 | _ :: _,[],h=>h.elim
theorem RawR.grown {w w' : World} {B:Nat} {r:Raw} {x:RAt} (h:RawR w B r x) (hg:w.grownBy w' none):RawR w' B r x:=⟨h.1,Kd.R_grown h.2 hg (fun _ _=>nen)⟩
theorem RawR.below {w w' : World} {B:Nat} {r:Raw} {x:RAt} (h:RawR w B r x) (hb:Below w.heap.size w w'):RawR w' B r x:=⟨h.1,Kd.R_below h.2 hb⟩
theorem RawR.over {w w' : World} {B B' : Nat} {ok:Nat→Prop} {r:Raw} {x:RAt} (h:RawR w B r x) {v:Value} {rs:List Raw} (hv:Kd.R kRaw 67 w B' ok v rs) (hg:w.grownBy w' v.ownBlock):RawR w' B r x:=
 ⟨h.1,Kd.R_over' h.2 (Kd.R_typed hv) (by intro q hq;rcases List.mem_cons.1 hq with rfl|hq;decide;cases hq) hg⟩
structure SR (w1 w' : World) (v:Value) (rs:List Raw) (l:List RAt):Prop where
 b:Below w1.heap.size w1 w'
 r:Kd.R kRaw 67 w' w1.heap.size (fun k=>some k=v.ownBlock) v rs
 m:RawsR w' w1.heap.size rs l
theorem SR.below {w1 w' w2:World} {v:Value} {rs:List Raw} {l:List RAt} (h:SR w1 w' v rs l) (hb:Below w'.heap.size w' w2):SR w1 w2 v rs l:=⟨below_then h.b h.b.size hb,Kd.R_below h.r hb,RawsR.imp (fun _ _ q=>q.below hb) h.m⟩
theorem SR.grown {w1 w' w2:World} {v:Value} {rs:List Raw} {l:List RAt} (h:SR w1 w' v rs l) (hb:Below w1.heap.size w1 w2) (hg:w'.grownBy w2 none):SR w1 w2 v rs l:=⟨hb,Kd.R_grown h.r hg (fun _ _=>nen),RawsR.imp (fun _ _ q=>q.grown hg) h.m⟩
theorem SR.overI {w1 w' w2:World} {v u:Value} {rs:List Raw} {l:List RAt} {ys:List Int} {B:Nat} {ok:Nat→Prop} (h:SR w1 w' v rs l) (hb:Below w1.heap.size w1 w2) (hu:Kd.R (Kd.int .i64) 3 w' B ok u ys) (hg:w'.grownBy w2 u.ownBlock) (hn:∀r∈rs,∀k,some k=(rawV r.2).ownBlock→some k≠u.ownBlock):SR w1 w2 v rs l:=by
 refine⟨hb,Kd.R_over' h.r (Kd.R_typed hu) (by intro q hq;rcases List.mem_cons.1 hq with rfl|hq;decide;cases hq) hg,?_⟩
 have hm:=h.m
 clear h
 revert hm hn
 have go:∀(rs:List Raw) (l:List RAt),(∀r∈rs,∀k,some k=(rawV r.2).ownBlock→some k≠u.ownBlock)→RawsR w' w1.heap.size rs l→RawsR w2 w1.heap.size rs l:=by
  intro rs
  induction rs with
  | nil=>intro l _ hm;cases l with|nil=>trivial|cons _ _=>exact hm.elim
  | cons r rs ih=>
   intro l hn hm
   cases l with
   | nil=>exact hm.elim
   | cons x xs=>exact⟨⟨hm.1.1,Kd.R_grown hm.1.2 hg (fun k hk=>hn r List.mem_cons_self k hk)⟩,ih xs (fun q hq=>hn q (List.mem_cons_of_mem _ hq)) hm.2⟩
 exact go rs l
theorem RawsR.lt {w:World} {B:Nat} : ∀{rs:List Raw} {xs:List RAt},RawsR w B rs xs→∀r∈rs,∀k,some k=(rawV r.2).ownBlock→k < w.heap.size
 | _ :: _,_ :: _,⟨h1,h2⟩,r,hr,k,hk=>by
  rcases List.mem_cons.1 hr with rfl|hr
  ·exact Kd.R_lt h1.2 k hk.symm
  exact RawsR.lt h2 r hr k hk
 | [],_,_,r,hr,_,_=>by cases hr
 | _ :: _,[],h,_,_,_,_=>h.elim
def St7t.T:Bool × List (List Nat × List Nat):=(true,[([],[]),([],[]),([1],[1]),([],[]),([],[]),([4],[4]),([3,5],[3,5]),([2,6],[2,6]),([7],[7]),([0,8,6],[0,8]),([9,9,0,1,2,3,4,5,6,7,8,9],[0,9])])
def St7t.B:List Nat:=[0,0,2,0,0,16,56,126,254,511,1023]
theorem St7t.tab:rtab .any (opsOf Try.f38 7)=St7t.T:=by kernel_rfl
theorem St7t.bits:waitsOk St7t.T.2 St7t.B=true:=by kernel_rfl
def St13t.T:Bool × List (List Nat × List Nat):=(true,[([],[]),([],[]),([1],[1]),([],[]),([3],[3]),([4],[4]),([],[]),([6],[6]),([5,7],[5,7]),([2,8],[2,8]),([9],[9]),([0,10,8],[0,10]),([11,11,0,1,2,3,4,5,6,7,8,9,10,11],[0,11])])
def St13t.B:List Nat:=[0,0,2,0,8,24,0,64,248,510,1022,2047,4095]
theorem St13t.tab:rtab .any (opsOf Try.f38 13)=St13t.T:=by kernel_rfl
theorem St13t.bits:waitsOk St13t.T.2 St13t.B=true:=by kernel_rfl
def St22t.T:Bool × List (List Nat × List Nat):=(true,[([],[]),([],[]),([1],[1]),([],[]),([],[]),([4],[4]),([5],[5]),([3,6],[3,6]),([2,7],[2,7]),([8],[8]),([0,9,7],[0,9]),([10,10,0,1,2,3,4,5,6,7,8,9,10],[0,10])])
def St22t.B:List Nat:=[0,0,2,0,0,16,48,120,254,510,1023,2047]
theorem St22t.tab:rtab .any (opsOf Try.f38 22)=St22t.T:=by kernel_rfl
theorem St22t.bits:waitsOk St22t.T.2 St22t.B=true:=by kernel_rfl
set_option maxHeartbeats 16000000 in
set_option maxRecDepth 100000 in
theorem step_own (n g:Int) (A2:Option Addr) (c2:Nat) (l2:List Int) (A3:Option Addr) (c3:Nat) (l3:List Int) (A4:Option Addr) (c4:Nat) (l4:List TOpen) (A5:Option Addr) (c5:Nat) (l5:List TClose) (A6:Option Addr) (c6:Nat) (l6:List TInner) (AX:Option Addr) (cx:Nat) (x:RAt) (s:Int) (w:World) (h2:Kd.C (Kd.int .i64) w A2 l2.length l2) (hc2:l2.length≤c2) (hl2:l2.length≤1000000) (h3:Kd.C (Kd.int .i64) w A3 l3.length l3) (hc3:l3.length≤c3) (hl3:l3.length≤1000000) (h4:Kd.C k52 w A4 l4.length l4) (hc4:l4.length≤c4) (hl4:l4.length≤1000000) (h5:Kd.C k54 w A5 l5.length l5) (hc5:l5.length≤c5) (hl5:l5.length≤1000000) (h6:Kd.C k56 w A6 l6.length l6) (hc6:l6.length≤c6) (hl6:l6.length≤1000000) (hx1:x.f1.length≤cx) (hx2:Kd.C (Kd.int .i64) w AX x.f1.length x.f1) (hxl:x.f1.length≤1000) :
 Calls Try.prog 38 #[.agg #[.int .i64 n,.int .i64 g,.slice A2 l2.length c2,.slice A3 l3.length c3,.slice A4 l4.length c4,.slice A5 l5.length c5,.slice A6 l6.length c6],.agg #[.int .i64 x.f0,.slice AX x.f1.length cx],.int .i64 s] w fun e w'=>∃A' c' rs,e=.returned (.slice A' rs.length c')∧Kd.C kRaw w' A' rs.length rs∧rs.length≤c'∧RawsOf w' rs (stR l4 l5 l6 x s)∧Below w.heap.size w w':=by
 have HI2:=Aside0.mk (And.intro h2 (And.intro hc2 hl2))
 have HI3:=Aside0.mk (And.intro h3 (And.intro hc3 hl3))
 have HI4:=Aside0.mk (And.intro h4 (And.intro hc4 hl4))
 have HI5:=Aside0.mk (And.intro h5 (And.intro hc5 hl5))
 have HI6:=Aside0.mk (And.intro h6 (And.intro hc6 hl6))
 have HX:=Aside0.mk (And.intro hx1 hx2)
 have HXL:=Aside0.mk hxl
 clear hx1 hx2 hxl h2 hc2 hl2 h3 hc3 hl3 h4 hc4 hl4 h5 hc5 hl5 h6 hc6 hl6
 go_enter Try.func38,Try.ntmps38
 go_upto_region 1 with (fail)
 obtain⟨w1,hw1⟩:∃W:World,W=(w.alloc (.cells #[.int .i64 n,.int .i64 g,.slice A2 l2.length c2,.slice A3 l3.length c3,.slice A4 l4.length c4,.slice A5 l5.length c5,.slice A6 l6.length c6] 30)).alloc (.cells #[.int .i64 x.f0,.slice AX x.f1.length cx] 67):=⟨_,rfl⟩
 have HA:Aside0 (w1.heap[w.heap.size]? = some (.cells #[.int .i64 n,.int .i64 g,.slice A2 l2.length c2,.slice A3 l3.length c3,.slice A4 l4.length c4,.slice A5 l5.length c5,.slice A6 l6.length c6] 30 (0,0))):=⟨by rw [hw1];exact blk_old (blk_newAt _ rfl) _⟩
 have HG:Aside0 (w1.heap[w.heap.size+1]? = some (.cells #[.int .i64 x.f0,.slice AX x.f1.length cx] 67 (0,0))):=⟨by rw [hw1];exact blk_newAt _ (by simp only [size_alloc])⟩
 have HW:Aside0 (Below w.heap.size w w1):=⟨by rw [hw1];exact below_alloc (below_alloc (Below.refl _ _) _) _⟩
 rw [←hw1]
 clear hw1
 obtain⟨gx,hgx⟩:∃g,g=w.heap.size+1:=⟨_,rfl⟩
 rw [←hgx] at HG ⊢
 clear hgx
 obtain⟨ga,hga⟩:∃g,g=w.heap.size:=⟨_,rfl⟩
 rewrite [←hga] at HA ⊢
 clear hga
 have HJ4:=Aside0.mk (And.intro (Kd.C_below HI4.out.1 HW.out) HI4.out.2)
 have HJ5:=Aside0.mk (And.intro (Kd.C_below HI5.out.1 HW.out) HI5.out.2)
 have HJ6:=Aside0.mk (And.intro (Kd.C_below HI6.out.1 HW.out) HI6.out.2)
 have HX1:=Aside0.mk (And.intro HX.out.1 (Kd.C_below HX.out.2 HW.out))
 clear HX HI2 HI3 HI4 HI5 HI6
 have HX:=HX1
 clear HX1
 have HR:Aside0 (SR w1 w1 (.slice none 0 0) [] (l6.take 0 |>.flatMap (mvN x s))):=⟨⟨Below.refl _ _,Kd.R_nil _ _ _ _ _,trivial⟩⟩
 have HRL:Aside0 (([]:List Raw).length≤0):=⟨Nat.le_refl _⟩
 go_wp2
 go_loopg [7,8] l6.length (fun gk u_ vi w'=>∃(i_:Nat) (rs:List Raw),vi=.int .i64 (i_:Int)∧Aside0 (i_≤l6.length∧l6.length - i_≤gk)∧Aside0 (SR w1 w' u_ rs ((l6.take i_).flatMap (mvN x s)))∧Aside0 (rs.length≤0+i_))
 case atStart=>exact⟨0,_,rfl,⟨by omega,by omega⟩,HR,HRL⟩
 case' round=>skip
 try clear s3
 clear HR HRL
 try clear ru_
 obtain⟨i_,rs,rfl,Hi,HR,HRL⟩:=hrel
 try clear wl
 obtain⟨wl,rfl⟩:∃W:World,W=wr:=⟨_,rfl⟩
 have t6:wl.cell? ⟨ga,6,none⟩=some (.slice A6 l6.length c6):=(blk_cell (blk_below HA.out HR.out.b) 6).trans rfl
 have hsl:=HR.out.r
 obtain⟨UA,uc,rfl⟩:=Kd.R_slice hsl
 clear hsl
 by_cases hl_:i_ < l6.length
 ·as_aux_lemma=>
   have HLT:=Aside0.mk hl_
   obtain⟨ad,eA,e0,e1,e2⟩:=at_T56 (Kd.C_below HJ6.out.1 HR.out.b) (i_:Int) (by omega) (by omega)
   have hrd:rd_T56 l6 (i_:Int)=l6[i_]:=by unfold rd_T56;rw [Int.toNat_natCast,List.getD_eq_getElem?_getD,List.getElem?_eq_getElem hl_];rfl
   rw [hrd,Int.toNat_natCast] at e0 e1 e2
   have HNX:Aside0 ((l6.take (i_+1)).flatMap (mvN x s)=(l6.take i_).flatMap (mvN x s) ++ mvN x s l6[i_]):=⟨by rw [List.take_add_one,List.getElem?_eq_getElem hl_,List.flatMap_append];simp⟩
   generalize l6[i_]=r_ at HNX e0 e1 e2
   obtain⟨y0,y1,y2⟩:=r_
   obtain⟨lr,hlr⟩:∃l,l=(l6.take i_).flatMap (mvN x s):=⟨_,rfl⟩
   rw [←hlr] at HR
   have HLR:=Aside0.mk hlr
   have s3:=eq_true (show (i_:Int) < (l6.length:Int) by omega)
   have s4:=eq_true (show (0:Int)≤(i_:Int) by omega)
   subst eA
   clear hrd hl_ hlr
   go_upto_region 6 with (fail)
   obtain⟨rb,hrb⟩:∃g,g=wl.heap.size:=⟨_,rfl⟩
   have HRB:Aside0 ((wl.alloc (.cells #[.int .i64 y0,.int .i64 y1,.int .i64 y2] 56)).heap[rb]? = some (.cells #[.int .i64 y0,.int .i64 y1,.int .i64 y2] 56 (0,0))):=⟨by rw [hrb];exact blk_newAt _ rfl⟩
   have HR1:=Aside0.mk (HR.out.below (below_alloc (Below.refl _ _) (.cells #[.int .i64 y0,.int .i64 y1,.int .i64 y2] 56)))
   clear HR
   have HR:=HR1
   clear HR1
   rw [←hrb]
   clear hrb e0 e1 e2 t6 s3 s4
   obtain⟨wd,hwd⟩:∃W:World,W=wl.alloc (.cells #[.int .i64 y0,.int .i64 y1,.int .i64 y2] 56):=⟨_,rfl⟩
   rw [←hwd] at HR HRB ⊢
   clear hwd
   try clear wl
   obtain⟨wl,rfl⟩:∃W:World,W=wd:=⟨_,rfl⟩
   have r0:wl.cell? ⟨rb,0,none⟩=some (.int .i64 y0):=(blk_cell HRB.out 0).trans rfl
   have r1:wl.cell? ⟨rb,1,none⟩=some (.int .i64 y1):=(blk_cell HRB.out 1).trans rfl
   have g0:wl.cell? ⟨gx,0,none⟩=some (.int .i64 x.f0):=(blk_cell (blk_below HG.out HR.out.b) 0).trans rfl
   by_cases d0:y0=x.f0
   rotate_left
   ·as_aux_lemma=>
     have q0:(y0 == x.f0)=false:=beq_eq_false_iff_ne.2 d0
     have HM:Aside0 (mvN x s ⟨y0,y1,y2⟩ = []):=⟨if_neg (fun h=>d0 h.1)⟩
     go_wp2_with fail
     go_roundg (l6.length - (i_+1))
     case measure=>have:=Hi.out;have:=HLT.out;omega
     case rel=>exact⟨i_+1,rs,by first|rfl|rw [show wrap64 ((i_:Int)+1)=((i_+1:Nat):Int) by have:=HLT.out;have:=HJ6.out.2.2;unfold wrap64;omega],⟨HLT.out,Nat.le_refl _⟩,⟨by rw [HNX.out,HM.out,List.append_nil,←HLR.out];exact HR.out⟩,⟨by have:=HRL.out;omega⟩⟩
   have q0:(y0 == x.f0)=true:=beq_iff_eq.2 d0
   by_cases d1:y1=s
   rotate_left
   ·as_aux_lemma=>
     have q1:(y1 == s)=false:=beq_eq_false_iff_ne.2 d1
     have HM:Aside0 (mvN x s ⟨y0,y1,y2⟩ = []):=⟨if_neg (fun h=>d1 h.2)⟩
     go_wp2_with fail
     go_roundg (l6.length - (i_+1))
     case measure=>have:=Hi.out;have:=HLT.out;omega
     case rel=>exact⟨i_+1,rs,by first|rfl|rw [show wrap64 ((i_:Int)+1)=((i_+1:Nat):Int) by have:=HLT.out;have:=HJ6.out.2.2;unfold wrap64;omega],⟨HLT.out,Nat.le_refl _⟩,⟨by rw [HNX.out,HM.out,List.append_nil,←HLR.out];exact HR.out⟩,⟨by have:=HRL.out;omega⟩⟩
   have q1:(y1 == s)=true:=beq_iff_eq.2 d1
   have HM:Aside0 (mvN x s ⟨y0,y1,y2⟩ = [⟨y2,x.f1⟩]):=⟨if_pos ⟨d0,d1⟩⟩
   clear d0 d1
   go_upto_region 7 with (fail)
   clear r0 r1 g0 q0 q1
   obtain⟨u_,hu_⟩:∃u:Value,u=.slice UA rs.length uc:=⟨_,rfl⟩
   rw [←hu_] at HR ⊢
   clear hu_
   refine start_ (n:=11) (S:=fun w'=>w'.cell? ⟨gx,1,none⟩=some (.slice AX x.f1.length cx)∧w'.cell? ⟨rb,2,none⟩=some (.int .i64 y2)) (ds:=[]) (pm 0 11) (by kernel_rfl) rfl rfl ⟨(blk_cell (blk_below HG.out (Aside0.mk (HR.out.below (below_drew (Below.refl _ _)))).out.b) 1).trans rfl,(blk_cell (Aside0.mk (blk_drew HRB.out)).out 2).trans rfl⟩ (fun hHeld=>?_)
   refine with_tabW St7t.tab St7t.bits (fun HT_ HW_=>?_)
   have HRd:=Aside0.mk (HR.out.below (below_drew (Below.refl _ _)))
   have HRBd:=Aside0.mk (blk_drew HRB.out)
   clear HR HRB
   obtain⟨wd,hwd⟩:∃W:World,W=wl.drew:=⟨_,rfl⟩
   rw [←hwd] at HRd HRBd hHeld ⊢
   clear hwd
   try clear wl
   iterate 3 (first|(refine pn_ (v:=?_) (a':=?_) rfl (rfl (a:=some _)) (any_of HT_.out (by kernel_rfl)) (fun _ _ _ h=>h) (Or.inl ⟨by rfl,?_⟩) ?_ ?_;rotate_left;(intro w';go_simp;with_reducible rfl);rotate_left;(simp only [Act.put,M.sq3,i64_w,i32_w];rfl))|(refine tn_ (v:=?_) (a':=?_) rfl (rfl (a:=some _)) (take_ofW HT_.out HW_.out (by kernel_rfl)) (fun _ _ _ h=>h) (Or.inl ⟨by rfl,?_⟩) hHeld ?_ ?_;rotate_left;(intro w' hS_;obtain⟨s0,s1⟩:=hS_;go_simp;with_reducible rfl);rotate_left;(simp only [Act.put,M.sq3,i64_w,i32_w];rfl)))
   refine po_ 4 (v:=?_) (a':=?_) rfl (rfl (a:=some _)) (any_of HT_.out (by kernel_rfl)) (fun _ _ _ h=>h) (Or.inl ⟨by rfl,?_⟩) ?_ ?_;rotate_left;(intro w';go_simp;with_reducible rfl);rotate_left;(simp only [Act.put,M.sq3,i64_w,i32_w];rfl)
   refine to_ 5 (v:=?_) (a':=?_) rfl (rfl (a:=some _)) (take_ofW HT_.out HW_.out (by kernel_rfl)) (fun _ _ _ h=>h) (Or.inl ⟨by rfl,?_⟩) hHeld ?_ ?_;rotate_left;(intro w' hS_;obtain⟨s0,s1⟩:=hS_;go_simp;with_reducible rfl);rotate_left;(simp only [Act.put,M.sq3,i64_w,i32_w];rfl)
   refine one_ (i:=3) (N:=(some 40)) (pm 6 5) rfl rfl (one_of HT_.out (by kernel_rfl)) (by decide) (fun K hK=>?_)
   refine Kd.R_lit_step (Kd.int .i64) _ 3 ?hg (N:=40) ?hd (xs:=([]:List Int)) (inner:=[]) (ok:=fun _=>True) (okp:=fun _=>True) ?hr ?hp (fun _ hk=>hk) trivial HRd.out.b HRd.out.b.size (by simp) ?_
   case hd=>rfl
   case hg=>rfl
   case hr=>first|(go_simp;done)|(go_simp;rfl)
   case hp=>exact(Reps.none _ _)
   intro v0 wa ho hb hg_ hn_
   have HRa:=Aside0.mk (HRd.out.grown hb hg_)
   have HRBa:=Aside0.mk (blk_grown HRBd.out hg_ nen)
   have HUa:=Aside0.mk (Kd.R_tight rfl ho)
   have HNa:Aside0 (∀r∈rs,∀k,some k=(rawV r.2).ownBlock→some k≠v0.ownBlock):=⟨fun r hr k hk=>by
    obtain⟨b,e,hb2⟩:=hn_
    have hlt:=HRd.out.m.lt r hr k hk
    rw [e]
    intro h
    cases h
    omega⟩
   clear ho hb hg_ hn_ hHeld HRd HRBd
   refine hK.out _ _ ⟨(blk_cell (blk_below HG.out HRa.out.b) 1).trans rfl,(blk_cell HRBa.out 2).trans rfl⟩ (fun hHeld=>?_)
   clear hK K
   refine norm_ (a':=?_) ?_ ?_
   rotate_left
   ·show Act.put _ (some 40) _ = _
    simp only [Act.put,M.sq3,i64_w,i32_w]
    rfl
   refine one_ (i:=6) (N:=(some 43)) (pm 7 4) rfl rfl (one_of HT_.out (by kernel_rfl)) (by decide) (fun K hK=>?_)
   refine Kd.R_append_rows_step (Kd.int .i64) (w0:=w1) w1.heap.size (by rfl) (.tmp 40) (.tmp 42) 22 3 (.int .i64 0) 8 rfl Try.underlying22 infoInt rfl (by decide) (by omega) v0 ([]:List Int) (x.f1) (AX) (x.f1.length) (cx) (fun _=>True) (fun _=>False) rfl rfl (Kd.R_mono HUa.out (fun _ _=>trivial)) (Kd.C_below HX.out.2 HRa.out.b) (fun _ _ h=>h) (fun _ h=>h.elim) (fun _ _=>trivial) HRa.out.b HRa.out.b.size ?aL ?_
   case aL=>have:=HXL.out;first|omega|(simp;omega)
   intro v1 wb ho hb hg_ hat_
   have HRb:=Aside0.mk (HRa.out.overI hb HUa.out hg_ HNa.out)
   have HRBb:=Aside0.mk (blk_grown HRBa.out hg_ (Kd.R_ne HUa.out HRBa.out (by decide)))
   obtain⟨sl,hsl⟩:∃l,l=(([]:List Int) ++ x.f1):=⟨_,rfl⟩
   rw [←hsl] at ho
   have HSL:Aside0 (sl=x.f1):=⟨by rw [hsl];rfl⟩
   clear hsl
   obtain⟨SA,sc,rfl⟩:=Kd.R_slice ho
   have HUb:=Aside0.mk (Kd.R_tight rfl ho)
   clear ho hb hg_ hat_ hHeld HRa HRBa HUa HNa
   refine hK.out _ _ ⟨(blk_cell (blk_below HG.out HRb.out.b) 1).trans rfl,(blk_cell HRBb.out 2).trans rfl⟩ (fun hHeld=>?_)
   clear hK K
   refine norm_ (a':=?_) ?_ ?_
   rotate_left
   ·show Act.put _ (some 43) _ = _
    simp only [Act.put,M.sq3,i64_w,i32_w]
    rfl
   refine pn_ (v:=?_) (a':=?_) rfl (rfl (a:=some _)) (any_of HT_.out (by kernel_rfl)) (fun _ _ _ h=>h) (Or.inl ⟨by rfl,?_⟩) ?_ ?_;rotate_left;(intro w';go_simp;with_reducible rfl);rotate_left;(simp only [Act.put,M.sq3,i64_w,i32_w];rfl)
   refine one_ (i:=8) (N:=(some 45)) (pm 9 2) rfl rfl (one_of HT_.out (by kernel_rfl)) (by decide) (fun K hK=>?_)
   refine Kd.R_lit_step kRaw _ 67 ?hg (N:=45) ?hd (xs:=[((y2:Int),SA,sl.length,sc)]) (inner:=[.int .i64 y2,.slice SA sl.length sc]) (ok:=fun _=>True) (okp:=fun _=>True) ?hr ?hp (fun _ hk=>hk) trivial HRb.out.b HRb.out.b.size (by simp) ?_
   case hd=>rfl
   case hg=>rfl
   case hr=>first|(go_simp;done)|(go_simp;rfl)
   case hp=>exact(Reps.c2 (show kRaw.M _ _ _ (y2,SA,sl.length,sc) [.int .i64 y2,.slice SA sl.length sc] from⟨_,_,rfl,rfl,rfl⟩) (Reps.none _ _))
   intro v2 wc ho hb hg_ hn_
   have HRc:=Aside0.mk (HRb.out.grown hb hg_)
   have HRBc:=Aside0.mk (blk_grown HRBb.out hg_ nen)
   have HUc:=Aside0.mk (Kd.R_grown HUb.out hg_ (fun _ _=>nen))
   obtain⟨XA,xc,rfl⟩:=Kd.R_slice ho
   have HXc:=Aside0.mk (Kd.R_reads' ho).2.2
   clear ho hb hg_ hn_ hHeld HRb HRBb HUb
   refine hK.out _ _ ⟨(blk_cell (blk_below HG.out HRc.out.b) 1).trans rfl,(blk_cell HRBc.out 2).trans rfl⟩ (fun hHeld=>?_)
   clear hK K
   refine norm_ (a':=?_) ?_ ?_
   rotate_left
   ·show Act.put _ (some 45) _ = _
    simp only [Act.put,M.sq3,i64_w,i32_w]
    rfl
   refine one_ (i:=9) (N:=(some 46)) (pm 10 1) rfl rfl (one_of HT_.out (by kernel_rfl)) (by decide) (fun K hK=>?_)
   refine Kd.R_append_rows_step kRaw (w0:=w1) w1.heap.size (by rfl) (.tmp 37) (.tmp 45) 35 67 (.agg #[.int .i64 0,.slice none 0 0]) 32 rfl Try.underlying35 rawI2 rfl (by decide) (by omega) u_ rs [((y2:Int),SA,sl.length,sc)] _ _ _ (fun _=>True) (fun _=>False) rfl rfl (Kd.R_mono HRc.out.r (fun _ _=>trivial)) HXc.out (fun _ _ h=>h) (fun _ h=>h.elim) (fun _ _=>trivial) HRc.out.b HRc.out.b.size ?aL ?_
   case aL=>have:=HRL.out;have:=HJ4.out.2.2;have:=HJ5.out.2.2;have:=HJ6.out.2.2;have:=HLT.out;first|omega|(simp;omega)
   intro v3 we ho hb hg_ hat_
   have HRe:Aside0 (SR w1 we v3 (rs ++ [((y2:Int),SA,sl.length,sc)]) (lr ++ [⟨y2,x.f1⟩])):=⟨⟨hb,Kd.R_tight rfl ho,RawsR.app (rs2:=[((y2:Int),SA,sl.length,sc)]) (xs2:=[⟨y2,x.f1⟩]) ⟨⟨rfl,by rw [←HSL.out];exact Kd.R_over' HUc.out (Kd.R_typed HRc.out.r) (by intro q hq;rcases List.mem_cons.1 hq with rfl|hq;decide;cases hq) hg_⟩,trivial⟩ (RawsR.imp (fun _ _ q=>q.over HRc.out.r hg_) HRc.out.m)⟩⟩
   have HRBe:=Aside0.mk (blk_grown HRBc.out hg_ (Kd.R_ne HRc.out.r HRBc.out (by decide)))
   clear ho hb hg_ hat_ hHeld HRc HRBc HUc HXc
   refine hK.out _ _ ⟨(blk_cell (blk_below HG.out HRe.out.b) 1).trans rfl,(blk_cell HRBe.out 2).trans rfl⟩ (fun hHeld=>?_)
   clear hK K
   refine norm_ (a':=?_) ?_ ?_
   rotate_left
   ·show Act.put _ (some 46) _ = _
    simp only [Act.put,M.sq3,i64_w,i32_w]
    rfl
   refine pn_ (v:=?_) (a':=?_) rfl (rfl (a:=some _)) (any_of HT_.out (by kernel_rfl)) (fun _ _ _ h=>h) (Or.inl ⟨by rfl,?_⟩) ?_ ?_;rotate_left;(intro w';go_simp;with_reducible rfl);rotate_left;(simp only [Act.put,M.sq3,i64_w,i32_w];rfl)
   refine done_ (done_of HT_.out (by kernel_rfl)) ?_
   go_wp2
   go_roundg (l6.length - (i_+1))
   case measure=>have:=Hi.out;have:=HLT.out;omega
   case rel=>exact⟨i_+1,_,by first|rfl|rw [show wrap64 ((i_:Int)+1)=((i_+1:Nat):Int) by have:=HLT.out;have:=HJ6.out.2.2;unfold wrap64;omega],⟨HLT.out,Nat.le_refl _⟩,⟨by rw [HNX.out,HM.out,←HLR.out];exact HRe.out⟩,⟨by rw [List.length_append];have:=HRL.out;simp only [List.length_cons,List.length_nil];omega⟩⟩
 have e4:l6.take i_=l6:=List.take_of_length_le (by omega)
 rw [e4] at HR
 have s3:=eq_false (show ¬(i_:Int) < (l6.length:Int) by omega)
 obtain⟨u_,hu_⟩:∃u:Value,u=.slice UA rs.length uc:=⟨_,rfl⟩
 rw [←hu_] at HR ⊢
 clear hu_
 have HR1:Aside0 (SR w1 wl u_ rs (l6.flatMap (mvN x s) ++ (l4.take 0).flatMap (mvO x s))):=⟨by rw [List.take_zero,List.flatMap_nil,List.append_nil];exact HR.out⟩
 have HRL1:Aside0 (rs.length≤l6.length+0):=⟨by have:=HRL.out;have:=Hi.out;omega⟩
 clear hl_ e4 Hi HR HRL
 have HR:=HR1
 have HRL:=HRL1
 clear HR1 HRL1
 -- MARK_6
 go_wp2
 go_loopg [7,10] l4.length (fun gk u_ vi w'=>∃(i_:Nat) (rs:List Raw),vi=.int .i64 (i_:Int)∧Aside0 (i_≤l4.length∧l4.length - i_≤gk)∧Aside0 (SR w1 w' u_ rs (l6.flatMap (mvN x s) ++ (l4.take i_).flatMap (mvO x s)))∧Aside0 (rs.length≤l6.length+i_))
 case atStart=>exact⟨0,_,rfl,⟨by omega,by omega⟩,HR,HRL⟩
 case' round=>skip
 try clear s3
 clear HR HRL
 try clear ru_
 obtain⟨i_,rs,rfl,Hi,HR,HRL⟩:=hrel
 try clear wl
 obtain⟨wl,rfl⟩:∃W:World,W=wr:=⟨_,rfl⟩
 have t4:wl.cell? ⟨ga,4,none⟩=some (.slice A4 l4.length c4):=(blk_cell (blk_below HA.out HR.out.b) 4).trans rfl
 have hsl:=HR.out.r
 obtain⟨UA,uc,rfl⟩:=Kd.R_slice hsl
 clear hsl
 by_cases hl_:i_ < l4.length
 ·as_aux_lemma=>
   have HLT:=Aside0.mk hl_
   obtain⟨ad,eA,e0,e1,e2,e3⟩:=at_T52 (Kd.C_below HJ4.out.1 HR.out.b) (i_:Int) (by omega) (by omega)
   have hrd:rd_T52 l4 (i_:Int)=l4[i_]:=by unfold rd_T52;rw [Int.toNat_natCast,List.getD_eq_getElem?_getD,List.getElem?_eq_getElem hl_];rfl
   rw [hrd,Int.toNat_natCast] at e0 e1 e2 e3
   have HNX:Aside0 ((l4.take (i_+1)).flatMap (mvO x s)=(l4.take i_).flatMap (mvO x s) ++ mvO x s l4[i_]):=⟨by rw [List.take_add_one,List.getElem?_eq_getElem hl_,List.flatMap_append];simp⟩
   generalize l4[i_]=r_ at HNX e0 e1 e2 e3
   obtain⟨y0,y1,y2,y3⟩:=r_
   obtain⟨lr,hlr⟩:∃l,l=l6.flatMap (mvN x s) ++ (l4.take i_).flatMap (mvO x s):=⟨_,rfl⟩
   rw [←hlr] at HR
   have HLR:=Aside0.mk hlr
   have s3:=eq_true (show (i_:Int) < (l4.length:Int) by omega)
   have s4:=eq_true (show (0:Int)≤(i_:Int) by omega)
   subst eA
   clear hrd hl_ hlr
   go_upto_region 12 with (fail)
   obtain⟨rb,hrb⟩:∃g,g=wl.heap.size:=⟨_,rfl⟩
   have HRB:Aside0 ((wl.alloc (.cells #[.int .i64 y0,.int .i64 y1,.int .i64 y2,.int .i64 y3] 52)).heap[rb]? = some (.cells #[.int .i64 y0,.int .i64 y1,.int .i64 y2,.int .i64 y3] 52 (0,0))):=⟨by rw [hrb];exact blk_newAt _ rfl⟩
   have HR1:=Aside0.mk (HR.out.below (below_alloc (Below.refl _ _) (.cells #[.int .i64 y0,.int .i64 y1,.int .i64 y2,.int .i64 y3] 52)))
   clear HR
   have HR:=HR1
   clear HR1
   rw [←hrb]
   clear hrb e0 e1 e2 e3 t4 s3 s4
   obtain⟨wd,hwd⟩:∃W:World,W=wl.alloc (.cells #[.int .i64 y0,.int .i64 y1,.int .i64 y2,.int .i64 y3] 52):=⟨_,rfl⟩
   rw [←hwd] at HR HRB ⊢
   clear hwd
   try clear wl
   obtain⟨wl,rfl⟩:∃W:World,W=wd:=⟨_,rfl⟩
   have r0:wl.cell? ⟨rb,0,none⟩=some (.int .i64 y0):=(blk_cell HRB.out 0).trans rfl
   have r1:wl.cell? ⟨rb,1,none⟩=some (.int .i64 y1):=(blk_cell HRB.out 1).trans rfl
   have g0:wl.cell? ⟨gx,0,none⟩=some (.int .i64 x.f0):=(blk_cell (blk_below HG.out HR.out.b) 0).trans rfl
   by_cases d0:y0=x.f0
   rotate_left
   ·as_aux_lemma=>
     have q0:(y0 == x.f0)=false:=beq_eq_false_iff_ne.2 d0
     have HM:Aside0 (mvO x s ⟨y0,y1,y2,y3⟩ = []):=⟨if_neg (fun h=>d0 h.1)⟩
     go_wp2_with fail
     go_roundg (l4.length - (i_+1))
     case measure=>have:=Hi.out;have:=HLT.out;omega
     case rel=>exact⟨i_+1,rs,by first|rfl|rw [show wrap64 ((i_:Int)+1)=((i_+1:Nat):Int) by have:=HLT.out;have:=HJ4.out.2.2;unfold wrap64;omega],⟨HLT.out,Nat.le_refl _⟩,⟨by rw [HNX.out,HM.out,List.append_nil,←HLR.out];exact HR.out⟩,⟨by have:=HRL.out;omega⟩⟩
   have q0:(y0 == x.f0)=true:=beq_iff_eq.2 d0
   by_cases d1:y1=s
   rotate_left
   ·as_aux_lemma=>
     have q1:(y1 == s)=false:=beq_eq_false_iff_ne.2 d1
     have HM:Aside0 (mvO x s ⟨y0,y1,y2,y3⟩ = []):=⟨if_neg (fun h=>d1 h.2)⟩
     go_wp2_with fail
     go_roundg (l4.length - (i_+1))
     case measure=>have:=Hi.out;have:=HLT.out;omega
     case rel=>exact⟨i_+1,rs,by first|rfl|rw [show wrap64 ((i_:Int)+1)=((i_+1:Nat):Int) by have:=HLT.out;have:=HJ4.out.2.2;unfold wrap64;omega],⟨HLT.out,Nat.le_refl _⟩,⟨by rw [HNX.out,HM.out,List.append_nil,←HLR.out];exact HR.out⟩,⟨by have:=HRL.out;omega⟩⟩
   have q1:(y1 == s)=true:=beq_iff_eq.2 d1
   have HM:Aside0 (mvO x s ⟨y0,y1,y2,y3⟩ = [⟨y2,y3 :: x.f1⟩]):=⟨if_pos ⟨d0,d1⟩⟩
   clear d0 d1
   go_upto_region 13 with (fail)
   clear r0 r1 g0 q0 q1
   obtain⟨u_,hu_⟩:∃u:Value,u=.slice UA rs.length uc:=⟨_,rfl⟩
   rw [←hu_] at HR ⊢
   clear hu_
   refine start_ (n:=13) (S:=fun w'=>w'.cell? ⟨gx,1,none⟩=some (.slice AX x.f1.length cx)∧w'.cell? ⟨rb,2,none⟩=some (.int .i64 y2)∧w'.cell? ⟨rb,3,none⟩=some (.int .i64 y3)) (ds:=[]) (pm 0 13) (by kernel_rfl) rfl rfl ⟨(blk_cell (blk_below HG.out (Aside0.mk (HR.out.below (below_drew (Below.refl _ _)))).out.b) 1).trans rfl,(blk_cell (Aside0.mk (blk_drew HRB.out)).out 2).trans rfl,(blk_cell (Aside0.mk (blk_drew HRB.out)).out 3).trans rfl⟩ (fun hHeld=>?_)
   refine with_tabW St13t.tab St13t.bits (fun HT_ HW_=>?_)
   have HRd:=Aside0.mk (HR.out.below (below_drew (Below.refl _ _)))
   have HRBd:=Aside0.mk (blk_drew HRB.out)
   clear HR HRB
   obtain⟨wd,hwd⟩:∃W:World,W=wl.drew:=⟨_,rfl⟩
   rw [←hwd] at HRd HRBd hHeld ⊢
   clear hwd
   try clear wl
   iterate 5 (first|(refine pn_ (v:=?_) (a':=?_) rfl (rfl (a:=some _)) (any_of HT_.out (by kernel_rfl)) (fun _ _ _ h=>h) (Or.inl ⟨by rfl,?_⟩) ?_ ?_;rotate_left;(intro w';go_simp;with_reducible rfl);rotate_left;(simp only [Act.put,M.sq3,i64_w,i32_w];rfl))|(refine tn_ (v:=?_) (a':=?_) rfl (rfl (a:=some _)) (take_ofW HT_.out HW_.out (by kernel_rfl)) (fun _ _ _ h=>h) (Or.inl ⟨by rfl,?_⟩) hHeld ?_ ?_;rotate_left;(intro w' hS_;obtain⟨s0,s1,s2⟩:=hS_;go_simp;with_reducible rfl);rotate_left;(simp only [Act.put,M.sq3,i64_w,i32_w];rfl)))
   refine po_ 6 (v:=?_) (a':=?_) rfl (rfl (a:=some _)) (any_of HT_.out (by kernel_rfl)) (fun _ _ _ h=>h) (Or.inl ⟨by rfl,?_⟩) ?_ ?_;rotate_left;(intro w';go_simp;with_reducible rfl);rotate_left;(simp only [Act.put,M.sq3,i64_w,i32_w];rfl)
   refine to_ 7 (v:=?_) (a':=?_) rfl (rfl (a:=some _)) (take_ofW HT_.out HW_.out (by kernel_rfl)) (fun _ _ _ h=>h) (Or.inl ⟨by rfl,?_⟩) hHeld ?_ ?_;rotate_left;(intro w' hS_;obtain⟨s0,s1,s2⟩:=hS_;go_simp;with_reducible rfl);rotate_left;(simp only [Act.put,M.sq3,i64_w,i32_w];rfl)
   refine one_ (i:=5) (N:=(some 75)) (pm 8 5) rfl rfl (one_of HT_.out (by kernel_rfl)) (by decide) (fun K hK=>?_)
   refine Kd.R_lit_step (Kd.int .i64) _ 3 ?hg (N:=75) ?hd (xs:=([y3]:List Int)) (inner:=[.int .i64 y3]) (ok:=fun _=>True) (okp:=fun _=>True) ?hr ?hp (fun _ hk=>hk) trivial HRd.out.b HRd.out.b.size (by simp) ?_
   case hd=>rfl
   case hg=>rfl
   case hr=>first|(go_simp;done)|(go_simp;rfl)
   case hp=>exact(Reps.one (show Kd.M (Kd.int .i64) _ _ _ y3 [.int .i64 y3] from rfl) (Reps.none _ _))
   intro v0 wa ho hb hg_ hn_
   have HRa:=Aside0.mk (HRd.out.grown hb hg_)
   have HRBa:=Aside0.mk (blk_grown HRBd.out hg_ nen)
   have HUa:=Aside0.mk (Kd.R_tight rfl ho)
   have HNa:Aside0 (∀r∈rs,∀k,some k=(rawV r.2).ownBlock→some k≠v0.ownBlock):=⟨fun r hr k hk=>by
    obtain⟨b,e,hb2⟩:=hn_
    have hlt:=HRd.out.m.lt r hr k hk
    rw [e]
    intro h
    cases h
    omega⟩
   clear ho hb hg_ hn_ hHeld HRd HRBd
   refine hK.out _ _ ⟨(blk_cell (blk_below HG.out HRa.out.b) 1).trans rfl,(blk_cell HRBa.out 2).trans rfl,(blk_cell HRBa.out 3).trans rfl⟩ (fun hHeld=>?_)
   clear hK K
   refine norm_ (a':=?_) ?_ ?_
   rotate_left
   ·show Act.put _ (some 75) _ = _
    simp only [Act.put,M.sq3,i64_w,i32_w]
    rfl
   refine one_ (i:=8) (N:=(some 78)) (pm 9 4) rfl rfl (one_of HT_.out (by kernel_rfl)) (by decide) (fun K hK=>?_)
   refine Kd.R_append_rows_step (Kd.int .i64) (w0:=w1) w1.heap.size (by rfl) (.tmp 75) (.tmp 77) 22 3 (.int .i64 0) 8 rfl Try.underlying22 infoInt rfl (by decide) (by omega) v0 ([y3]:List Int) (x.f1) (AX) (x.f1.length) (cx) (fun _=>True) (fun _=>False) rfl rfl (Kd.R_mono HUa.out (fun _ _=>trivial)) (Kd.C_below HX.out.2 HRa.out.b) (fun _ _ h=>h) (fun _ h=>h.elim) (fun _ _=>trivial) HRa.out.b HRa.out.b.size ?aL ?_
   case aL=>have:=HXL.out;first|omega|(simp;omega)
   intro v1 wb ho hb hg_ hat_
   have HRb:=Aside0.mk (HRa.out.overI hb HUa.out hg_ HNa.out)
   have HRBb:=Aside0.mk (blk_grown HRBa.out hg_ (Kd.R_ne HUa.out HRBa.out (by decide)))
   obtain⟨sl,hsl⟩:∃l,l=(([y3]:List Int) ++ x.f1):=⟨_,rfl⟩
   rw [←hsl] at ho
   have HSL:Aside0 (sl=y3 :: x.f1):=⟨by rw [hsl];rfl⟩
   clear hsl
   obtain⟨SA,sc,rfl⟩:=Kd.R_slice ho
   have HUb:=Aside0.mk (Kd.R_tight rfl ho)
   clear ho hb hg_ hat_ hHeld HRa HRBa HUa HNa
   refine hK.out _ _ ⟨(blk_cell (blk_below HG.out HRb.out.b) 1).trans rfl,(blk_cell HRBb.out 2).trans rfl,(blk_cell HRBb.out 3).trans rfl⟩ (fun hHeld=>?_)
   clear hK K
   refine norm_ (a':=?_) ?_ ?_
   rotate_left
   ·show Act.put _ (some 78) _ = _
    simp only [Act.put,M.sq3,i64_w,i32_w]
    rfl
   refine pn_ (v:=?_) (a':=?_) rfl (rfl (a:=some _)) (any_of HT_.out (by kernel_rfl)) (fun _ _ _ h=>h) (Or.inl ⟨by rfl,?_⟩) ?_ ?_;rotate_left;(intro w';go_simp;with_reducible rfl);rotate_left;(simp only [Act.put,M.sq3,i64_w,i32_w];rfl)
   refine one_ (i:=10) (N:=(some 80)) (pm 11 2) rfl rfl (one_of HT_.out (by kernel_rfl)) (by decide) (fun K hK=>?_)
   refine Kd.R_lit_step kRaw _ 67 ?hg (N:=80) ?hd (xs:=[((y2:Int),SA,sl.length,sc)]) (inner:=[.int .i64 y2,.slice SA sl.length sc]) (ok:=fun _=>True) (okp:=fun _=>True) ?hr ?hp (fun _ hk=>hk) trivial HRb.out.b HRb.out.b.size (by simp) ?_
   case hd=>rfl
   case hg=>rfl
   case hr=>first|(go_simp;done)|(go_simp;rfl)
   case hp=>exact(Reps.c2 (show kRaw.M _ _ _ (y2,SA,sl.length,sc) [.int .i64 y2,.slice SA sl.length sc] from⟨_,_,rfl,rfl,rfl⟩) (Reps.none _ _))
   intro v2 wc ho hb hg_ hn_
   have HRc:=Aside0.mk (HRb.out.grown hb hg_)
   have HRBc:=Aside0.mk (blk_grown HRBb.out hg_ nen)
   have HUc:=Aside0.mk (Kd.R_grown HUb.out hg_ (fun _ _=>nen))
   obtain⟨XA,xc,rfl⟩:=Kd.R_slice ho
   have HXc:=Aside0.mk (Kd.R_reads' ho).2.2
   clear ho hb hg_ hn_ hHeld HRb HRBb HUb
   refine hK.out _ _ ⟨(blk_cell (blk_below HG.out HRc.out.b) 1).trans rfl,(blk_cell HRBc.out 2).trans rfl,(blk_cell HRBc.out 3).trans rfl⟩ (fun hHeld=>?_)
   clear hK K
   refine norm_ (a':=?_) ?_ ?_
   rotate_left
   ·show Act.put _ (some 80) _ = _
    simp only [Act.put,M.sq3,i64_w,i32_w]
    rfl
   refine one_ (i:=11) (N:=(some 81)) (pm 12 1) rfl rfl (one_of HT_.out (by kernel_rfl)) (by decide) (fun K hK=>?_)
   refine Kd.R_append_rows_step kRaw (w0:=w1) w1.heap.size (by rfl) (.tmp 70) (.tmp 80) 35 67 (.agg #[.int .i64 0,.slice none 0 0]) 32 rfl Try.underlying35 rawI2 rfl (by decide) (by omega) u_ rs [((y2:Int),SA,sl.length,sc)] _ _ _ (fun _=>True) (fun _=>False) rfl rfl (Kd.R_mono HRc.out.r (fun _ _=>trivial)) HXc.out (fun _ _ h=>h) (fun _ h=>h.elim) (fun _ _=>trivial) HRc.out.b HRc.out.b.size ?aL ?_
   case aL=>have:=HRL.out;have:=HJ4.out.2.2;have:=HJ5.out.2.2;have:=HJ6.out.2.2;have:=HLT.out;first|omega|(simp;omega)
   intro v3 we ho hb hg_ hat_
   have HRe:Aside0 (SR w1 we v3 (rs ++ [((y2:Int),SA,sl.length,sc)]) (lr ++ [⟨y2,y3 :: x.f1⟩])):=⟨⟨hb,Kd.R_tight rfl ho,RawsR.app (rs2:=[((y2:Int),SA,sl.length,sc)]) (xs2:=[⟨y2,y3 :: x.f1⟩]) ⟨⟨rfl,by rw [←HSL.out];exact Kd.R_over' HUc.out (Kd.R_typed HRc.out.r) (by intro q hq;rcases List.mem_cons.1 hq with rfl|hq;decide;cases hq) hg_⟩,trivial⟩ (RawsR.imp (fun _ _ q=>q.over HRc.out.r hg_) HRc.out.m)⟩⟩
   have HRBe:=Aside0.mk (blk_grown HRBc.out hg_ (Kd.R_ne HRc.out.r HRBc.out (by decide)))
   clear ho hb hg_ hat_ hHeld HRc HRBc HUc HXc
   refine hK.out _ _ ⟨(blk_cell (blk_below HG.out HRe.out.b) 1).trans rfl,(blk_cell HRBe.out 2).trans rfl,(blk_cell HRBe.out 3).trans rfl⟩ (fun hHeld=>?_)
   clear hK K
   refine norm_ (a':=?_) ?_ ?_
   rotate_left
   ·show Act.put _ (some 81) _ = _
    simp only [Act.put,M.sq3,i64_w,i32_w]
    rfl
   refine pn_ (v:=?_) (a':=?_) rfl (rfl (a:=some _)) (any_of HT_.out (by kernel_rfl)) (fun _ _ _ h=>h) (Or.inl ⟨by rfl,?_⟩) ?_ ?_;rotate_left;(intro w';go_simp;with_reducible rfl);rotate_left;(simp only [Act.put,M.sq3,i64_w,i32_w];rfl)
   refine done_ (done_of HT_.out (by kernel_rfl)) ?_
   go_wp2
   go_roundg (l4.length - (i_+1))
   case measure=>have:=Hi.out;have:=HLT.out;omega
   case rel=>exact⟨i_+1,_,by first|rfl|rw [show wrap64 ((i_:Int)+1)=((i_+1:Nat):Int) by have:=HLT.out;have:=HJ4.out.2.2;unfold wrap64;omega],⟨HLT.out,Nat.le_refl _⟩,⟨by rw [HNX.out,HM.out,←List.append_assoc,←HLR.out];exact HRe.out⟩,⟨by rw [List.length_append];have:=HRL.out;simp only [List.length_cons,List.length_nil];omega⟩⟩
 have e4:l4.take i_=l4:=List.take_of_length_le (by omega)
 rw [e4] at HR
 have s3:=eq_false (show ¬(i_:Int) < (l4.length:Int) by omega)
 obtain⟨u_,hu_⟩:∃u:Value,u=.slice UA rs.length uc:=⟨_,rfl⟩
 rw [←hu_] at HR ⊢
 clear hu_
 have HR1:Aside0 (SR w1 wl u_ rs (l6.flatMap (mvN x s) ++ l4.flatMap (mvO x s) ++ (l5.take 0).flatMap (mvC x s))):=⟨by rw [List.take_zero,List.flatMap_nil,List.append_nil];exact HR.out⟩
 have HRL1:Aside0 (rs.length≤l6.length+l4.length+0):=⟨by have:=HRL.out;have:=Hi.out;omega⟩
 clear hl_ e4 Hi HR HRL
 have HR:=HR1
 have HRL:=HRL1
 clear HR1 HRL1
 -- MARK_4
 go_wp2
 go_loopg [7,12] l5.length (fun gk u_ vi w'=>∃(i_:Nat) (rs:List Raw),vi=.int .i64 (i_:Int)∧Aside0 (i_≤l5.length∧l5.length - i_≤gk)∧Aside0 (SR w1 w' u_ rs (l6.flatMap (mvN x s) ++ l4.flatMap (mvO x s) ++ (l5.take i_).flatMap (mvC x s)))∧Aside0 (rs.length≤l6.length+l4.length+i_))
 case atStart=>exact⟨0,_,rfl,⟨by omega,by omega⟩,HR,HRL⟩
 case' round=>skip
 try clear s3
 clear HR HRL
 obtain⟨i_,rs,rfl,Hi,HR,HRL⟩:=hrel
 try clear wl
 obtain⟨wl,rfl⟩:∃W:World,W=wr:=⟨_,rfl⟩
 have t5:wl.cell? ⟨ga,5,none⟩=some (.slice A5 l5.length c5):=(blk_cell (blk_below HA.out HR.out.b) 5).trans rfl
 have hsl:=HR.out.r
 obtain⟨UA,uc,rfl⟩:=Kd.R_slice hsl
 clear hsl
 by_cases hl_:i_ < l5.length
 ·as_aux_lemma=>
   have HLT:=Aside0.mk hl_
   obtain⟨ad,eA,e0,e1,e2,e3⟩:=at_T54 (Kd.C_below HJ5.out.1 HR.out.b) (i_:Int) (by omega) (by omega)
   have hrd:rd_T54 l5 (i_:Int)=l5[i_]:=by unfold rd_T54;rw [Int.toNat_natCast,List.getD_eq_getElem?_getD,List.getElem?_eq_getElem hl_];rfl
   rw [hrd,Int.toNat_natCast] at e0 e1 e2 e3
   have HNX:Aside0 ((l5.take (i_+1)).flatMap (mvC x s)=(l5.take i_).flatMap (mvC x s) ++ mvC x s l5[i_]):=⟨by rw [List.take_add_one,List.getElem?_eq_getElem hl_,List.flatMap_append];simp⟩
   generalize l5[i_]=r_ at HNX e0 e1 e2 e3
   obtain⟨y0,y1,y2,y3⟩:=r_
   obtain⟨lr,hlr⟩:∃l,l=l6.flatMap (mvN x s) ++ l4.flatMap (mvO x s) ++ (l5.take i_).flatMap (mvC x s):=⟨_,rfl⟩
   rw [←hlr] at HR
   have HLR:=Aside0.mk hlr
   have s3:=eq_true (show (i_:Int) < (l5.length:Int) by omega)
   have s4:=eq_true (show (0:Int)≤(i_:Int) by omega)
   subst eA
   clear hrd hl_ hlr
   go_upto_region 18 with (fail)
   obtain⟨rb,hrb⟩:∃g,g=wl.heap.size:=⟨_,rfl⟩
   have HRB:Aside0 ((wl.alloc (.cells #[.int .i64 y0,.int .i64 y1,.int .i64 y2,.int .i64 y3] 54)).heap[rb]? = some (.cells #[.int .i64 y0,.int .i64 y1,.int .i64 y2,.int .i64 y3] 54 (0,0))):=⟨by rw [hrb];exact blk_newAt _ rfl⟩
   have HR1:=Aside0.mk (HR.out.below (below_alloc (Below.refl _ _) (.cells #[.int .i64 y0,.int .i64 y1,.int .i64 y2,.int .i64 y3] 54)))
   clear HR
   have HR:=HR1
   clear HR1
   rw [←hrb]
   clear hrb e0 e1 e2 e3 t5 s3 s4
   obtain⟨wd,hwd⟩:∃W:World,W=wl.alloc (.cells #[.int .i64 y0,.int .i64 y1,.int .i64 y2,.int .i64 y3] 54):=⟨_,rfl⟩
   rw [←hwd] at HR HRB ⊢
   clear hwd
   try clear wl
   obtain⟨wl,rfl⟩:∃W:World,W=wd:=⟨_,rfl⟩
   have r0:wl.cell? ⟨rb,0,none⟩=some (.int .i64 y0):=(blk_cell HRB.out 0).trans rfl
   have r1:wl.cell? ⟨rb,1,none⟩=some (.int .i64 y1):=(blk_cell HRB.out 1).trans rfl
   have g0:wl.cell? ⟨gx,0,none⟩=some (.int .i64 x.f0):=(blk_cell (blk_below HG.out HR.out.b) 0).trans rfl
   by_cases d0:y0=x.f0
   rotate_left
   ·as_aux_lemma=>
     have q0:(y0 != x.f0)=true:=bne_iff_ne.2 d0
     have HM:Aside0 (mvC x s ⟨y0,y1,y2,y3⟩ = []):=⟨if_neg (fun h=>d0 h.1)⟩
     go_wp2_with fail
     go_wp2
     go_roundg (l5.length - (i_+1))
     case measure=>have:=Hi.out;have:=HLT.out;omega
     case rel=>exact⟨i_+1,rs,by first|rfl|rw [show wrap64 ((i_:Int)+1)=((i_+1:Nat):Int) by have:=HLT.out;have:=HJ5.out.2.2;unfold wrap64;omega],⟨HLT.out,Nat.le_refl _⟩,⟨by rw [HNX.out,HM.out,List.append_nil,←HLR.out];exact HR.out⟩,⟨by(try rw [List.length_append]);have:=HRL.out;(try have:=HRS.out);(try simp only [List.length_cons,List.length_nil]);omega⟩⟩
   have q0:(y0 != x.f0)=false:=by rw [d0];exact bne_self_eq_false _
   by_cases d1:y1=s
   rotate_left
   ·as_aux_lemma=>
     have q1:(y1 != s)=true:=bne_iff_ne.2 d1
     have HM:Aside0 (mvC x s ⟨y0,y1,y2,y3⟩ = []):=⟨if_neg (fun h=>d1 h.2.1)⟩
     go_wp2_with fail
     go_wp2
     go_roundg (l5.length - (i_+1))
     case measure=>have:=Hi.out;have:=HLT.out;omega
     case rel=>exact⟨i_+1,rs,by first|rfl|rw [show wrap64 ((i_:Int)+1)=((i_+1:Nat):Int) by have:=HLT.out;have:=HJ5.out.2.2;unfold wrap64;omega],⟨HLT.out,Nat.le_refl _⟩,⟨by rw [HNX.out,HM.out,List.append_nil,←HLR.out];exact HR.out⟩,⟨by(try rw [List.length_append]);have:=HRL.out;(try have:=HRS.out);(try simp only [List.length_cons,List.length_nil]);omega⟩⟩
   have q1:(y1 != s)=false:=by rw [d1];exact bne_self_eq_false _
   have r2:wl.cell? ⟨rb,2,none⟩=some (.int .i64 y2):=(blk_cell HRB.out 2).trans rfl
   have g1:wl.cell? ⟨gx,1,none⟩=some (.slice AX x.f1.length cx):=(blk_cell (blk_below HG.out HR.out.b) 1).trans rfl
   by_cases hx0:x.f1 = []
   ·as_aux_lemma=>
     have hx1:x.f1.length=0:=by rw [hx0];rfl
     have q2:((x.f1.length:Int) == 0)=true:=beq_iff_eq.2 (by omega)
     have q3:=decide_eq_false (show ¬(x.f1.length:Int) > 0 by omega)
     have q4:=eq_false (show ¬(x.f1.length:Int) > 0 by omega)
     have q6:=eq_false (show ¬0 < x.f1.length by omega)
     by_cases d2:y2=0
     rotate_left
     ·as_aux_lemma=>
       have q5:(y2 == 0)=false:=beq_eq_false_iff_ne.2 d2
       have HM:Aside0 (mvC x s ⟨y0,y1,y2,y3⟩ = []):=⟨if_neg (fun h=>d2 (by have h2:=h.2.2;rw [hx0] at h2;exact h2))⟩
       clear hx0 hx1 d0 d1 d2
       go_wp2_with fail
       go_quiet (fail)
       clear r0 r1 r2 g0 g1 q0 q1
       have HR1:=Aside0.mk (HR.out.below (pw_below_drewN (Below.refl _ _) nq))
       have HRB1:=Aside0.mk (blk_below HRB.out (pw_below_drewN (Below.refl _ _) nq))
       clear HR HRB
       have HR:=HR1
       have HRB:=HRB1
       clear HR1 HRB1
       obtain⟨wd,hwd⟩:∃W:World,W=wl.drewN nq:=⟨_,rfl⟩
       rw [←hwd] at HR HRB ⊢
       clear hwd
       try clear wl
       obtain⟨wl,rfl⟩:∃W:World,W=wd:=⟨_,rfl⟩
       go_wp2
       go_roundg (l5.length - (i_+1))
       case measure=>have:=Hi.out;have:=HLT.out;omega
       case rel=>exact⟨i_+1,rs,by first|rfl|rw [show wrap64 ((i_:Int)+1)=((i_+1:Nat):Int) by have:=HLT.out;have:=HJ5.out.2.2;unfold wrap64;omega],⟨HLT.out,Nat.le_refl _⟩,⟨by rw [HNX.out,HM.out,List.append_nil,←HLR.out];exact HR.out⟩,⟨by(try rw [List.length_append]);have:=HRL.out;(try have:=HRS.out);(try simp only [List.length_cons,List.length_nil]);omega⟩⟩
     have q5:(y2 == 0)=true:=beq_iff_eq.2 d2
     have HM:Aside0 (mvC x s ⟨y0,y1,y2,y3⟩ = [⟨y3,[]⟩]):=⟨by unfold mvC;rw [if_pos ⟨d0,d1,by rw [hx0];exact d2⟩,hx0];rfl⟩
     clear hx0 hx1 d0 d1 d2
     have r3:wl.cell? ⟨rb,3,none⟩=some (.int .i64 y3):=(blk_cell HRB.out 3).trans rfl
     obtain⟨u_,hu_⟩:∃u:Value,u=.slice UA rs.length uc:=⟨_,rfl⟩
     rw [←hu_] at HR ⊢
     clear hu_
     go_wp2_with ((with_reducible refine gate_builtin (b:=.append) (xs:=#[.tmp 114,.tmp 118]) rfl ?_);at_builtin;go_loud (refine Kd.R_append kRaw (w0:=w1) w1.heap.size rfl (.tmp 114) (.tmp 118) 35 67 (.agg #[.int .i64 0,.slice none 0 0]) 32 rfl Try.underlying35 rawI2 rfl (by decide) (by decide) u_ rs (y3,none,0,0) [.int .i64 y3,.slice none 0 0] (fun k=>some k=(u_:Value).ownBlock∨wl.heap.size≤k) (fun _=>False) rfl rfl (kRaw_mkM _ _ _ _) (fun _ h=>h.elim) (fun k h=>.inr h) (Kd.R_mono HR.out.r (fun k h=>.inl h)) HR.out.b HR.out.b.size ?ql ?_);(case ql=>have:=HRL.out;have:=HJ4.out.2.2;have:=HJ5.out.2.2;have:=HJ6.out.2.2;have:=HLT.out;omega);intro v1 w4 hr1 hb1 hg1 hat1;have HRe:Aside0 (SR w1 w4 v1 (rs ++ [(y3,none,0,0)]) (lr ++ [⟨y3,[]⟩])):=⟨⟨hb1,Kd.R_tight rfl hr1,RawsR.app (rs2:=[((y3:Int),none,0,0)]) (xs2:=[⟨y3,[]⟩]) ⟨⟨rfl,Kd.R_nil _ _ _ _ _⟩,trivial⟩ (RawsR.imp (fun _ _ q=>q.over HR.out.r hg1) HR.out.m)⟩⟩;have HRB1:=Aside0.mk (blk_grown HRB.out hg1 (Kd.R_ne HR.out.r HRB.out (by decide)));obtain⟨rs2,hrs2⟩:∃r,r=rs ++ [((y3:Int),((none:Option Addr),0,0))]:=⟨_,rfl⟩;rw [←hrs2] at hr1 HRe;have HRS:Aside0 (rs2.length=rs.length+1):=⟨by rw [hrs2,List.length_append];rfl⟩;obtain⟨UB,ub,rfl⟩:=Kd.R_slice hr1;clear hr1 hb1 hg1 hat1 hrs2)
     -- MARK20
     clear r0 r1 r2 r3 g0 g1 HR HRB
     have HR:=HRe
     have HRB:=HRB1
     clear HRe HRB1
     try clear wl
     obtain⟨wl,rfl⟩:∃W:World,W=w4:=⟨_,rfl⟩
     have g1:wl.cell? ⟨gx,1,none⟩=some (.slice AX x.f1.length cx):=(blk_cell (blk_below HG.out HR.out.b) 1).trans rfl
     go_wp2
     go_quiet (fail)
     clear g1 q0 q1
     have HR1:=Aside0.mk (HR.out.below (pw_below_drewN (Below.refl _ _) nq))
     have HRB1:=Aside0.mk (blk_below HRB.out (pw_below_drewN (Below.refl _ _) nq))
     clear HR HRB
     have HR:=HR1
     have HRB:=HRB1
     clear HR1 HRB1
     obtain⟨wd,hwd⟩:∃W:World,W=wl.drewN nq:=⟨_,rfl⟩
     rw [←hwd] at HR HRB ⊢
     clear hwd
     try clear wl
     obtain⟨wl,rfl⟩:∃W:World,W=wd:=⟨_,rfl⟩
     go_wp2
     go_roundg (l5.length - (i_+1))
     case measure=>have:=Hi.out;have:=HLT.out;omega
     case rel=>exact⟨i_+1,rs2,by first|rfl|rw [show wrap64 ((i_:Int)+1)=((i_+1:Nat):Int) by have:=HLT.out;have:=HJ5.out.2.2;unfold wrap64;omega],⟨HLT.out,Nat.le_refl _⟩,⟨by rw [HNX.out,HM.out,←List.append_assoc,←HLR.out];exact HR.out⟩,⟨by(try rw [List.length_append]);have:=HRL.out;(try have:=HRS.out);(try simp only [List.length_cons,List.length_nil]);omega⟩⟩
   have hxp:0 < x.f1.length:=by cases e:x.f1 with|nil=>exact absurd e hx0|cons a t=>simp
   have q2:((x.f1.length:Int) == 0)=false:=beq_eq_false_iff_ne.2 (by omega)
   have q3:=decide_eq_true (show (x.f1.length:Int) > 0 by omega)
   have q4:=eq_true (show (x.f1.length:Int) > 0 by omega)
   have q6:=eq_true (show 0 < x.f1.length from hxp)
   have q7:=eq_true (show (0:Int) < (x.f1.length:Int) by omega)
   obtain⟨adx,eX,gh⟩:=int_at (Kd.C_below HX.out.2 HR.out.b) 0 hxp
   obtain⟨hd,hhd⟩:∃h,h=x.f1[0]:=⟨_,rfl⟩
   rw [←hhd] at gh
   have gh2:wl.cell? adx=some (.int .i64 hd):=gh
   have gh3:wl.cell? (adx.add ((0:Int).toNat))=some (.int .i64 hd):=gh
   have HHD:Aside0 (x.f1.headD 0=hd):=⟨by rw [hhd];exact headD_get _ hxp⟩
   have HXP:=Aside0.mk hxp
   subst eX
   clear hhd hx0 hxp
   by_cases d2:y2=hd
   rotate_left
   ·as_aux_lemma=>
     have q5:(y2 == hd)=false:=beq_eq_false_iff_ne.2 d2
     have HM:Aside0 (mvC x s ⟨y0,y1,y2,y3⟩ = []):=⟨if_neg (fun h=>d2 (h.2.2.trans HHD.out))⟩
     clear d0 d1 d2
     go_wp2_with fail
     go_quiet (fail)
     clear r0 r1 r2 g0 g1 gh gh2 gh3 q0 q1
     have HR1:=Aside0.mk (HR.out.below (pw_below_drewN (Below.refl _ _) nq))
     have HRB1:=Aside0.mk (blk_below HRB.out (pw_below_drewN (Below.refl _ _) nq))
     clear HR HRB
     have HR:=HR1
     have HRB:=HRB1
     clear HR1 HRB1
     obtain⟨wd,hwd⟩:∃W:World,W=wl.drewN nq:=⟨_,rfl⟩
     rw [←hwd] at HR HRB ⊢
     clear hwd
     try clear wl
     obtain⟨wl,rfl⟩:∃W:World,W=wd:=⟨_,rfl⟩
     go_wp2
     go_roundg (l5.length - (i_+1))
     case measure=>have:=Hi.out;have:=HLT.out;omega
     case rel=>exact⟨i_+1,rs,by first|rfl|rw [show wrap64 ((i_:Int)+1)=((i_+1:Nat):Int) by have:=HLT.out;have:=HJ5.out.2.2;unfold wrap64;omega],⟨HLT.out,Nat.le_refl _⟩,⟨by rw [HNX.out,HM.out,List.append_nil,←HLR.out];exact HR.out⟩,⟨by(try rw [List.length_append]);have:=HRL.out;(try have:=HRS.out);(try simp only [List.length_cons,List.length_nil]);omega⟩⟩
   have q5:(y2 == hd)=true:=beq_iff_eq.2 d2
   have HM:Aside0 (mvC x s ⟨y0,y1,y2,y3⟩ = [⟨y3,x.f1.tail⟩]):=⟨if_pos ⟨d0,d1,by rw [HHD.out];exact d2⟩⟩
   clear d0 d1 d2
   go_wp2_with fail
   go_quiet (fail)
   clear r0 r1 r2 g0 g1 gh gh2 gh3 q0 q1
   have HR1:=Aside0.mk (HR.out.below (pw_below_drewN (Below.refl _ _) nq))
   have HRB1:=Aside0.mk (blk_below HRB.out (pw_below_drewN (Below.refl _ _) nq))
   clear HR HRB
   have HR:=HR1
   have HRB:=HRB1
   clear HR1 HRB1
   obtain⟨wd,hwd⟩:∃W:World,W=wl.drewN nq:=⟨_,rfl⟩
   rw [←hwd] at HR HRB ⊢
   clear hwd
   try clear wl
   obtain⟨wl,rfl⟩:∃W:World,W=wd:=⟨_,rfl⟩
   go_upto_region 22 with (fail)
   clear q2 q3 q4 q5 q6 q7
   obtain⟨i0_,hi0,_,hsz0,_⟩:=info_parts infoInt
   have hcut:=cut_from (P:=Try.prog) 22 3 .i64 Try.underlying22 hi0 1 hsz0 (some adx) x.f1.length cx 1 (by decide) (by have:=HXP.out;omega)
   rw [show ((1:Int).toNat)=1 from rfl] at hcut
   obtain⟨AT,hAT⟩:∃A1,A1=(if cx=1 then (some adx) else (some adx:Option Addr).map (·.add (1*1))):=⟨_,rfl⟩
   rw [←hAT] at hcut
   obtain⟨nt,hnt⟩:∃m,m=x.f1.length - 1:=⟨_,rfl⟩
   obtain⟨ct,hct⟩:∃m,m=cx - 1:=⟨_,rfl⟩
   have HTL:Aside0 (Kd.C (Kd.int .i64) w1 AT nt x.f1.tail):=⟨by
    have h:=Kd.C_drop (m:=1) (c:=cx) HX.out.2 HXP.out HX.out.1
    rw [hAT,hnt,←List.drop_one,←List.length_drop]
    exact h⟩
   have HNT:Aside0 (nt≤1000):=⟨by have:=HXL.out;omega⟩
   rw [←hnt,←hct] at hcut
   clear hAT hnt hct hi0 hsz0
   obtain⟨u_,hu_⟩:∃u:Value,u=.slice UA rs.length uc:=⟨_,rfl⟩
   rw [←hu_] at HR ⊢
   clear hu_
   refine start_ (n:=12) (S:=fun w'=>w'.cell? ⟨gx,1,none⟩=some (.slice (some adx) x.f1.length cx)∧w'.cell? ⟨rb,3,none⟩=some (.int .i64 y3)) (ds:=[]) (pm 0 12) (by kernel_rfl) rfl rfl ⟨(blk_cell (blk_below HG.out (Aside0.mk (HR.out.below (below_drew (Below.refl _ _)))).out.b) 1).trans rfl,(blk_cell (Aside0.mk (blk_drew HRB.out)).out 3).trans rfl⟩ (fun hHeld=>?_)
   refine with_tabW St22t.tab St22t.bits (fun HT_ HW_=>?_)
   have HRd:=Aside0.mk (HR.out.below (below_drew (Below.refl _ _)))
   have HRBd:=Aside0.mk (blk_drew HRB.out)
   clear HR HRB
   obtain⟨wd,hwd⟩:∃W:World,W=wl.drew:=⟨_,rfl⟩
   rw [←hwd] at HRd HRBd hHeld ⊢
   clear hwd
   try clear wl
   iterate 3 (first|(refine pn_ (v:=?_) (a':=?_) rfl (rfl (a:=some _)) (any_of HT_.out (by kernel_rfl)) (fun _ _ _ h=>h) (Or.inl ⟨by rfl,?_⟩) ?_ ?_;rotate_left;(intro w';go_simp;with_reducible rfl);rotate_left;(simp only [Act.put,M.sq3,i64_w,i32_w];rfl))|(refine tn_ (v:=?_) (a':=?_) rfl (rfl (a:=some _)) (take_ofW HT_.out HW_.out (by kernel_rfl)) (fun _ _ _ h=>h) (Or.inl ⟨by rfl,?_⟩) hHeld ?_ ?_;rotate_left;(intro w' hS_;obtain⟨s0,s1⟩:=hS_;go_simp;with_reducible rfl);rotate_left;(simp only [Act.put,M.sq3,i64_w,i32_w];rfl)))
   refine po_ 4 (v:=?_) (a':=?_) rfl (rfl (a:=some _)) (any_of HT_.out (by kernel_rfl)) (fun _ _ _ h=>h) (Or.inl ⟨by rfl,?_⟩) ?_ ?_;rotate_left;(intro w';go_simp;with_reducible rfl);rotate_left;(simp only [Act.put,M.sq3,i64_w,i32_w];rfl)
   refine to_ 5 (v:=?_) (a':=?_) rfl (rfl (a:=some _)) (take_ofW HT_.out HW_.out (by kernel_rfl)) (fun _ _ _ h=>h) (Or.inl ⟨by rfl,?_⟩) hHeld ?_ ?_;rotate_left;(intro w' hS_;obtain⟨s0,s1⟩:=hS_;go_simp;with_reducible rfl);rotate_left;(simp only [Act.put,M.sq3,i64_w,i32_w];rfl)
   refine po_ 6 (v:=?_) (a':=?_) rfl (rfl (a:=some _)) (any_of HT_.out (by kernel_rfl)) (fun _ _ _ h=>h) (Or.inl ⟨by rfl,?_⟩) ?_ ?_;rotate_left;(intro w';go_simp;with_reducible rfl);rotate_left;(simp only [Act.put,M.sq3,i64_w,i32_w];rfl)
   refine one_ (i:=3) (N:=(some 136)) (pm 7 5) rfl rfl (one_of HT_.out (by kernel_rfl)) (by decide) (fun K hK=>?_)
   refine Kd.R_lit_step (Kd.int .i64) _ 3 ?hg (N:=136) ?hd (xs:=([]:List Int)) (inner:=[]) (ok:=fun _=>True) (okp:=fun _=>True) ?hr ?hp (fun _ hk=>hk) trivial HRd.out.b HRd.out.b.size (by simp) ?_
   case hd=>rfl
   case hg=>rfl
   case hr=>first|(go_simp;done)|(go_simp;rfl)
   case hp=>exact(Reps.none _ _)
   intro v0 wa ho hb hg_ hn_
   have HRa:=Aside0.mk (HRd.out.grown hb hg_)
   have HRBa:=Aside0.mk (blk_grown HRBd.out hg_ nen)
   have HUa:=Aside0.mk (Kd.R_tight rfl ho)
   have HNa:Aside0 (∀r∈rs,∀k,some k=(rawV r.2).ownBlock→some k≠v0.ownBlock):=⟨fun r hr k hk=>by
    obtain⟨b,e,hb2⟩:=hn_
    have hlt:=HRd.out.m.lt r hr k hk
    rw [e]
    intro h
    cases h
    omega⟩
   clear ho hb hg_ hn_ hHeld HRd HRBd
   refine hK.out _ _ ⟨(blk_cell (blk_below HG.out HRa.out.b) 1).trans rfl,(blk_cell HRBa.out 3).trans rfl⟩ (fun hHeld=>?_)
   clear hK K
   refine norm_ (a':=?_) ?_ ?_
   rotate_left
   ·show Act.put _ (some 136) _ = _
    simp only [Act.put,M.sq3,i64_w,i32_w]
    rfl
   refine one_ (i:=7) (N:=(some 140)) (pm 8 4) rfl rfl (one_of HT_.out (by kernel_rfl)) (by decide) (fun K hK=>?_)
   refine Kd.R_append_rows_step (Kd.int .i64) (w0:=w1) w1.heap.size (by rfl) (.tmp 136) (.tmp 139) 22 3 (.int .i64 0) 8 rfl Try.underlying22 infoInt rfl (by decide) (by omega) v0 ([]:List Int) (x.f1.tail) (AT) (nt) (ct) (fun _=>True) (fun _=>False) rfl rfl (Kd.R_mono HUa.out (fun _ _=>trivial)) (Kd.C_below HTL.out HRa.out.b) (fun _ _ h=>h) (fun _ h=>h.elim) (fun _ _=>trivial) HRa.out.b HRa.out.b.size ?aL ?_
   case aL=>have:=HXL.out;have:=HNT.out;first|omega|(simp;omega)
   intro v1 wb ho hb hg_ hat_
   have HRb:=Aside0.mk (HRa.out.overI hb HUa.out hg_ HNa.out)
   have HRBb:=Aside0.mk (blk_grown HRBa.out hg_ (Kd.R_ne HUa.out HRBa.out (by decide)))
   obtain⟨sl,hsl⟩:∃l,l=(([]:List Int) ++ x.f1.tail):=⟨_,rfl⟩
   rw [←hsl] at ho
   have HSL:Aside0 (sl=x.f1.tail):=⟨by rw [hsl];rfl⟩
   clear hsl
   obtain⟨SA,sc,rfl⟩:=Kd.R_slice ho
   have HUb:=Aside0.mk (Kd.R_tight rfl ho)
   clear ho hb hg_ hat_ hHeld HRa HRBa HUa HNa
   refine hK.out _ _ ⟨(blk_cell (blk_below HG.out HRb.out.b) 1).trans rfl,(blk_cell HRBb.out 3).trans rfl⟩ (fun hHeld=>?_)
   clear hK K
   refine norm_ (a':=?_) ?_ ?_
   rotate_left
   ·show Act.put _ (some 140) _ = _
    simp only [Act.put,M.sq3,i64_w,i32_w]
    rfl
   refine pn_ (v:=?_) (a':=?_) rfl (rfl (a:=some _)) (any_of HT_.out (by kernel_rfl)) (fun _ _ _ h=>h) (Or.inl ⟨by rfl,?_⟩) ?_ ?_;rotate_left;(intro w';go_simp;with_reducible rfl);rotate_left;(simp only [Act.put,M.sq3,i64_w,i32_w];rfl)
   refine one_ (i:=9) (N:=(some 142)) (pm 10 2) rfl rfl (one_of HT_.out (by kernel_rfl)) (by decide) (fun K hK=>?_)
   refine Kd.R_lit_step kRaw _ 67 ?hg (N:=142) ?hd (xs:=[((y3:Int),SA,sl.length,sc)]) (inner:=[.int .i64 y3,.slice SA sl.length sc]) (ok:=fun _=>True) (okp:=fun _=>True) ?hr ?hp (fun _ hk=>hk) trivial HRb.out.b HRb.out.b.size (by simp) ?_
   case hd=>rfl
   case hg=>rfl
   case hr=>first|(go_simp;done)|(go_simp;rfl)
   case hp=>exact(Reps.c2 (show kRaw.M _ _ _ (y3,SA,sl.length,sc) [.int .i64 y3,.slice SA sl.length sc] from⟨_,_,rfl,rfl,rfl⟩) (Reps.none _ _))
   intro v2 wc ho hb hg_ hn_
   have HRc:=Aside0.mk (HRb.out.grown hb hg_)
   have HRBc:=Aside0.mk (blk_grown HRBb.out hg_ nen)
   have HUc:=Aside0.mk (Kd.R_grown HUb.out hg_ (fun _ _=>nen))
   obtain⟨XA,xc,rfl⟩:=Kd.R_slice ho
   have HXc:=Aside0.mk (Kd.R_reads' ho).2.2
   clear ho hb hg_ hn_ hHeld HRb HRBb HUb
   refine hK.out _ _ ⟨(blk_cell (blk_below HG.out HRc.out.b) 1).trans rfl,(blk_cell HRBc.out 3).trans rfl⟩ (fun hHeld=>?_)
   clear hK K
   refine norm_ (a':=?_) ?_ ?_
   rotate_left
   ·show Act.put _ (some 142) _ = _
    simp only [Act.put,M.sq3,i64_w,i32_w]
    rfl
   refine one_ (i:=10) (N:=(some 143)) (pm 11 1) rfl rfl (one_of HT_.out (by kernel_rfl)) (by decide) (fun K hK=>?_)
   refine Kd.R_append_rows_step kRaw (w0:=w1) w1.heap.size (by rfl) (.tmp 133) (.tmp 142) 35 67 (.agg #[.int .i64 0,.slice none 0 0]) 32 rfl Try.underlying35 rawI2 rfl (by decide) (by omega) u_ rs [((y3:Int),SA,sl.length,sc)] _ _ _ (fun _=>True) (fun _=>False) rfl rfl (Kd.R_mono HRc.out.r (fun _ _=>trivial)) HXc.out (fun _ _ h=>h) (fun _ h=>h.elim) (fun _ _=>trivial) HRc.out.b HRc.out.b.size ?aL ?_
   case aL=>have:=HRL.out;have:=HJ4.out.2.2;have:=HJ5.out.2.2;have:=HJ6.out.2.2;have:=HLT.out;first|omega|(simp;omega)
   intro v3 we ho hb hg_ hat_
   have HRe:Aside0 (SR w1 we v3 (rs ++ [((y3:Int),SA,sl.length,sc)]) (lr ++ [⟨y3,x.f1.tail⟩])):=⟨⟨hb,Kd.R_tight rfl ho,RawsR.app (rs2:=[((y3:Int),SA,sl.length,sc)]) (xs2:=[⟨y3,x.f1.tail⟩]) ⟨⟨rfl,by rw [←HSL.out];exact Kd.R_over' HUc.out (Kd.R_typed HRc.out.r) (by intro q hq;rcases List.mem_cons.1 hq with rfl|hq;decide;cases hq) hg_⟩,trivial⟩ (RawsR.imp (fun _ _ q=>q.over HRc.out.r hg_) HRc.out.m)⟩⟩
   have HRBe:=Aside0.mk (blk_grown HRBc.out hg_ (Kd.R_ne HRc.out.r HRBc.out (by decide)))
   clear ho hb hg_ hat_ hHeld HRc HRBc HUc HXc
   refine hK.out _ _ ⟨(blk_cell (blk_below HG.out HRe.out.b) 1).trans rfl,(blk_cell HRBe.out 3).trans rfl⟩ (fun hHeld=>?_)
   clear hK K
   refine norm_ (a':=?_) ?_ ?_
   rotate_left
   ·show Act.put _ (some 143) _ = _
    simp only [Act.put,M.sq3,i64_w,i32_w]
    rfl
   refine pn_ (v:=?_) (a':=?_) rfl (rfl (a:=some _)) (any_of HT_.out (by kernel_rfl)) (fun _ _ _ h=>h) (Or.inl ⟨by rfl,?_⟩) ?_ ?_;rotate_left;(intro w';go_simp;with_reducible rfl);rotate_left;(simp only [Act.put,M.sq3,i64_w,i32_w];rfl)
   refine done_ (done_of HT_.out (by kernel_rfl)) ?_
   go_wp2
   go_roundg (l5.length - (i_+1))
   case measure=>have:=Hi.out;have:=HLT.out;omega
   case rel=>exact⟨i_+1,_,by first|rfl|rw [show wrap64 ((i_:Int)+1)=((i_+1:Nat):Int) by have:=HLT.out;have:=HJ5.out.2.2;unfold wrap64;omega],⟨HLT.out,Nat.le_refl _⟩,⟨by rw [HNX.out,HM.out,←List.append_assoc,←HLR.out];exact HRe.out⟩,⟨by(try rw [List.length_append]);have:=HRL.out;(try have:=HRS.out);(try simp only [List.length_cons,List.length_nil]);omega⟩⟩
 have e4:l5.take i_=l5:=List.take_of_length_le (by omega)
 rw [e4] at HR
 have s3:=eq_false (show ¬(i_:Int) < (l5.length:Int) by omega)
 clear hl_ e4 Hi
 go_wp2
 go_ret
 exact⟨UA,uc,rs,rfl,(Kd.R_reads' HR.out.r).2.2,(Kd.R_reads' HR.out.r).2.1,HR.out.m.of,below_then HW.out HW.out.size HR.out.b⟩
end Go.Proofs.Ytjkhdldgmkkhjaa.P
