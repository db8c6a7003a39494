/- Words and walks of this claim: STkRef. -/
import Derived.Test.YtjkhdldgmkkhjaaIUTyEtc
import Derived.Test.YtjkhdldgmkkhjaaITkBack
import Derived.Test.YtjkhdldgmkkhjaaITkInside
import Derived.BigQuiet
set_option linter.unusedVariables false
set_option linter.unusedSimpArgs false
set_option linter.unnecessarySimpa false
namespace Go.Proofs.Ytjkhdldgmkkhjaa.P
open Go.RowKit Go.Proofs.YtjkhdldgmkkhjaaW.PrintWords Go.Proofs.YtjkhdldgmkkhjaaW.PrintLast Go.Proofs.YtjkhdldgmkkhjaaW.PrintMore Go.Proofs.Ytjkhdldgmkkhjaa.M
def takesR (n:Int) (l:List TSym) (init final:List Int) (os:List TOpen) (cs:List TClose) (is:List TInner) (w:List Int):Bool:=
 if 1≤n∧n≤200 then (if insB n init final os cs is=true then takesB l init final os cs is w else false) else false
theorem tk_lev:(Try.prog.info? 87).map (fun i=>(i.zero,i.size,i.bytes))=some (some (.agg #[.slice none 0 0,.int .i64 0]),2,32):=by kernel_rfl
def Tk8r.T:Bool × List (List Nat × List Nat):=(true,[([],[]),([0],[0]),([],[]),([2],[2]),([],[]),([3,4],[3,4]),([5],[5]),([],[]),([6,7],[6,7]),([],[]),([9],[9]),([],[]),([10,11],[10,11]),([12],[12]),([8,13],[8,13]),([1,14,0,1,2,3,4,5,6,7,8,9,10,11,12,13,14],[1,14]),([15,0,1,2,3,4,5,6,7,8,9,10,11,12,13,14],[15])])
def Tk8r.B:List Nat:=[0,1,0,4,0,28,60,0,252,0,512,0,3584,7680,16380,32767,65535]
theorem Tk8r.tab:rtab .any (opsOf Try.f27 8)=Tk8r.T:=by kernel_rfl
theorem Tk8r.bits:waitsOk Tk8r.T.2 Tk8r.B=true:=by kernel_rfl
def Tk36r.T:Bool × List (List Nat × List Nat):=(true,[([],[]),([],[]),([1],[1]),([0,2],[0,2]),([],[]),([],[]),([4,5],[4,5]),([6],[6]),([3,3,0,1,2,3],[0,3]),([0,1,2,3,4,5,6,7,8],[]),([9,7,8,0,1,2,3,4,5,6,7,8],[7,9])])
def Tk36r.B:List Nat:=[0,0,2,7,0,0,48,112,15,511,1023]
theorem Tk36r.tab:rtab .any (opsOf Try.f27 36)=Tk36r.T:=by kernel_rfl
theorem Tk36r.bits:waitsOk Tk36r.T.2 Tk36r.B=true:=by kernel_rfl
def Tk39r.T:Bool × List (List Nat × List Nat):=(true,[([],[]),([],[]),([],[]),([2],[2]),([3],[3]),([1,4],[1,4]),([5],[5]),([],[]),([],[]),([],[]),([8,9],[8,9]),([10],[10]),([0,6,7,11],[0,6,7,11]),([12,12,0,1,2,3,4,5,6,7,8,9,10,11,12],[12])])
def Tk39r.B:List Nat:=[0,0,0,4,12,30,62,0,0,0,768,1792,4095,8191]
theorem Tk39r.tab:rtab .any (opsOf Try.f27 39)=Tk39r.T:=by kernel_rfl
theorem Tk39r.bits:waitsOk Tk39r.T.2 Tk39r.B=true:=by kernel_rfl
set_option maxHeartbeats 16000000 in
set_option maxRecDepth 100000 in
theorem reftk_own (n g:Int) (A0:Option Addr) (c0:Nat) (l0:List TSym) (A2:Option Addr) (c2:Nat) (l2:List Int) (A3:Option Addr) (c3:Nat) (l3:List Int) (A4:Option Addr) (c4:Nat) (l4:List TOpen) (A5:Option Addr) (c5:Nat) (l5:List TClose) (A6:Option Addr) (c6:Nat) (l6:List TInner) (A7:Option Addr) (c7:Nat) (l7:List Int) (w:World) (h0:Kd.C k46 w A0 l0.length l0) (hc0:l0.length≤c0) (hl0:l0.length≤1000000) (h2:Kd.C (Kd.int .i64) w A2 l2.length l2) (hc2:l2.length≤c2) (hl2:l2.length≤1000000) (h3:Kd.C (Kd.int .i64) w A3 l3.length l3) (hc3:l3.length≤c3) (hl3:l3.length≤1000000) (h4:Kd.C k52 w A4 l4.length l4) (hc4:l4.length≤c4) (hl4:l4.length≤1000000) (h5:Kd.C k54 w A5 l5.length l5) (hc5:l5.length≤c5) (hl5:l5.length≤1000000) (h6:Kd.C k56 w A6 l6.length l6) (hc6:l6.length≤c6) (hl6:l6.length≤1000000) (h7:Kd.C (Kd.int .i64) w A7 l7.length l7) (hc7:l7.length≤c7) (hl7:l7.length≤1000000) :
 Calls Try.prog 27 #[.slice A0 l0.length c0,.agg #[.int .i64 n,.int .i64 g,.slice A2 l2.length c2,.slice A3 l3.length c3,.slice A4 l4.length c4,.slice A5 l5.length c5,.slice A6 l6.length c6],.slice A7 l7.length c7] w fun e w'=>e=.returned (.bool (takesR n l0 l2 l3 l4 l5 l6 l7))∧Below w.heap.size w w':=by
 have HI0:=Aside0.mk (And.intro h0 (And.intro hc0 hl0))
 have HI2:=Aside0.mk (And.intro h2 (And.intro hc2 hl2))
 have HI3:=Aside0.mk (And.intro h3 (And.intro hc3 hl3))
 have HI4:=Aside0.mk (And.intro h4 (And.intro hc4 hl4))
 have HI5:=Aside0.mk (And.intro h5 (And.intro hc5 hl5))
 have HI6:=Aside0.mk (And.intro h6 (And.intro hc6 hl6))
 have HI7:=Aside0.mk (And.intro h7 (And.intro hc7 hl7))
 clear h0 hc0 hl0 h2 hc2 hl2 h3 hc3 hl3 h4 hc4 hl4 h5 hc5 hl5 h6 hc6 hl6 h7 hc7 hl7
 obtain⟨rv,hrv⟩:∃rv,rv=takesR n l0 l2 l3 l4 l5 l6 l7:=⟨_,rfl⟩
 rw [←hrv]
 have HRV:=Aside0.mk hrv
 clear hrv
 go_enter Try.func27,Try.ntmps27
 go_upto_region 1 with (fail)
 have HA:Aside0 ((w.alloc (.cells #[.int .i64 n,.int .i64 g,.slice A2 l2.length c2,.slice A3 l3.length c3,.slice A4 l4.length c4,.slice A5 l5.length c5,.slice A6 l6.length c6] 30)).heap[w.heap.size]? = some (.cells #[.int .i64 n,.int .i64 g,.slice A2 l2.length c2,.slice A3 l3.length c3,.slice A4 l4.length c4,.slice A5 l5.length c5,.slice A6 l6.length c6] 30 (0,0))):=⟨blk_newAt _ rfl⟩
 have HB:Aside0 (Below w.heap.size w (w.alloc (.cells #[.int .i64 n,.int .i64 g,.slice A2 l2.length c2,.slice A3 l3.length c3,.slice A4 l4.length c4,.slice A5 l5.length c5,.slice A6 l6.length c6] 30))):=⟨below_alloc (Below.refl _ _) _⟩
 have HGA:Aside0 (w.heap.size≤w.heap.size):=⟨Nat.le_refl _⟩
 obtain⟨wq,hwq⟩:∃wq:World,wq=(w.alloc (.cells #[.int .i64 n,.int .i64 g,.slice A2 l2.length c2,.slice A3 l3.length c3,.slice A4 l4.length c4,.slice A5 l5.length c5,.slice A6 l6.length c6] 30)):=⟨_,rfl⟩
 rw [←hwq] at HA HB ⊢
 clear hwq
 obtain⟨ga,hga⟩:∃ga,ga=w.heap.size:=⟨_,rfl⟩
 have HGA:Aside0 (w.heap.size≤ga):=⟨by omega⟩
 rewrite [←hga] at HA ⊢
 clear hga
 obtain⟨b0,b1,b2,b3,b4,b5,b6⟩:=tk_cells HA.out
 go_upto_region 2 with (fail)
 by_cases hn1:n < 1
 ·have q1 := decide_eq_true hn1
  have HRV2:Aside0 (rv=false):=⟨by rw [HRV.out];unfold takesR;rw [if_neg (by omega)]⟩
  clear hn1 HRV
  go_wp2
  go_ret
  exact⟨by rw [HRV2.out];rfl,HB.out⟩
 by_cases hn2:n > 200
 ·have q1 := decide_eq_false hn1
  have q2:=decide_eq_true hn2
  have HRV2:Aside0 (rv=false):=⟨by rw [HRV.out];unfold takesR;rw [if_neg (by omega)]⟩
  clear hn1 hn2 HRV
  go_wp2
  go_ret
  exact⟨by rw [HRV2.out];rfl,HB.out⟩
 have q1:=decide_eq_false hn1
 have q2:=decide_eq_false hn2
 have HN:Aside0 (1≤n∧n≤200):=⟨by omega⟩
 clear hn1 hn2
 go_wp2_with fail
 refine(inside_own n g A2 c2 l2 A3 c3 l3 A4 c4 l4 A5 c5 l5 A6 c6 l6 wq (Kd.C_below HI2.out.1 HB.out) HI2.out.2.1 HI2.out.2.2 (Kd.C_below HI3.out.1 HB.out) HI3.out.2.1 HI3.out.2.2 (Kd.C_below HI4.out.1 HB.out) HI4.out.2.1 HI4.out.2.2 (Kd.C_below HI5.out.1 HB.out) HI5.out.2.1 HI5.out.2.2 (Kd.C_below HI6.out.1 HB.out) HI6.out.2.1 HI6.out.2.2).mono ?_
 rintro e wb ⟨rfl,hb_⟩
 have HA1:=Aside0.mk (blk_below HA.out hb_)
 have HB1:=Aside0.mk (below_then HB.out HB.out.size hb_)
 clear hb_ HA HB b0 b1 b2 b3 b4 b5 b6
 have HA:=HA1
 have HB:=HB1
 clear HA1 HB1 wq
 obtain⟨wq,rfl⟩:∃W:World,W=wb:=⟨_,rfl⟩
 by_cases hin:insB n l2 l3 l4 l5 l6=true
 rotate_left
 ·have e1 : insB n l2 l3 l4 l5 l6 = false := by cases h : insB n l2 l3 l4 l5 l6 <;> simp_all
  have HRV2:Aside0 (rv=false):=⟨by rw [HRV.out];unfold takesR;rw [if_pos HN.out,if_neg hin]⟩
  rw [e1]
  clear hin e1 HRV
  go_wp2
  go_ret
  exact⟨by rw [HRV2.out];rfl,HB.out⟩
 have HINS:=Aside0.mk (ins_of hin)
 have HRV2:Aside0 (rv=takesB l0 l2 l3 l4 l5 l6 l7):=⟨by rw [HRV.out];unfold takesR;rw [if_pos HN.out,if_pos hin]⟩
 rw [hin]
 clear hin HRV
 -- MARK1
 clear q1 q2
 obtain⟨b0,b1,b2,b3,b4,b5,b6⟩:=tk_cells HA.out
 obtain⟨n2,hn2⟩:∃n2:Nat,n2=(n*n).toNat:=⟨_,rfl⟩
 have HNN:=Aside0.mk (nn_in HN.out.1 HN.out.2)
 have HN2:Aside0 ((n2:Int)=n*n∧1≤n2∧n2≤40000∧n2=(n*n).toNat):=⟨by have h1:=HNN.out.1;have h2:=HNN.out.2.1;exact⟨by omega,by omega,by omega,hn2⟩⟩
 have HNW:Aside0 (wrap64 (n*n)=(n2:Int)):=⟨by rw [HNN.out.2.2];exact HN2.out.1.symm⟩
 clear hn2
 have HBq:Aside0 (Below wq.heap.size wq wq):=⟨Below.refl _ _⟩
 go_upto_region 5 with (first|((with_reducible refine gate_dst (N:=40) rfl ?_);refine Kd.R_make Kd.bool wq.heap.size 4 rfl (N:=40) rfl 59 _ _ rfl (wrap64 (n*n)) rfl rfl Try.underlying59 (.bool false) 1 tk_info rfl (by decide) (by decide) false (ok:=fun _=>True) (okp:=fun _=>True) rfl (fun _ hk=>hk) trivial (by rw [HNW.out];omega) (by rw [HNW.out];have:=HN2.out;omega) HBq.out HBq.out.size ?_;intro v1 w1 hr1 hb1 hg1 hat1;rw [HNW.out,Int.toNat_natCast] at hr1;obtain⟨b,c,rfl⟩:=tk_form hr1 List.length_replicate HN2.out.2.1;have HR1:=Aside0.mk (Kd.R_tight rfl hr1);have HB1:=Aside0.mk hb1;clear hr1 hb1 hg1 hat1))
 have HX:Aside0 (NxR wq (w1.alloc (.cells #[BV n2 b c,.int .i64 0] 87)) n2 b c w1.heap.size 0 (List.replicate n2 false)):=⟨⟨below_alloc HB1.out _,Kd.R_alloc HR1.out _,blk_newAt _ rfl,HB1.out.size⟩⟩
 have HMt:Aside0 (Mat n (List.replicate n2 false) ((l2.take 0).map fun s=>(s,s))):=⟨by rw [HN2.out.2.2.2];exact Mat.zero n⟩
 obtain⟨wl,hwl⟩:∃W:World,W=w1.alloc (.cells #[BV n2 b c,.int .i64 0] 87):=⟨_,rfl⟩
 obtain⟨gn,hgn⟩:∃g,g=w1.heap.size:=⟨_,rfl⟩
 rw [←hwl,←hgn] at HX
 rw [←hwl,←hgn]
 clear hwl hgn HR1 HB1 HBq w1
 -- MARK2
 go_wp2
 go_loopg [9] l2.length (fun gk vi w'=>∃(i_:Nat) (M:List Bool),vi=.int .i64 (i_:Int)∧Aside0 (i_≤l2.length∧l2.length - i_≤gk)∧Aside0 (NxR wq w' n2 b c gn 0 M)∧Aside0 (Mat n M ((l2.take i_).map fun s=>(s,s))))
 case atStart=>exact⟨0,_,rfl,⟨by omega,by omega⟩,HX,HMt⟩
 case round=>
  clear HX HMt
  obtain⟨i_,M,rfl,Hi,HX,HMt⟩:=hrel
  try clear wl
  obtain⟨wl,rfl⟩:∃W:World,W=wr:=⟨_,rfl⟩
  have hA:=blk_below HA.out HX.out.b
  obtain⟨a0,a1,a2,a3,a4,a5,a6⟩:=tk_cells hA
  have HAq:=Aside0.mk hA
  clear hA b0 b1 b2 b3 b4 b5 b6
  by_cases hlt:i_ < l2.length
  ·have HLT := Aside0.mk hlt
   obtain⟨ad,eA,cx⟩:=int_at (Kd.C_below HI2.out.1 (below_then HB.out HB.out.size HX.out.b)) i_ hlt
   have hIN:=HINS.out.i l2[i_] (List.getElem_mem hlt)
   have HNX:Aside0 ((l2.take (i_+1)).map (fun s=>(s,s))=(l2.take i_).map (fun s=>(s,s)) ++ [(l2[i_],l2[i_])]):=⟨by rw [List.take_add_one,List.getElem?_eq_getElem hlt,List.map_append];rfl⟩
   generalize l2[i_]=x at cx HNX hIN
   obtain⟨zx,hzx⟩:∃t:Int,t=x*n:=⟨_,rfl⟩
   have HHzx:=Aside0.mk hzx
   have ez1:wrap64 (x*n)=zx:=by rw [hzx];exact(ix_wrap HN.out.2 hIN hIN).1
   clear hzx
   obtain⟨z,hz⟩:∃t:Int,t=zx+x:=⟨_,rfl⟩
   have Hz:Aside0 (z=x*n+x∧0≤z∧z < (n2:Int)):=⟨by have h1:=ix_in HN.out.2 hIN hIN;have h2:=HN2.out.1;rw [hz,HHzx.out];exact⟨rfl,by omega,by omega⟩⟩
   have ez2:wrap64 (zx+x)=z:=by rw [hz,HHzx.out];exact(ix_wrap HN.out.2 hIN hIN).2
   have pz:=eq_true Hz.out.2.1
   have rz:=eq_true Hz.out.2.2
   clear hz
   have HIN:=Aside0.mk hIN
   have s1:=eq_true (show (i_:Int) < (l2.length:Int) by omega)
   have s2:=eq_true (show (0:Int)≤(i_:Int) by omega)
   subst eA
   clear hlt hIN
   have k0:wl.cell? ⟨gn,0,none⟩=some (BV n2 b c):=(blk_cell HX.out.g 0).trans rfl
   go_upto_region 8 with (fail)
   refine start_ (n:=17) (S:=fun w'=>w'.cell? ⟨gn,0,none⟩=some (BV n2 b c)∧w'.cell? ⟨ga,2,none⟩=some (.slice (some ad) l2.length c2)∧w'.cell? (ad.add i_)=some (.int .i64 x)) (ds:=[16]) (pm 0 17) (by kernel_rfl) rfl rfl ⟨k0,a2,cx⟩ (fun hHeld=>?_)
   refine with_tabW Tk8r.tab Tk8r.bits (fun HT_ HW_=>?_)
   have HX1:=Aside0.mk (HX.out.below (below_drew (Below.refl _ _)))
   clear HX k0 a0 a1 a2 a3 a4 a5 a6 cx
   have HX:=HX1
   clear HX1
   obtain⟨wd,hwd⟩:∃W:World,W=wl.drew:=⟨_,rfl⟩
   rw [←hwd] at HX hHeld ⊢
   clear hwd
   try clear wl
   obtain⟨wl,rfl⟩:∃W:World,W=wd:=⟨_,rfl⟩
   iterate 16 (first|(refine pn_ (v:=?_) (a':=?_) rfl (rfl (a:=some _)) (any_of HT_.out (by kernel_rfl)) (fun _ _ _ h=>h) (Or.inl ⟨by rfl,?_⟩) ?_ ?_;rotate_left;(intro w';go_simp;with_reducible rfl);rotate_left;(simp only [Act.put,List.setIfInBounds_toArray,List.set_cons_zero,List.set_cons_succ,i64_w,i32_w];rfl))|(refine tn_ (v:=?_) (a':=?_) rfl (rfl (a:=some _)) (take_ofW HT_.out HW_.out (by kernel_rfl)) (fun _ _ _ h=>h) (Or.inl ⟨by rfl,?_⟩) hHeld ?_ ?_;rotate_left;(intro w' hS_;obtain⟨s0,s1,s2⟩:=hS_;go_simp;with_reducible rfl);rotate_left;(simp only [Act.put,List.setIfInBounds_toArray,List.set_cons_zero,List.set_cons_succ,i64_w,i32_w];rfl)))
   refine last_ (i:=16) (N:=none) (pm 17 0) rfl rfl (one_of HT_.out (by kernel_rfl)) (by decide) (fun K hK=>?_)
   obtain⟨y1_,y2_⟩:=Kd.R_celln false HX.out.r z (of_eq_true pz) (of_eq_true rz)
   refine Go.Proofs.Ytjkhdldgmkkhjaa.M.step_skip (w1:=wl.setCell ⟨b,z.toNat,none⟩ (.bool true)) rfl rfl (by go_simp) ?_
   clear y1_ y2_ hHeld
   have HX1:=Aside0.mk (HX.out.put z)
   clear HX
   have HX:=HX1
   clear HX1
   refine hK.out _ _ ?_
   clear hK K
   obtain⟨wd,hwd⟩:∃W:World,W=wl.setCell ⟨b,z.toNat,none⟩ (.bool true):=⟨_,rfl⟩
   rw [←hwd] at HX ⊢
   clear hwd
   try clear wl
   obtain⟨wl,rfl⟩:∃W:World,W=wd:=⟨_,rfl⟩
   refine done_ (done_of HT_.out (by kernel_rfl)) ?_
   clear s1 s2 ez1 ez2 pz rz
   go_wp2
   go_roundg (l2.length - (i_+1))
   case measure=>have:=Hi.out;have:=HLT.out;omega
   case rel=>exact⟨i_+1,M.set z.toNat true,by first|rfl|rw [show wrap64 ((i_:Int)+1)=((i_+1:Nat):Int) by have:=HLT.out;have:=HI2.out.2.2;unfold wrap64;omega],⟨HLT.out,Nat.le_refl _⟩,HX,⟨by rw [HNX.out,Hz.out.1];exact HMt.out.push HN.out.2 HIN.out HIN.out⟩⟩
  have e4:l2.take i_=l2:=List.take_of_length_le (by omega)
  rw [e4] at HMt
  have s1:=eq_false (show ¬(i_:Int) < (l2.length:Int) by omega)
  clear hlt e4 Hi
  have HT:Aside0 (TkR w wl ga gn n2 n #[.int .i64 n,.int .i64 g,.slice A2 l2.length c2,.slice A3 l3.length c3,.slice A4 l4.length c4,.slice A5 l5.length c5,.slice A6 l6.length c6] b c (l2.map fun s=>(s,s)) 0 (.slice none 0 0) [] []):=⟨⟨below_then HB.out HB.out.size HX.out.b,HAq.out,HX.out.g,HGA.out,Nat.le_trans HB.out.size HX.out.hg,⟨M,HX.out.r.lower HB.out.size,HMt.out⟩,in_init HINS.out,Kd.R_nil _ _ _ _ _,(by intro h;cases h),trivial⟩⟩
  clear HX HMt HA HB
  -- MARK3
  go_wp2
  go_loopg [10,11] l7.length (fun gk v10 vi w'=>∃(i_ b c:Nat) (row:Row) (by_:Int) (us:List TLv) (under:List (Row × Int)),vi=.int .i64 (i_:Int)∧Aside0 (i_≤l7.length∧l7.length - i_≤gk)∧Aside0 (TkR w w' ga gn n2 n #[.int .i64 n,.int .i64 g,.slice A2 l2.length c2,.slice A3 l3.length c3,.slice A4 l4.length c4,.slice A5 l5.length c5,.slice A6 l6.length c6] b c row by_ v10 us under)∧Aside0 (us.length≤i_)∧Aside0 (goT l0 l4 l5 l6 (l7.drop i_) row by_ under=goT l0 l4 l5 l6 l7 (l2.map fun s=>(s,s)) 0 []))
  case atStart=>exact⟨0,b,c,_,0,[],[],rfl,⟨by omega,by omega⟩,HT,⟨Nat.le_refl _⟩,⟨rfl⟩⟩
  case round=>
   clear HT HAq a0 a1 a2 a3 a4 a5 a6 s1
   obtain⟨i_,b,c,row,by_,us,under,rfl,Hi,HT,HU,HG⟩:=hrel
   obtain⟨wq,rfl⟩:∃W:World,W=wr:=⟨_,rfl⟩
   have hu:=HT.out.u
   obtain⟨UA,uc,rfl⟩:=Kd.R_slice hu
   clear hu
   by_cases hlt:i_ < l7.length
   ·have HLT := Aside0.mk hlt
    obtain⟨ad7,eA,cx0⟩:=int_at HI7.out.1 i_ hlt
    have HD:Aside0 (l7.drop i_=l7[i_] :: l7.drop (i_+1)):=⟨drop_cons hlt⟩
    generalize l7[i_]=x at cx0 HD
    have cx:=(HT.out.bw.cell (World.block_lt_of_cell? w _ cx0)).trans cx0
    have HCW:=Aside0.mk cx0
    clear cx0
    have s1:=eq_true (show (i_:Int) < (l7.length:Int) by omega)
    have s2:=eq_true (show (0:Int)≤(i_:Int) by omega)
    subst eA
    clear hlt
    have HG1:=Aside0.mk HG.out
    rw [HD.out] at HG1
    by_cases hk:x < 0
    ·have q1 := decide_eq_true hk
     have HRV3:Aside0 (rv=false):=⟨by rw [HRV2.out];unfold takesB;rw [←HG1.out,goT_no (by omega)]⟩
     clear HG HG1 HRV2 hk
     go_wp2
     go_ret
     exact⟨by rw [HRV3.out];rfl,HT.out.bw⟩
    have q1:=decide_eq_false hk
    have hk0:0≤x:=by omega
    clear hk
    by_cases hk:x≥(l0.length:Int)
    ·have q2 := decide_eq_true hk
     have q3:=decide_eq_true (show (l0.length:Int)≤x from hk)
     have HRV3:Aside0 (rv=false):=⟨by rw [HRV2.out];unfold takesB;rw [←HG1.out,goT_no (by omega)]⟩
     clear HG HG1 HRV2 hk
     go_wp2
     go_ret
     exact⟨by rw [HRV3.out];rfl,HT.out.bw⟩
    have q2:=decide_eq_false hk
    have q3:=decide_eq_false (show ¬(l0.length:Int)≤x from hk)
    have HK:Aside0 (0≤x∧x < (l0.length:Int)):=⟨by omega⟩
    clear hk hk0
    go_upto_region 15 with (fail)
    clear q1 q2 q3 s1 s2
    refine start_ (n:=9) (S:=fun w'=>w'.cell? ⟨gn,1,none⟩=some (.int .i64 by_)∧True) (ds:=[8]) (pm 0 9) (by kernel_rfl) rfl rfl ⟨(blk_cell HT.out.t 1).trans rfl,trivial⟩ (fun hHeld=>?_)
    have HTd:=Aside0.mk (HT.out.below (below_drew (Below.refl _ _)))
    have HBd:Aside0 (Below wq.heap.size wq wq.drew):=⟨below_drew (Below.refl _ _)⟩
    generalize wq.drew=wd at HTd HBd hHeld ⊢
    iterate 3 (refine pn_ (v:=?_) (a':=?_) rfl (rfl (a:=some _)) (by kernel_rfl) (fun _ _ _ h=>h) (Or.inl ⟨by rfl,?_⟩) ?_ ?_;rotate_left;(intro w';go_simp;with_reducible rfl);rotate_left;(simp only [Act.put,List.setIfInBounds_toArray,List.set_cons_zero,List.set_cons_succ,i64_w,i32_w];rfl))
    refine po_ 4 (v:=?_) (a':=?_) rfl (rfl (a:=some _)) (by kernel_rfl) (fun _ _ _ h=>h) (Or.inl ⟨by rfl,?_⟩) ?_ ?_;rotate_left;(intro w';go_simp;with_reducible rfl);rotate_left;(simp only [Act.put,List.setIfInBounds_toArray,List.set_cons_zero,List.set_cons_succ,i64_w,i32_w];rfl)
    refine to_ 5 (v:=?_) (a':=?_) rfl (rfl (a:=some _)) (by kernel_rfl) (fun _ _ _ h=>h) (Or.inl ⟨by rfl,?_⟩) hHeld ?_ ?_;rotate_left;(intro w' hS_;obtain⟨s0,s1⟩:=hS_;go_simp;with_reducible rfl);rotate_left;(simp only [Act.put,List.setIfInBounds_toArray,List.set_cons_zero,List.set_cons_succ,i64_w,i32_w];rfl)
    refine join_ (σ:=Nat × Nat × Nat) 1 #[true,true,true,true,true,true,true,true,false] (fun s_=>[(88,BV n2 s_.1 s_.2.1),(12,.pointer (some ⟨s_.2.2,0,none⟩)),(91,.agg #[BV n2 s_.1 s_.2.1,.int .i64 by_])]) (fun s_ w'=>NewR wq w' n2 s_.1 s_.2.1 s_.2.2) ?_ ?_
    rotate_left
    ·intro hCont
     have hCX:=Aside0.mk hCont
     clear hCont
     refine two_ (i:=3) (j:=7) (Ni:=some 88) (Nj:=some 12) #[true,true,true,true,true,true,false,false,false] #[true,true,true,false,true,true,false,true,false] rfl rfl rfl rfl (by kernel_rfl) (by decide) (by decide) (fun K hK=>?_) (fun K hK=>?_)
     ·skip
      refine Kd.R_make_step Kd.bool wq.heap.size 4 (w0:=wq) rfl (N:=88) rfl 59 (.tmp 87) (.tmp 87) rfl (wrap64 (n*n)) rfl rfl Try.underlying59 (.bool false) 1 tk_info rfl (by decide) (by decide) false (ok:=fun _=>True) (okp:=fun _=>True) rfl (fun _ hk=>hk) trivial (by rw [HNW.out];omega) (by rw [HNW.out];have:=HN2.out;omega) HBd.out HBd.out.size ?_
      intro v1 wm hr1 hb1 hg1 hat1
      rw [HNW.out,Int.toNat_natCast] at hr1
      obtain⟨bx,cx_,rfl⟩:=tk_form hr1 List.length_replicate HN2.out.2.1
      have HRm:Aside0 (BR wq.heap.size wm n2 bx cx_ (List.replicate n2 false)):=⟨Kd.R_tight rfl hr1⟩
      have HBm:=Aside0.mk hb1
      have hTm:wm.heap[gn]? = some (LB n2 b c by_):=blk_grown (HTd.out.t) hg1 nen
      have HTm:=Aside0.mk hTm
      clear hr1 hb1 hg1 hat1 hTm hHeld
      refine hK.out _ _ ⟨(blk_cell HTm.out 1).trans rfl,trivial⟩ (fun hHeld=>?_)
      clear hK K
      refine norm_ (a':=?_) ?_ ?_
      rotate_left
      ·show Act.put _ (some 88) _ = _
       simp only [Act.put,List.setIfInBounds_toArray,List.set_cons_zero,List.set_cons_succ,i64_w,i32_w]
       rfl
      refine po_ 6 (v:=?_) (a':=?_) rfl (rfl (a:=some _)) (by kernel_rfl) (fun _ _ _ h=>h) (Or.inl ⟨by rfl,?_⟩) ?_ ?_;rotate_left;(intro w';go_simp;with_reducible rfl);rotate_left;(simp only [Act.put,List.setIfInBounds_toArray,List.set_cons_zero,List.set_cons_succ,i64_w,i32_w];rfl)
      refine one_ (i:=7) (N:=(some 12)) #[true,true,true,true,true,true,true,true,false] rfl rfl (by kernel_rfl) (by decide) (fun K hK=>?_)
      obtain⟨gx,hgx⟩:∃g:Nat,g=wm.heap.size:=⟨_,rfl⟩
      have HGa:Aside0 ((wm.alloc (.cells #[.slice none 0 0,.int .i64 0] 87)).heap[gx]? = some (.cells #[.slice none 0 0,.int .i64 0] 87 (0,0))∧wq.heap.size≤gx):=⟨by rw [hgx];exact⟨blk_newAt _ rfl,HBm.out.size⟩⟩
      have HBa:Aside0 (Below wq.heap.size wq (wm.alloc (.cells #[.slice none 0 0,.int .i64 0] 87))):=⟨below_alloc HBm.out _⟩
      have HTa:=Aside0.mk (blk_old HTm.out (.cells #[.slice none 0 0,.int .i64 0] 87))
      have HRa:Aside0 (BR wq.heap.size (wm.alloc (.cells #[.slice none 0 0,.int .i64 0] 87)) n2 bx cx_ (List.replicate n2 false)):=⟨Kd.R_alloc HRm.out _⟩
      go_simp
      rw [←hgx]
      generalize wm.alloc (.cells #[.slice none 0 0,.int .i64 0] 87)=wa at HGa HBa HTa HRa ⊢
      clear hgx hHeld
      refine hK.out _ _ ⟨(blk_cell HTa.out 1).trans rfl,trivial⟩ (fun hHeld=>?_)
      clear hK K
      exact norm_ (by simp only [putAll,Act.put,List.setIfInBounds_toArray,List.set_cons_zero,List.set_cons_succ]) (hCX.out (bx,cx_,gx) _ ⟨HBa.out,HRa.out,HGa.out.1,HGa.out.2⟩)
     ·skip
      obtain⟨gx,hgx⟩:∃g:Nat,g=wd.heap.size:=⟨_,rfl⟩
      have HGa:Aside0 ((wd.alloc (.cells #[.slice none 0 0,.int .i64 0] 87)).heap[gx]? = some (.cells #[.slice none 0 0,.int .i64 0] 87 (0,0))∧wq.heap.size≤gx):=⟨by rw [hgx];exact⟨blk_newAt _ rfl,HBd.out.size⟩⟩
      have HBa:Aside0 (Below wq.heap.size wq (wd.alloc (.cells #[.slice none 0 0,.int .i64 0] 87))):=⟨below_alloc HBd.out _⟩
      have HTa:=Aside0.mk (blk_old HTd.out.t (.cells #[.slice none 0 0,.int .i64 0] 87))
      go_simp
      rw [←hgx]
      generalize wd.alloc (.cells #[.slice none 0 0,.int .i64 0] 87)=wa at HGa HBa HTa ⊢
      clear hgx hHeld
      refine hK.out _ _ ⟨(blk_cell HTa.out 1).trans rfl,trivial⟩ (fun hHeld=>?_)
      clear hK K
      refine one_ (i:=3) (N:=(some 88)) #[true,true,true,true,true,true,false,true,false] rfl rfl (by kernel_rfl) (by decide) (fun K hK=>?_)
      refine Kd.R_make_step Kd.bool wq.heap.size 4 (w0:=wq) rfl (N:=88) rfl 59 (.tmp 87) (.tmp 87) rfl (wrap64 (n*n)) rfl rfl Try.underlying59 (.bool false) 1 tk_info rfl (by decide) (by decide) false (ok:=fun _=>True) (okp:=fun _=>True) rfl (fun _ hk=>hk) trivial (by rw [HNW.out];omega) (by rw [HNW.out];have:=HN2.out;omega) HBa.out HBa.out.size ?_
      intro v1 wm hr1 hb1 hg1 hat1
      rw [HNW.out,Int.toNat_natCast] at hr1
      obtain⟨bx,cx_,rfl⟩:=tk_form hr1 List.length_replicate HN2.out.2.1
      have HRm:Aside0 (BR wq.heap.size wm n2 bx cx_ (List.replicate n2 false)):=⟨Kd.R_tight rfl hr1⟩
      have HBm:=Aside0.mk hb1
      have hTm:wm.heap[gn]? = some (LB n2 b c by_):=blk_grown (HTa.out) hg1 nen
      have HGm:=Aside0.mk (blk_grown HGa.out.1 hg1 nen)
      have HTm:=Aside0.mk hTm
      clear hr1 hb1 hg1 hat1 hTm hHeld
      refine hK.out _ _ ⟨(blk_cell HTm.out 1).trans rfl,trivial⟩ (fun hHeld=>?_)
      clear hK K
      refine norm_ (a':=?_) ?_ ?_
      rotate_left
      ·show Act.put _ (some 88) _ = _
       simp only [Act.put,List.setIfInBounds_toArray,List.set_cons_zero,List.set_cons_succ,i64_w,i32_w]
       rfl
      refine po_ 6 (v:=?_) (a':=?_) rfl (rfl (a:=some _)) (by kernel_rfl) (fun _ _ _ h=>h) (Or.inl ⟨by rfl,?_⟩) ?_ ?_;rotate_left;(intro w';go_simp;with_reducible rfl);rotate_left;(simp only [Act.put,List.setIfInBounds_toArray,List.set_cons_zero,List.set_cons_succ,i64_w,i32_w];rfl)
      refine re_ #[true,true,true,true,true,true,true,true,false] (by kernel_rfl) ?_
      exact norm_ (by simp only [putAll,Act.put,List.setIfInBounds_toArray,List.set_cons_zero,List.set_cons_succ]) (hCX.out (bx,cx_,gx) _ ⟨HBm.out,HRm.out,HGm.out,HGa.out.2⟩)
    rintro⟨bx,cx_,gx⟩ wl hnew
    have HNW2:=Aside0.mk hnew
    clear hnew
    refine norm_ (a':=?_) ?_ ?_
    rotate_left
    ·simp only [putAll, Act.put, List.setIfInBounds_toArray, List.set_cons_zero, List.set_cons_succ, i64_w, i32_w]
     rfl
    refine last_ (i:=8) (N:=none) (pm 9 0) rfl rfl (by kernel_rfl) (by decide) (fun K hK=>?_)
    have hc0:wl.cell? ⟨gx,0,none⟩=some (.slice none 0 0):=(blk_cell HNW2.out.g 0).trans rfl
    have hc1:wl.cell? ⟨gx,1,none⟩=some (.int .i64 0):=(blk_cell HNW2.out.g 1).trans rfl
    have hf0:=blk_frozen HNW2.out.g 0
    have hf1:=blk_frozen HNW2.out.g 1
    have HX:Aside0 (NxR wq ((wl.setCell ⟨gx,0,none⟩ (BV n2 bx cx_)).setCell ⟨gx,1,none⟩ (.int .i64 by_)) n2 bx cx_ gx by_ (List.replicate n2 false)):=⟨NxR.born HNW2.out by_⟩
    refine Go.Proofs.Ytjkhdldgmkkhjaa.M.step_skip (w1:=((wl.setCell ⟨gx,0,none⟩ (BV n2 bx cx_)).setCell ⟨gx,1,none⟩ (.int .i64 by_))) rfl rfl (by go_simp) ?_
    clear hHeld
    refine hK.out _ _ ?_
    clear hK K
    obtain⟨wd,hwd⟩:∃W:World,W=((wl.setCell ⟨gx,0,none⟩ (BV n2 bx cx_)).setCell ⟨gx,1,none⟩ (.int .i64 by_)):=⟨_,rfl⟩
    rw [←hwd] at HX ⊢
    clear hwd hc0 hc1 hf0 hf1 HNW2
    try clear wl
    obtain⟨wl,rfl⟩:∃W:World,W=wd:=⟨_,rfl⟩
    refine done_ (by kernel_rfl) ?_
    -- MARK4
    have HM0:Aside0 (Mat n (List.replicate n2 false) []):=⟨by rw [HN2.out.2.2.2];exact Mat.zero n⟩
    obtain⟨ad0,eA0,hy0,hy⟩:=at_T46 (Kd.C_below HI0.out.1 (below_then HT.out.bw HT.out.bw.size HX.out.b)) x HK.out.1 HK.out.2
    obtain⟨kd,hkd⟩:∃kd,kd=(rd_T46 l0 x).f1:=⟨_,rfl⟩
    rw [←hkd] at hy
    have HKD:=Aside0.mk hkd
    clear hkd hy0
    subst eA0
    have HCX:=Aside0.mk cx
    clear cx
    have t1:=eq_true HK.out.1
    have t2:=eq_true HK.out.2
    have s1:=eq_true (show (i_:Int) < (l7.length:Int) by have:=HLT.out;omega)
    have s2:=eq_true (show (0:Int)≤(i_:Int) by omega)
    clear HTd HBd wd
    by_cases kd1:kd=1
    ·as_aux_lemma=>
      have d1:(kd == 1)=true:=beq_iff_eq.mpr kd1
      have HG2:=Aside0.mk ((goT_open HK.out (by rw [←HKD.out];exact kd1)).symm.trans HG1.out)
      clear kd1 HG1 HG
      have cx:=(HX.out.b.cell (World.block_lt_of_cell? wq _ HCX.out)).trans HCX.out
      have hT:=HT.out.below HX.out.b
      obtain⟨a0,a1,a2,a3,a4,a5,a6⟩:=tk_cells hT.a
      have k0:wl.cell? ⟨gn,0,none⟩=some (BV n2 b c):=(blk_cell hT.t 0).trans rfl
      have k1:wl.cell? ⟨gn,1,none⟩=some (.int .i64 by_):=(blk_cell hT.t 1).trans rfl
      clear hT
      go_wp2
      go_loopg [13] l4.length (fun gk vj w'=>∃(j_:Nat) (M:List Bool),vj=.int .i64 (j_:Int)∧Aside0 (j_≤l4.length∧l4.length - j_≤gk)∧Aside0 (NxR wq w' n2 bx cx_ gx by_ M)∧Aside0 (Mat n M ((l4.take j_).flatMap (tO n x row))))
      case atStart=>exact⟨0,_,rfl,⟨by omega,by omega⟩,HX,⟨HM0.out⟩⟩
      case round=>
       clear HX
       clear a0 a1 a2 a3 a4 a5 a6 k0 k1
       obtain⟨j_,M,rfl,Hj,HX,HMt⟩:=hrel
       try clear wl
       obtain⟨wl,rfl⟩:∃W:World,W=wr:=⟨_,rfl⟩
       have hT:=HT.out.below HX.out.b
       obtain⟨a0,a1,a2,a3,a4,a5,a6⟩:=tk_cells hT.a
       have k0:wl.cell? ⟨gn,0,none⟩=some (BV n2 b c):=(blk_cell hT.t 0).trans rfl
       have k1:wl.cell? ⟨gn,1,none⟩=some (.int .i64 by_):=(blk_cell hT.t 1).trans rfl
       clear hT
       by_cases hlj:j_ < l4.length
       ·as_aux_lemma=>
         have HLJ:=Aside0.mk hlj
         obtain⟨ad,eA,c0_,c1_,c2_,c3_⟩:=at_T52 (Kd.C_below HI4.out.1 (below_then HT.out.bw HT.out.bw.size HX.out.b)) (j_:Int) (by omega) (by omega)
         have hrd:rd_T52 l4 (j_:Int)=l4[j_]:=by unfold rd_T52;rw [Int.toNat_natCast,List.getD_eq_getElem?_getD,List.getElem?_eq_getElem hlj];rfl
         rw [hrd,Int.toNat_natCast] at c0_ c1_ c2_ c3_
         clear hrd
         have hIN:=HINS.out.o l4[j_] (List.getElem_mem hlj)
         have HNX:Aside0 ((l4.take (j_+1)).flatMap (tO n x row)=(l4.take j_).flatMap (tO n x row) ++ tO n x row l4[j_]):=⟨fl_next _ _ _ hlj⟩
         generalize l4[j_]=r_ at HNX hIN c0_ c1_ c2_ c3_
         obtain⟨x0,x1,x2,x3⟩:=r_
         have HIN:Aside0 (inN n x0∧inN n x2):=⟨hIN⟩
         clear hIN
         obtain⟨L0,hL0⟩:∃L,L=(l4.take j_).flatMap (tO n x row):=⟨_,rfl⟩
         rw [←hL0] at HNX HMt
         clear hL0
         have s3:=eq_true (show (j_:Int) < (l4.length:Int) by omega)
         have s4:=eq_true (show (0:Int)≤(j_:Int) by omega)
         subst eA
         clear hlj
         go_upto_region 31 with (fail)
         obtain⟨rb,hrb⟩:∃g,g=wl.heap.size:=⟨_,rfl⟩
         have HRB:Aside0 ((wl.alloc (.cells #[.int .i64 x0,.int .i64 x1,.int .i64 x2,.int .i64 x3] 52)).heap[rb]? = some (.cells #[.int .i64 x0,.int .i64 x1,.int .i64 x2,.int .i64 x3] 52 (0,0))):=⟨by rw [hrb];exact blk_newAt _ rfl⟩
         have HX1:=Aside0.mk (HX.out.below (below_alloc (Below.refl _ _) (.cells #[.int .i64 x0,.int .i64 x1,.int .i64 x2,.int .i64 x3] 52)))
         clear HX
         have HX:=HX1
         clear HX1
         rw [←hrb]
         clear hrb c0_ c1_ c2_ c3_ a0 a1 a2 a3 a4 a5 a6 k0 k1 s3 s4
         obtain⟨wd,hwd⟩:∃W:World,W=wl.alloc (.cells #[.int .i64 x0,.int .i64 x1,.int .i64 x2,.int .i64 x3] 52):=⟨_,rfl⟩
         rw [←hwd] at HX HRB ⊢
         clear hwd
         try clear wl
         obtain⟨wl,rfl⟩:∃W:World,W=wd:=⟨_,rfl⟩
         obtain⟨tb,htb⟩:∃tb:Bool,tb=decide (x1=x):=⟨_,rfl⟩
         have HNX2:Aside0 ((l4.take (j_+1)).flatMap (tO n x row)=L0 ++ onP tb row (fun _=>x2) x0 x2 n.toNat):=⟨by
          rw [HNX.out,htb]
          unfold onP
          by_cases h:x1=x
          ·rw [decide_eq_true h,if_pos rfl];exact congrArg (L0 ++ ·) (if_pos h)
          ·rw [decide_eq_false h,if_neg (by decide)];exact congrArg (L0 ++ ·) (if_neg h)⟩
         have HTB:=Aside0.mk htb
         clear htb HNX
         have HMp:Aside0 (Mat n M (L0 ++ onP tb row (fun _=>x2) x0 x2 0)):=⟨by unfold onP oneL;simpa using HMt.out⟩
         clear HMt
         go_wp2
         go_loopg [15] n.toNat (fun gk vp w'=>∃(p_:Nat) (M:List Bool),vp=.int .i64 (p_:Int)∧Aside0 (p_≤n.toNat∧n.toNat - p_≤gk)∧Aside0 (NxR wq w' n2 bx cx_ gx by_ M)∧Aside0 (Mat n M (L0 ++ onP tb row (fun _=>x2) x0 x2 p_))∧Aside0 (w'.heap[rb]? = some (.cells #[.int .i64 x0,.int .i64 x1,.int .i64 x2,.int .i64 x3] 52 (0,0))))
         case atStart=>exact⟨0,M,rfl,⟨by omega,by omega⟩,HX,HMp,HRB⟩
         case round=>
          clear HX HMp HRB
          obtain⟨p_,M,rfl,Hp,HX,HMp,HRB⟩:=hrel
          try clear wl
          obtain⟨wl,rfl⟩:∃W:World,W=wr:=⟨_,rfl⟩
          have r1:wl.cell? ⟨rb,1,none⟩=some (.int .i64 x1):=(blk_cell HRB.out 1).trans rfl
          have cx:=(HX.out.b.cell (World.block_lt_of_cell? wq _ HCX.out)).trans HCX.out
          by_cases hp:(p_:Int) < n
          ·have q1 := decide_eq_true hp
           have q0:=eq_true hp
           have HPN:Aside0 (inN n (p_:Int)):=⟨⟨by omega,hp⟩⟩
           have HPL:Aside0 (p_ < n.toNat):=⟨by omega⟩
           clear hp
           by_cases hx1:x1=x
           rotate_left
           ·have q2 : (x1 == x) = false := beq_eq_false_iff_ne.mpr hx1
            have HF:Aside0 (tb=false):=⟨by rw [HTB.out];exact decide_eq_false (fun h=>hx1 h)⟩
            clear hx1
            go_wp2_with fail
            go_quiet (fail)
            clear r1 cx
            have HX1:=Aside0.mk (HX.out.below (pw_below_drewN (Below.refl _ _) nq))
            have HRB1:=Aside0.mk (blk_below HRB.out (pw_below_drewN (Below.refl _ _) nq))
            clear HX HRB
            have HX:=HX1
            have HRB:=HRB1
            clear HX1 HRB1
            obtain⟨wd,hwd⟩:∃W:World,W=wl.drewN nq:=⟨_,rfl⟩
            rw [←hwd] at HX HRB ⊢
            clear hwd
            try clear wl
            obtain⟨wl,rfl⟩:∃W:World,W=wd:=⟨_,rfl⟩
            clear q0 q1 q2
            go_wp2
            go_roundg (l4.length - (j_+1))
            case measure=>have:=Hj.out;have:=HLJ.out;omega
            case rel=>exact⟨j_+1,M,by first|rfl|rw [show wrap64 ((j_:Int)+1)=((j_+1:Nat):Int) by have:=HLJ.out;have:=HI4.out.2.2;unfold wrap64;omega],⟨HLJ.out,Nat.le_refl _⟩,HX,⟨by rw [HNX2.out];have h:=HMp.out;rw [HF.out] at h ⊢;exact h⟩⟩
           have q2:(x1 == x)=true:=beq_iff_eq.mpr hx1
           have HF:Aside0 (tb=true):=⟨by rw [HTB.out];exact decide_eq_true hx1⟩
           clear hx1
           go_wp2_with fail
           go_quiet (fail)
           clear r1 cx
           have HX1:=Aside0.mk (HX.out.below (pw_below_drewN (Below.refl _ _) nq))
           have HRB1:=Aside0.mk (blk_below HRB.out (pw_below_drewN (Below.refl _ _) nq))
           clear HX HRB
           have HX:=HX1
           have HRB:=HRB1
           clear HX1 HRB1
           obtain⟨wd,hwd⟩:∃W:World,W=wl.drewN nq:=⟨_,rfl⟩
           rw [←hwd] at HX HRB ⊢
           clear hwd
           try clear wl
           obtain⟨wl,rfl⟩:∃W:World,W=wd:=⟨_,rfl⟩
           clear q0 q1 q2
           have hT:=HT.out.below HX.out.b
           have k0:wl.cell? ⟨gn,0,none⟩=some (BV n2 b c):=(blk_cell hT.t 0).trans rfl
           obtain⟨Mn,hrn,hmn⟩:=hT.r
           have HRN:=Aside0.mk hrn
           clear hT hrn
           have r0:wl.cell? ⟨rb,0,none⟩=some (.int .i64 x0):=(blk_cell HRB.out 0).trans rfl
           have r2:wl.cell? ⟨rb,2,none⟩=some (.int .i64 x2):=(blk_cell HRB.out 2).trans rfl
           have m0:wl.cell? ⟨gx,0,none⟩=some (BV n2 bx cx_):=(blk_cell HX.out.g 0).trans rfl
           obtain⟨zrx,hzrx⟩:∃t:Int,t=(p_:Int)*n:=⟨_,rfl⟩
           have HHzrx:=Aside0.mk hzrx
           have ezr1:wrap64 ((p_:Int)*n)=zrx:=by rw [hzrx];exact(ix_wrap HN.out.2 HPN.out HIN.out.1).1
           clear hzrx
           obtain⟨zr,hzr⟩:∃t:Int,t=zrx+x0:=⟨_,rfl⟩
           have Hzr:Aside0 (zr=(p_:Int)*n+x0∧0≤zr∧zr < (n2:Int)):=⟨by have h1:=ix_in HN.out.2 HPN.out HIN.out.1;have h2:=HN2.out.1;rw [hzr,HHzrx.out];exact⟨rfl,by omega,by omega⟩⟩
           have ezr2:wrap64 (zrx+x0)=zr:=by rw [hzr,HHzrx.out];exact(ix_wrap HN.out.2 HPN.out HIN.out.1).2
           have pzr:=eq_true Hzr.out.2.1
           have rzr:=eq_true Hzr.out.2.2
           clear hzr
           obtain⟨y1_,y2_⟩:=Kd.R_celln false HRN.out zr Hzr.out.2.1 Hzr.out.2.2
           have hiff:=hmn.m _ _ HPN.out HIN.out.1
           rw [←Hzr.out.1] at hiff
           clear y2_ hmn
           by_cases hx:((p_:Int),x0)∈row
           ·have HXR := Aside0.mk hx
            rw [hiff.2 hx] at y1_
            clear hx hiff
            obtain⟨zx,hzx⟩:∃t:Int,t=x2*n:=⟨_,rfl⟩
            have HHzx:=Aside0.mk hzx
            have ez1:wrap64 (x2*n)=zx:=by rw [hzx];exact(ix_wrap HN.out.2 HIN.out.2 HIN.out.2).1
            clear hzx
            obtain⟨z,hz⟩:∃t:Int,t=zx+x2:=⟨_,rfl⟩
            have Hz:Aside0 (z=x2*n+x2∧0≤z∧z < (n2:Int)):=⟨by have h1:=ix_in HN.out.2 HIN.out.2 HIN.out.2;have h2:=HN2.out.1;rw [hz,HHzx.out];exact⟨rfl,by omega,by omega⟩⟩
            have ez2:wrap64 (zx+x2)=z:=by rw [hz,HHzx.out];exact(ix_wrap HN.out.2 HIN.out.2 HIN.out.2).2
            have pz:=eq_true Hz.out.2.1
            have rz:=eq_true Hz.out.2.2
            clear hz
            obtain⟨v1_,v2_⟩:=Kd.R_celln false HX.out.r z (of_eq_true pz) (of_eq_true rz)
            go_wp2
            go_roundg (n.toNat - (p_+1))
            case measure=>have:=Hp.out;have:=HPL.out;omega
            case rel=>exact⟨p_+1,M.set z.toNat true,by first|rfl|rw [show wrap64 ((p_:Int)+1)=((p_+1:Nat):Int) by have:=HPL.out;have:=HN.out;unfold wrap64;omega],⟨HPL.out,Nat.le_refl _⟩,⟨HX.out.put z⟩,⟨by have h:=HMp.out;rw [HF.out] at h ⊢;unfold onP at h ⊢;rw [if_pos rfl] at h ⊢;rw [oneL_next,if_pos HXR.out,←List.append_assoc,Hz.out.1];exact h.push HN.out.2 HIN.out.2 HIN.out.2⟩,⟨blk_far HRB.out (show rb≠bx from fun e=>Kd.R_ne HX.out.r HRB.out (by decide) (congrArg some e)) _⟩⟩
           ·have HXR := Aside0.mk hx
            have hf:rdOf false Mn zr=false:=by
             cases h:rdOf false Mn zr with
             | false=>rfl
             | true=>exact absurd (hiff.1 h) hx
            rw [hf] at y1_
            clear hx hiff hf
            go_wp2
            go_roundg (n.toNat - (p_+1))
            case measure=>have:=Hp.out;have:=HPL.out;omega
            case rel=>exact⟨p_+1,M,by first|rfl|rw [show wrap64 ((p_:Int)+1)=((p_+1:Nat):Int) by have:=HPL.out;have:=HN.out;unfold wrap64;omega],⟨HPL.out,Nat.le_refl _⟩,HX,⟨by have h:=HMp.out;rw [HF.out] at h ⊢;unfold onP at h ⊢;rw [if_pos rfl] at h ⊢;rw [oneL_next,if_neg HXR.out,List.append_nil];exact h⟩,HRB⟩
          ·have q1 := decide_eq_false hp
           have q0:=eq_false hp
           have HPL:Aside0 (p_=n.toNat):=⟨by have:=Hp.out;omega⟩
           clear hp
           go_wp2_with fail
           go_quiet (fail)
           clear r1 cx
           have HX1:=Aside0.mk (HX.out.below (pw_below_drewN (Below.refl _ _) nq))
           have HRB1:=Aside0.mk (blk_below HRB.out (pw_below_drewN (Below.refl _ _) nq))
           clear HX HRB
           have HX:=HX1
           have HRB:=HRB1
           clear HX1 HRB1
           obtain⟨wd,hwd⟩:∃W:World,W=wl.drewN nq:=⟨_,rfl⟩
           rw [←hwd] at HX HRB ⊢
           clear hwd
           try clear wl
           obtain⟨wl,rfl⟩:∃W:World,W=wd:=⟨_,rfl⟩
           clear q0 q1
           go_wp2
           go_roundg (l4.length - (j_+1))
           case measure=>have:=Hj.out;have:=HLJ.out;omega
           case rel=>exact⟨j_+1,M,by first|rfl|rw [show wrap64 ((j_:Int)+1)=((j_+1:Nat):Int) by have:=HLJ.out;have:=HI4.out.2.2;unfold wrap64;omega],⟨HLJ.out,Nat.le_refl _⟩,HX,⟨by rw [HNX2.out];have h:=HMp.out;rw [HPL.out] at h;exact h⟩⟩
       have e4:l4.take j_=l4:=List.take_of_length_le (by omega)
       rw [e4] at HMt
       have s3:=eq_false (show ¬(j_:Int) < (l4.length:Int) by omega)
       clear hlj e4 Hj
       go_upto_region 36 with (fail)
       have hTT:=HT.out.below HX.out.b
       have HTT:=Aside0.mk hTT
       clear hTT a0 a1 a2 a3 a4 a5 a6 k0 k1
       have HMr:Aside0 (Mat n M (nOpen l4 x row)):=⟨HMt.out.congr (mem_tO HT.out.i l4)⟩
       have HXN:=Aside0.mk (And.intro HX.out.hg (And.intro (HX.out.r.lower HT.out.bw.size) HX.out.g))
       have HNE:Aside0 (gx≠gn∧some gx≠((.slice UA us.length uc):Value).ownBlock):=⟨⟨fun e=>by have h1:=blk_lt HT.out.t;have h2:=HX.out.hg;omega,fun e=>by have h1:=Kd.R_lt HT.out.u gx e.symm;have h2:=HX.out.hg;omega⟩⟩
       have cx:=(HX.out.b.cell (World.block_lt_of_cell? wq _ HCX.out)).trans HCX.out
       have HCX2:=Aside0.mk cx
       clear HMt cx HX s3
       refine start_ (n:=11) (S:=fun w'=>w'.cell? ⟨gn,0,none⟩=some (BV n2 b c)∧w'.cell? ⟨gn,1,none⟩=some (.int .i64 by_)∧w'.cell? (ad7.add i_)=some (.int .i64 x)) (ds:=[10]) (pm 0 11) (by kernel_rfl) rfl rfl ⟨(blk_cell HTT.out.t 0).trans rfl,(blk_cell HTT.out.t 1).trans rfl,HCX2.out⟩ (fun hHeld=>?_)
       refine with_tabW Tk36r.tab Tk36r.bits (fun HT_ HW_=>?_)
       have HT2:=Aside0.mk (HTT.out.below (below_drew (Below.refl _ _)))
       have HX2:=Aside0.mk (And.intro HXN.out.1 (And.intro (HXN.out.2.1.below (below_drew (Below.refl _ _))) (blk_below HXN.out.2.2 (below_drew (Below.refl _ _)))))
       have HC2:=Aside0.mk ((Below.cell ((below_drew (Below.refl _ _))) (World.block_lt_of_cell? wl _ HCX2.out)).trans HCX2.out)
       clear HTT HXN HCX2
       have HTT:=HT2
       have HXN:=HX2
       have HCX2:=HC2
       clear HT2 HX2 HC2
       obtain⟨wd,hwd⟩:∃W:World,W=wl.drew:=⟨_,rfl⟩
       rw [←hwd] at HTT HXN HCX2 hHeld ⊢
       clear hwd
       try clear wl
       obtain⟨wl,rfl⟩:∃W:World,W=wd:=⟨_,rfl⟩
       iterate 2 (first|(refine pn_ (v:=?_) (a':=?_) rfl (rfl (a:=some _)) (any_of HT_.out (by kernel_rfl)) (fun _ _ _ h=>h) (Or.inl ⟨by rfl,?_⟩) ?_ ?_;rotate_left;(intro w';go_simp;with_reducible rfl);rotate_left;(simp only [Act.put,List.setIfInBounds_toArray,List.set_cons_zero,List.set_cons_succ,i64_w,i32_w];rfl))|(refine tn_ (v:=?_) (a':=?_) rfl (rfl (a:=some _)) (take_ofW HT_.out HW_.out (by kernel_rfl)) (fun _ _ _ h=>h) (Or.inl ⟨by rfl,?_⟩) hHeld ?_ ?_;rotate_left;(intro w' hS_;obtain⟨s0,s1,s2⟩:=hS_;go_simp;with_reducible rfl);rotate_left;(simp only [Act.put,List.setIfInBounds_toArray,List.set_cons_zero,List.set_cons_succ,i64_w,i32_w];rfl)))
       refine po_ 4 (v:=?_) (a':=?_) rfl (rfl (a:=some _)) (any_of HT_.out (by kernel_rfl)) (fun _ _ _ h=>h) (Or.inl ⟨by rfl,?_⟩) ?_ ?_;rotate_left;(intro w';go_simp;with_reducible rfl);rotate_left;(simp only [Act.put,List.setIfInBounds_toArray,List.set_cons_zero,List.set_cons_succ,i64_w,i32_w];rfl)
       refine po_ 5 (v:=?_) (a':=?_) rfl (rfl (a:=some _)) (any_of HT_.out (by kernel_rfl)) (fun _ _ _ h=>h) (Or.inl ⟨by rfl,?_⟩) ?_ ?_;rotate_left;(intro w';go_simp;with_reducible rfl);rotate_left;(simp only [Act.put,List.setIfInBounds_toArray,List.set_cons_zero,List.set_cons_succ,i64_w,i32_w];rfl)
       refine po_ 6 (v:=?_) (a':=?_) rfl (rfl (a:=some _)) (any_of HT_.out (by kernel_rfl)) (fun _ _ _ h=>h) (Or.inl ⟨by rfl,?_⟩) ?_ ?_;rotate_left;(intro w';go_simp;with_reducible rfl);rotate_left;(simp only [Act.put,List.setIfInBounds_toArray,List.set_cons_zero,List.set_cons_succ,i64_w,i32_w];rfl)
       refine to_ 7 (v:=?_) (a':=?_) rfl (rfl (a:=some _)) (take_ofW HT_.out HW_.out (by kernel_rfl)) (fun _ _ _ h=>h) (Or.inl ⟨by rfl,?_⟩) hHeld ?_ ?_;rotate_left;(intro w' hS_;obtain⟨s0,s1,s2⟩:=hS_;go_simp;with_reducible rfl);rotate_left;(simp only [Act.put,List.setIfInBounds_toArray,List.set_cons_zero,List.set_cons_succ,i64_w,i32_w];rfl)
       refine one_ (i:=2) (N:=(some 195)) #[true,true,true,false,true,true,true,true,false,false,false] rfl rfl (one_of HT_.out (by kernel_rfl)) (by decide) (fun K hK=>?_)
       refine step_run (v:=.slice (some ⟨wl.heap.size,0,none⟩) 1 1) (w1:=wl.alloc (.cells #[BV n2 b c,.int .i64 by_] 87)) rfl (by go_simp) ?_
       have hk0:=blk_old HTT.out.t (.cells #[BV n2 b c,.int .i64 by_] 87)
       have hk2:=((below_alloc (Below.refl _ _) (.cells #[BV n2 b c,.int .i64 by_] 87):Below wl.heap.size wl _).cell (World.block_lt_of_cell? wl _ HCX2.out)).trans HCX2.out
       clear hHeld
       refine hK.out _ _ ⟨(blk_cell hk0 0).trans rfl,(blk_cell hk0 1).trans rfl,hk2⟩ (fun hHeld=>?_)
       clear hK K hk0 hk2
       refine norm_ (a':=?_) ?_ ?_
       rotate_left
       ·show Act.put _ (some 195) _ = _
        simp only [Act.put,List.setIfInBounds_toArray,List.set_cons_zero,List.set_cons_succ,i64_w,i32_w]
        rfl
       refine one_ (i:=3) (N:=(some 196)) (pm 8 3) rfl rfl (one_of HT_.out (by kernel_rfl)) (by decide) (fun K hK=>?_)
       refine Kd.R_append_step (kLv n2) (w0:=w) w.heap.size rfl (.tmp 193) (.tmp 195) 88 87 (.agg #[.slice none 0 0,.int .i64 0]) 32 rfl Try.underlying88 tk_lev rfl (show 0 < 2 by decide) (by decide) (.slice UA us.length uc) us ((b,c),by_) [BV n2 b c,.int .i64 by_] (fun k=>some k=((.slice UA us.length uc):Value).ownBlock∨wl.heap.size≤k) (fun _=>False) rfl rfl (kLv_mkM n2 _ _ _ b c by_) (fun _ h=>h.elim) (fun k h=>.inr h) (Kd.R_mono HTT.out.u (fun k h=>.inl h)) HTT.out.bw HTT.out.bw.size ?ql ?_
       case ql=>have:=HU.out;have:=HLT.out;have:=HI7.out.2.2;omega
       intro v1 w4 hr1 hb1 hg1 hat1
       have HT2:=Aside0.mk (HTT.out.app hr1 hb1 hg1 hat1)
       have hty:=Kd.R_typed HTT.out.u
       have HX2:=Aside0.mk (And.intro HXN.out.1 (And.intro (HXN.out.2.1.over hty (by decide) hg1) (blk_grown HXN.out.2.2 hg1 HNE.out.2)))
       have HC2:=Aside0.mk ((hb1.cell (World.block_lt_of_cell? w _ HCW.out)).trans HCW.out)
       have HNE2:Aside0 (gx≠gn∧some gx≠v1.ownBlock):=⟨HNE.out.1,fun e=>by
        rcases hat1 with h|⟨k,h,h2⟩
        ·exact HNE.out.2 (e.trans h)
        ·have h3 := blk_lt HXN.out.2.2
         have h4:some gx=some k:=e.trans h
         cases h4
         omega⟩
       clear hr1 hb1 hg1 hat1 hty HTT HXN HCX2 HNE hHeld
       refine hK.out _ _ ⟨(blk_cell HT2.out.t 0).trans rfl,(blk_cell HT2.out.t 1).trans rfl,HC2.out⟩ (fun hHeld=>?_)
       clear hK K
       refine norm_ (a':=?_) ?_ ?_
       rotate_left
       ·show Act.put _ (some 196) _ = _
        simp only [Act.put,List.setIfInBounds_toArray,List.set_cons_zero,List.set_cons_succ,i64_w,i32_w]
        rfl
       iterate 2 (refine pn_ (v:=?_) (a':=?_) rfl (rfl (a:=some _)) (any_of HT_.out (by kernel_rfl)) (fun _ _ _ h=>h) (Or.inl ⟨by rfl,?_⟩) ?_ ?_;rotate_left;(intro w';go_simp;with_reducible rfl);rotate_left;(simp only [Act.put,List.setIfInBounds_toArray,List.set_cons_zero,List.set_cons_succ,i64_w,i32_w];rfl))
       refine last_ (i:=10) (N:=none) (pm 11 0) rfl rfl (one_of HT_.out (by kernel_rfl)) (by decide) (fun K hK=>?_)
       have hc2:w4.cell? ⟨gx,1,none⟩=some (.int .i64 by_):=(blk_cell HX2.out.2.2 1).trans rfl
       have hf2:=blk_frozen HX2.out.2.2 1
       refine Go.Proofs.Ytjkhdldgmkkhjaa.M.step_skip (w1:=w4.setCell ⟨gx,1,none⟩ (.int .i64 x)) rfl rfl (by go_simp) ?_
       clear hc2 hf2 hHeld
       refine hK.out _ _ ?_
       clear hK K
       have HTT:=Aside0.mk (HT2.out.far HX2.out.2.2 (Nat.le_trans HT.out.bw.size HX2.out.1) HNE2.out.1 HNE2.out.2 1 (.int .i64 x))
       have HXR:=Aside0.mk (HX2.out.2.1.far HX2.out.2.2 (by decide) 1 (.int .i64 x))
       have HXG:Aside0 ((w4.setCell ⟨gx,1,none⟩ (.int .i64 x)).heap[gx]? = some (LB n2 bx cx_ x)):=⟨blk_put HX2.out.2.2 1 _ rfl⟩
       clear HT2 HX2 HC2 HNE2
       obtain⟨wd,hwd⟩:∃W:World,W=w4.setCell ⟨gx,1,none⟩ (.int .i64 x):=⟨_,rfl⟩
       rw [←hwd] at HTT HXR HXG ⊢
       clear hwd w4
       try clear wl
       obtain⟨wl,rfl⟩:∃W:World,W=wd:=⟨_,rfl⟩
       refine done_ (done_of HT_.out (by kernel_rfl)) ?_
       have m0:wl.cell? ⟨gx,0,none⟩=some (BV n2 bx cx_):=(blk_cell HXG.out 0).trans rfl
       have m1:wl.cell? ⟨gx,1,none⟩=some (.int .i64 x):=(blk_cell HXG.out 1).trans rfl
       have fk0:=blk_frozen HTT.out.t 0
       have fk1:=blk_frozen HTT.out.t 1
       have k0:wl.cell? ⟨gn,0,none⟩=some (BV n2 b c):=(blk_cell HTT.out.t 0).trans rfl
       have k1:wl.cell? ⟨gn,1,none⟩=some (.int .i64 by_):=(blk_cell HTT.out.t 1).trans rfl
       go_wp2
       go_roundg (l7.length - (i_+1))
       case measure=>have:=Hi.out;have:=HLT.out;omega
       case rel=>exact⟨i_+1,bx,cx_,(nOpen l4 x row),x,(us ++ [((b,c),by_)]),((row,by_) :: under),by first|rfl|rw [show wrap64 ((i_:Int)+1)=((i_+1:Nat):Int) by have:=HLT.out;have:=HI7.out.2.2;unfold wrap64;omega],⟨HLT.out,Nat.le_refl _⟩,⟨HTT.out.next HXR.out HMr.out (in_open HINS.out)⟩,⟨by have:=HU.out;(try simp only [List.length_append,List.length_cons,List.length_nil]);omega⟩,⟨HG2.out⟩⟩
    have d1:(kd == 1)=false:=beq_eq_false_iff_ne.mpr kd1
    by_cases kd2:kd=2
    ·as_aux_lemma=>
      have d2:(kd == 2)=true:=beq_iff_eq.mpr kd2
      obtain⟨nU,hnU⟩:∃nU,nU=us.length:=⟨_,rfl⟩
      rw [←hnU] at HT HU ⊢
      have HUN:=Aside0.mk hnU
      clear hnU
      by_cases hz:nU=0
      ·as_aux_lemma=>
        have z1:=decide_eq_false (show ¬(nU:Int) > 0 by omega)
        have z2:=eq_false (show ¬0 < nU by omega)
        have hl:=Lvs.len _ _ HT.out.l
        rw [List.length_reverse,←HUN.out,hz] at hl
        obtain rfl:under = []:=List.eq_nil_of_length_eq_zero hl.symm
        have HG2:=Aside0.mk ((goT_close0 HK.out (by rw [←HKD.out];exact kd2)).symm.trans HG1.out)
        clear kd1 kd2 HG1 HG hl hz
        have cx:=(HX.out.b.cell (World.block_lt_of_cell? wq _ HCX.out)).trans HCX.out
        have hT:=HT.out.below HX.out.b
        obtain⟨a0,a1,a2,a3,a4,a5,a6⟩:=tk_cells hT.a
        have k0:wl.cell? ⟨gn,0,none⟩=some (BV n2 b c):=(blk_cell hT.t 0).trans rfl
        have k1:wl.cell? ⟨gn,1,none⟩=some (.int .i64 by_):=(blk_cell hT.t 1).trans rfl
        clear hT
        go_wp2
        go_loopg [16] l5.length (fun gk vj w'=>∃(j_:Nat) (M:List Bool),vj=.int .i64 (j_:Int)∧Aside0 (j_≤l5.length∧l5.length - j_≤gk)∧Aside0 (NxR wq w' n2 bx cx_ gx by_ M)∧Aside0 (Mat n M ((l5.take j_).flatMap (tC n x row))))
        case atStart=>exact⟨0,_,rfl,⟨by omega,by omega⟩,HX,⟨HM0.out⟩⟩
        case round=>
         clear HX
         clear a0 a1 a2 a3 a4 a5 a6 k0 k1
         obtain⟨j_,M,rfl,Hj,HX,HMt⟩:=hrel
         try clear wl
         obtain⟨wl,rfl⟩:∃W:World,W=wr:=⟨_,rfl⟩
         have hT:=HT.out.below HX.out.b
         obtain⟨a0,a1,a2,a3,a4,a5,a6⟩:=tk_cells hT.a
         have k0:wl.cell? ⟨gn,0,none⟩=some (BV n2 b c):=(blk_cell hT.t 0).trans rfl
         have k1:wl.cell? ⟨gn,1,none⟩=some (.int .i64 by_):=(blk_cell hT.t 1).trans rfl
         clear hT
         by_cases hlj:j_ < l5.length
         ·as_aux_lemma=>
           have HLJ:=Aside0.mk hlj
           obtain⟨ad,eA,c0_,c1_,c2_,c3_⟩:=at_T54 (Kd.C_below HI5.out.1 (below_then HT.out.bw HT.out.bw.size HX.out.b)) (j_:Int) (by omega) (by omega)
           have hrd:rd_T54 l5 (j_:Int)=l5[j_]:=by unfold rd_T54;rw [Int.toNat_natCast,List.getD_eq_getElem?_getD,List.getElem?_eq_getElem hlj];rfl
           rw [hrd,Int.toNat_natCast] at c0_ c1_ c2_ c3_
           clear hrd
           have hIN:=HINS.out.c l5[j_] (List.getElem_mem hlj)
           have HNX:Aside0 ((l5.take (j_+1)).flatMap (tC n x row)=(l5.take j_).flatMap (tC n x row) ++ tC n x row l5[j_]):=⟨fl_next _ _ _ hlj⟩
           generalize l5[j_]=r_ at HNX hIN c0_ c1_ c2_ c3_
           obtain⟨x0,x1,x2,x3⟩:=r_
           have HIN:Aside0 (inN n x0∧inN n x3):=⟨hIN⟩
           clear hIN
           obtain⟨L0,hL0⟩:∃L,L=(l5.take j_).flatMap (tC n x row):=⟨_,rfl⟩
           rw [←hL0] at HNX HMt
           clear hL0
           have s3:=eq_true (show (j_:Int) < (l5.length:Int) by omega)
           have s4:=eq_true (show (0:Int)≤(j_:Int) by omega)
           subst eA
           clear hlj
           go_upto_region 45 with (fail)
           obtain⟨rb,hrb⟩:∃g,g=wl.heap.size:=⟨_,rfl⟩
           have HRB:Aside0 ((wl.alloc (.cells #[.int .i64 x0,.int .i64 x1,.int .i64 x2,.int .i64 x3] 54)).heap[rb]? = some (.cells #[.int .i64 x0,.int .i64 x1,.int .i64 x2,.int .i64 x3] 54 (0,0))):=⟨by rw [hrb];exact blk_newAt _ rfl⟩
           have HX1:=Aside0.mk (HX.out.below (below_alloc (Below.refl _ _) (.cells #[.int .i64 x0,.int .i64 x1,.int .i64 x2,.int .i64 x3] 54)))
           clear HX
           have HX:=HX1
           clear HX1
           rw [←hrb]
           clear hrb c0_ c1_ c2_ c3_ a0 a1 a2 a3 a4 a5 a6 k0 k1 s3 s4
           obtain⟨wd,hwd⟩:∃W:World,W=wl.alloc (.cells #[.int .i64 x0,.int .i64 x1,.int .i64 x2,.int .i64 x3] 54):=⟨_,rfl⟩
           rw [←hwd] at HX HRB ⊢
           clear hwd
           try clear wl
           obtain⟨wl,rfl⟩:∃W:World,W=wd:=⟨_,rfl⟩
           obtain⟨tb,htb⟩:∃tb:Bool,tb=decide (x1=x∧x2=0):=⟨_,rfl⟩
           have HNX2:Aside0 ((l5.take (j_+1)).flatMap (tC n x row)=L0 ++ onP tb row (fun p=>p) x0 x3 n.toNat):=⟨by
            rw [HNX.out,htb]
            unfold onP
            by_cases h:x1=x∧x2=0
            ·rw [decide_eq_true h,if_pos rfl];exact congrArg (L0 ++ ·) (if_pos h)
            ·rw [decide_eq_false h,if_neg (by decide)];exact congrArg (L0 ++ ·) (if_neg h)⟩
           have HTB:=Aside0.mk htb
           clear htb HNX
           have HMp:Aside0 (Mat n M (L0 ++ onP tb row (fun p=>p) x0 x3 0)):=⟨by unfold onP oneL;simpa using HMt.out⟩
           clear HMt
           go_wp2
           go_loopg [18] n.toNat (fun gk vp w'=>∃(p_:Nat) (M:List Bool),vp=.int .i64 (p_:Int)∧Aside0 (p_≤n.toNat∧n.toNat - p_≤gk)∧Aside0 (NxR wq w' n2 bx cx_ gx by_ M)∧Aside0 (Mat n M (L0 ++ onP tb row (fun p=>p) x0 x3 p_))∧Aside0 (w'.heap[rb]? = some (.cells #[.int .i64 x0,.int .i64 x1,.int .i64 x2,.int .i64 x3] 54 (0,0))))
           case atStart=>exact⟨0,M,rfl,⟨by omega,by omega⟩,HX,HMp,HRB⟩
           case round=>
            clear HX HMp HRB
            obtain⟨p_,M,rfl,Hp,HX,HMp,HRB⟩:=hrel
            try clear wl
            obtain⟨wl,rfl⟩:∃W:World,W=wr:=⟨_,rfl⟩
            have r1:wl.cell? ⟨rb,1,none⟩=some (.int .i64 x1):=(blk_cell HRB.out 1).trans rfl
            have r2:wl.cell? ⟨rb,2,none⟩=some (.int .i64 x2):=(blk_cell HRB.out 2).trans rfl
            have cx:=(HX.out.b.cell (World.block_lt_of_cell? wq _ HCX.out)).trans HCX.out
            by_cases hp:(p_:Int) < n
            ·have q1 := decide_eq_true hp
             have q0:=eq_true hp
             have HPN:Aside0 (inN n (p_:Int)):=⟨⟨by omega,hp⟩⟩
             have HPL:Aside0 (p_ < n.toNat):=⟨by omega⟩
             clear hp
             by_cases hx1:x1=x
             rotate_left
             ·have q2 : (x1 == x) = false := beq_eq_false_iff_ne.mpr hx1
              have HF:Aside0 (tb=false):=⟨by rw [HTB.out];exact decide_eq_false (fun h=>hx1 h.1)⟩
              clear hx1
              go_wp2_with fail
              go_quiet (fail)
              clear r1 cx r2
              have HX1:=Aside0.mk (HX.out.below (pw_below_drewN (Below.refl _ _) nq))
              have HRB1:=Aside0.mk (blk_below HRB.out (pw_below_drewN (Below.refl _ _) nq))
              clear HX HRB
              have HX:=HX1
              have HRB:=HRB1
              clear HX1 HRB1
              obtain⟨wd,hwd⟩:∃W:World,W=wl.drewN nq:=⟨_,rfl⟩
              rw [←hwd] at HX HRB ⊢
              clear hwd
              try clear wl
              obtain⟨wl,rfl⟩:∃W:World,W=wd:=⟨_,rfl⟩
              clear q0 q1 q2
              go_wp2
              go_roundg (l5.length - (j_+1))
              case measure=>have:=Hj.out;have:=HLJ.out;omega
              case rel=>exact⟨j_+1,M,by first|rfl|rw [show wrap64 ((j_:Int)+1)=((j_+1:Nat):Int) by have:=HLJ.out;have:=HI5.out.2.2;unfold wrap64;omega],⟨HLJ.out,Nat.le_refl _⟩,HX,⟨by rw [HNX2.out];have h:=HMp.out;rw [HF.out] at h ⊢;exact h⟩⟩
             have q2:(x1 == x)=true:=beq_iff_eq.mpr hx1
             by_cases hx2:x2=0
             rotate_left
             ·have q3 : (x2 == 0) = false := beq_eq_false_iff_ne.mpr hx2
              have HF:Aside0 (tb=false):=⟨by rw [HTB.out];exact decide_eq_false (fun h=>hx2 h.2)⟩
              clear hx1 hx2
              go_wp2_with fail
              go_quiet (fail)
              clear r1 cx r2
              have HX1:=Aside0.mk (HX.out.below (pw_below_drewN (Below.refl _ _) nq))
              have HRB1:=Aside0.mk (blk_below HRB.out (pw_below_drewN (Below.refl _ _) nq))
              clear HX HRB
              have HX:=HX1
              have HRB:=HRB1
              clear HX1 HRB1
              obtain⟨wd,hwd⟩:∃W:World,W=wl.drewN nq:=⟨_,rfl⟩
              rw [←hwd] at HX HRB ⊢
              clear hwd
              try clear wl
              obtain⟨wl,rfl⟩:∃W:World,W=wd:=⟨_,rfl⟩
              clear q0 q1 q2 q3
              go_wp2
              go_roundg (l5.length - (j_+1))
              case measure=>have:=Hj.out;have:=HLJ.out;omega
              case rel=>exact⟨j_+1,M,by first|rfl|rw [show wrap64 ((j_:Int)+1)=((j_+1:Nat):Int) by have:=HLJ.out;have:=HI5.out.2.2;unfold wrap64;omega],⟨HLJ.out,Nat.le_refl _⟩,HX,⟨by rw [HNX2.out];have h:=HMp.out;rw [HF.out] at h ⊢;exact h⟩⟩
             have q3:(x2 == 0)=true:=beq_iff_eq.mpr hx2
             have HF:Aside0 (tb=true):=⟨by rw [HTB.out];exact decide_eq_true ⟨hx1,hx2⟩⟩
             clear hx1  hx2
             go_wp2_with fail
             go_quiet (fail)
             clear r1 cx r2
             have HX1:=Aside0.mk (HX.out.below (pw_below_drewN (Below.refl _ _) nq))
             have HRB1:=Aside0.mk (blk_below HRB.out (pw_below_drewN (Below.refl _ _) nq))
             clear HX HRB
             have HX:=HX1
             have HRB:=HRB1
             clear HX1 HRB1
             obtain⟨wd,hwd⟩:∃W:World,W=wl.drewN nq:=⟨_,rfl⟩
             rw [←hwd] at HX HRB ⊢
             clear hwd
             try clear wl
             obtain⟨wl,rfl⟩:∃W:World,W=wd:=⟨_,rfl⟩
             clear q0 q1 q2 q3
             have hT:=HT.out.below HX.out.b
             have k0:wl.cell? ⟨gn,0,none⟩=some (BV n2 b c):=(blk_cell hT.t 0).trans rfl
             obtain⟨Mn,hrn,hmn⟩:=hT.r
             have HRN:=Aside0.mk hrn
             clear hT hrn
             have r0:wl.cell? ⟨rb,0,none⟩=some (.int .i64 x0):=(blk_cell HRB.out 0).trans rfl
             have r2:wl.cell? ⟨rb,3,none⟩=some (.int .i64 x3):=(blk_cell HRB.out 3).trans rfl
             have m0:wl.cell? ⟨gx,0,none⟩=some (BV n2 bx cx_):=(blk_cell HX.out.g 0).trans rfl
             obtain⟨zrx,hzrx⟩:∃t:Int,t=(p_:Int)*n:=⟨_,rfl⟩
             have HHzrx:=Aside0.mk hzrx
             have ezr1:wrap64 ((p_:Int)*n)=zrx:=by rw [hzrx];exact(ix_wrap HN.out.2 HPN.out HIN.out.1).1
             clear hzrx
             obtain⟨zr,hzr⟩:∃t:Int,t=zrx+x0:=⟨_,rfl⟩
             have Hzr:Aside0 (zr=(p_:Int)*n+x0∧0≤zr∧zr < (n2:Int)):=⟨by have h1:=ix_in HN.out.2 HPN.out HIN.out.1;have h2:=HN2.out.1;rw [hzr,HHzrx.out];exact⟨rfl,by omega,by omega⟩⟩
             have ezr2:wrap64 (zrx+x0)=zr:=by rw [hzr,HHzrx.out];exact(ix_wrap HN.out.2 HPN.out HIN.out.1).2
             have pzr:=eq_true Hzr.out.2.1
             have rzr:=eq_true Hzr.out.2.2
             clear hzr
             obtain⟨y1_,y2_⟩:=Kd.R_celln false HRN.out zr Hzr.out.2.1 Hzr.out.2.2
             have hiff:=hmn.m _ _ HPN.out HIN.out.1
             rw [←Hzr.out.1] at hiff
             clear y2_ hmn
             by_cases hx:((p_:Int),x0)∈row
             ·have HXR := Aside0.mk hx
              rw [hiff.2 hx] at y1_
              clear hx hiff
              obtain⟨z,hz⟩:∃t:Int,t=zrx+x3:=⟨_,rfl⟩
              have Hz:Aside0 (z=(p_:Int)*n+x3∧0≤z∧z < (n2:Int)):=⟨by have h1:=ix_in HN.out.2 HPN.out HIN.out.2;have h2:=HN2.out.1;rw [hz,HHzrx.out];exact⟨rfl,by omega,by omega⟩⟩
              have ez2:wrap64 (zrx+x3)=z:=by rw [hz,HHzrx.out];exact(ix_wrap HN.out.2 HPN.out HIN.out.2).2
              have pz:=eq_true Hz.out.2.1
              have rz:=eq_true Hz.out.2.2
              clear hz
              obtain⟨v1_,v2_⟩:=Kd.R_celln false HX.out.r z (of_eq_true pz) (of_eq_true rz)
              go_wp2
              go_roundg (n.toNat - (p_+1))
              case measure=>have:=Hp.out;have:=HPL.out;omega
              case rel=>exact⟨p_+1,M.set z.toNat true,by first|rfl|rw [show wrap64 ((p_:Int)+1)=((p_+1:Nat):Int) by have:=HPL.out;have:=HN.out;unfold wrap64;omega],⟨HPL.out,Nat.le_refl _⟩,⟨HX.out.put z⟩,⟨by have h:=HMp.out;rw [HF.out] at h ⊢;unfold onP at h ⊢;rw [if_pos rfl] at h ⊢;rw [oneL_next,if_pos HXR.out,←List.append_assoc,Hz.out.1];exact h.push HN.out.2 HPN.out HIN.out.2⟩,⟨blk_far HRB.out (show rb≠bx from fun e=>Kd.R_ne HX.out.r HRB.out (by decide) (congrArg some e)) _⟩⟩
             ·have HXR := Aside0.mk hx
              have hf:rdOf false Mn zr=false:=by
               cases h:rdOf false Mn zr with
               | false=>rfl
               | true=>exact absurd (hiff.1 h) hx
              rw [hf] at y1_
              clear hx hiff hf
              go_wp2
              go_roundg (n.toNat - (p_+1))
              case measure=>have:=Hp.out;have:=HPL.out;omega
              case rel=>exact⟨p_+1,M,by first|rfl|rw [show wrap64 ((p_:Int)+1)=((p_+1:Nat):Int) by have:=HPL.out;have:=HN.out;unfold wrap64;omega],⟨HPL.out,Nat.le_refl _⟩,HX,⟨by have h:=HMp.out;rw [HF.out] at h ⊢;unfold onP at h ⊢;rw [if_pos rfl] at h ⊢;rw [oneL_next,if_neg HXR.out,List.append_nil];exact h⟩,HRB⟩
            ·have q1 := decide_eq_false hp
             have q0:=eq_false hp
             have HPL:Aside0 (p_=n.toNat):=⟨by have:=Hp.out;omega⟩
             clear hp
             go_wp2_with fail
             go_quiet (fail)
             clear r1 cx r2
             have HX1:=Aside0.mk (HX.out.below (pw_below_drewN (Below.refl _ _) nq))
             have HRB1:=Aside0.mk (blk_below HRB.out (pw_below_drewN (Below.refl _ _) nq))
             clear HX HRB
             have HX:=HX1
             have HRB:=HRB1
             clear HX1 HRB1
             obtain⟨wd,hwd⟩:∃W:World,W=wl.drewN nq:=⟨_,rfl⟩
             rw [←hwd] at HX HRB ⊢
             clear hwd
             try clear wl
             obtain⟨wl,rfl⟩:∃W:World,W=wd:=⟨_,rfl⟩
             clear q0 q1
             go_wp2
             go_roundg (l5.length - (j_+1))
             case measure=>have:=Hj.out;have:=HLJ.out;omega
             case rel=>exact⟨j_+1,M,by first|rfl|rw [show wrap64 ((j_:Int)+1)=((j_+1:Nat):Int) by have:=HLJ.out;have:=HI5.out.2.2;unfold wrap64;omega],⟨HLJ.out,Nat.le_refl _⟩,HX,⟨by rw [HNX2.out];have h:=HMp.out;rw [HPL.out] at h;exact h⟩⟩
         have e4:l5.take j_=l5:=List.take_of_length_le (by omega)
         rw [e4] at HMt
         have s3:=eq_false (show ¬(j_:Int) < (l5.length:Int) by omega)
         clear hlj e4 Hj
         clear k0 k1
         have HTT:=Aside0.mk (HT.out.below HX.out.b)
         have m0:wl.cell? ⟨gx,0,none⟩=some (BV n2 bx cx_):=(blk_cell HX.out.g 0).trans rfl
         have m1:wl.cell? ⟨gx,1,none⟩=some (.int .i64 by_):=(blk_cell HX.out.g 1).trans rfl
         have fk0:=blk_frozen HTT.out.t 0
         have fk1:=blk_frozen HTT.out.t 1
         have k0:wl.cell? ⟨gn,0,none⟩=some (BV n2 b c):=(blk_cell HTT.out.t 0).trans rfl
         have k1:wl.cell? ⟨gn,1,none⟩=some (.int .i64 by_):=(blk_cell HTT.out.t 1).trans rfl
         go_wp2
         go_roundg (l7.length - (i_+1))
         case measure=>have:=Hi.out;have:=HLT.out;omega
         case rel=>exact⟨i_+1,bx,cx_,(nClose l5 x row),by_,us,[],by first|rfl|rw [show wrap64 ((i_:Int)+1)=((i_+1:Nat):Int) by have:=HLT.out;have:=HI7.out.2.2;unfold wrap64;omega],⟨HLT.out,Nat.le_refl _⟩,⟨HTT.out.next (HX.out.r.lower HT.out.bw.size) (HMt.out.congr (mem_tC HT.out.i l5)) (in_close HINS.out HT.out.i)⟩,⟨by have h1:=HU.out;have h2:=HUN.out;omega⟩,⟨HG2.out⟩⟩
      obtain⟨us',u,hus⟩:∃us' u,us=us' ++ [u]:=by
       rcases List.eq_nil_or_concat us with h|⟨us',u,h⟩
       ·have h2:=HUN.out;rw [h] at h2;exact absurd h2 hz
       ·exact⟨us',u,by rw [h,List.concat_eq_append]⟩
      have hlv:=HT.out.l
      rw [hus,List.reverse_append] at hlv
      obtain⟨v,under,rfl⟩:∃v u',under=v :: u':=by
       cases under with
       | nil=>exact hlv.elim
       | cons v u'=>exact⟨v,u',rfl⟩
      obtain⟨⟨bu,cu⟩,byu⟩:=u
      obtain⟨rowv,byv⟩:=v
      obtain⟨hm_,hi_,hb_,_⟩:=hlv
      obtain rfl:byu=byv:=hb_
      have HV:=Aside0.mk (And.intro hm_ hi_)
      clear hm_ hi_
      have HG2:=Aside0.mk ((goT_close HK.out (by rw [←HKD.out];exact kd2)).symm.trans HG1.out)
      have hnU:=HUN.out
      have HUS:=Aside0.mk (And.intro hus hnU)
      clear kd1 kd2 HG1 HG
      have z0:1≤nU:=by omega
      have HZ0:=Aside0.mk z0
      have z6:nU≤1000000:=by have:=HU.out;have:=HLT.out;have:=HI7.out.2.2;omega
      have HZ6:=Aside0.mk z6
      have hT:=HT.out.below HX.out.b
      obtain⟨u1,u2,u3⟩:=Kd.R_reads' hT.u
      have HUC:=Aside0.mk u2
      have hlast:us[nU - 1]? = some ((bu,cu),byu):=by rw [hnU,hus];simp
      obtain⟨ad5,e5,v5,v6⟩:=at_lv (by rw [←u1] at u3;exact u3) (nU - 1) _ hlast (by omega)
      subst e5
      clear u1 u2 u3 hlast hus hnU
      have z1:=decide_eq_true (show (nU:Int) > 0 by omega)
      have z2:=eq_true (show 0 < nU by omega)
      have z3:wrap64 ((nU:Int) - 1)=(nU:Int) - 1:=by unfold wrap64;omega
      have z4:=eq_true (show (0:Int)≤(nU:Int) - 1 by omega)
      have z5:=eq_true (show (nU:Int) - 1 < (nU:Int) by omega)
      have z7:=eq_true (show (1:Int)≤(nU:Int) by omega)
      clear z0 z6 hz
      have cx:=(HX.out.b.cell (World.block_lt_of_cell? wq _ HCX.out)).trans HCX.out
      obtain⟨a0,a1,a2,a3,a4,a5,a6⟩:=tk_cells hT.a
      have k0:wl.cell? ⟨gn,0,none⟩=some (BV n2 b c):=(blk_cell hT.t 0).trans rfl
      have k1:wl.cell? ⟨gn,1,none⟩=some (.int .i64 by_):=(blk_cell hT.t 1).trans rfl
      clear hT
      go_upto_region 39 with (fail)
      refine start_ (n:=14) (S:=fun w'=>w'.cell? ⟨ga,0,none⟩=some (.int .i64 n)∧w'.cell? ⟨ga,1,none⟩=some (.int .i64 g)∧w'.cell? ⟨ga,2,none⟩=some (.slice A2 l2.length c2)∧w'.cell? ⟨ga,3,none⟩=some (.slice A3 l3.length c3)∧w'.cell? ⟨ga,4,none⟩=some (.slice A4 l4.length c4)∧w'.cell? ⟨ga,5,none⟩=some (.slice A5 l5.length c5)∧w'.cell? ⟨ga,6,none⟩=some (.slice A6 l6.length c6)∧w'.cell? ⟨gn,0,none⟩=some (BV n2 b c)∧w'.cell? ⟨gn,1,none⟩=some (.int .i64 by_)∧w'.cell? (ad5.add ((nU - 1)*2))=some (BV n2 bu cu)∧w'.cell? ⟨(ad5.add ((nU - 1)*2)).block,(ad5.add ((nU - 1)*2)).off+1,none⟩=some (.int .i64 byu)∧w'.cell? (ad7.add i_)=some (.int .i64 x)) (ds:=[13]) (pm 0 14) (by kernel_rfl) rfl rfl ⟨a0,a1,a2,a3,a4,a5,a6,k0,k1,v5,v6,cx⟩ (fun hHeld=>?_)
      refine with_tabW Tk39r.tab Tk39r.bits (fun HT_ HW_=>?_)
      clear a0 a1 a2 a3 a4 a5 a6 k0 k1 v5 v6 cx
      have HX1:=Aside0.mk (HX.out.below (below_drew (Below.refl _ _)))
      clear HX
      have HX:=HX1
      clear HX1
      obtain⟨wd,hwd⟩:∃W:World,W=wl.drew:=⟨_,rfl⟩
      rw [←hwd] at HX hHeld ⊢
      clear hwd
      try clear wl
      obtain⟨wl,rfl⟩:∃W:World,W=wd:=⟨_,rfl⟩
      iterate 12 (first|(refine pn_ (v:=?_) (a':=?_) rfl (rfl (a:=some _)) (any_of HT_.out (by kernel_rfl)) (fun _ _ _ h=>h) (Or.inl ⟨by rfl,?_⟩) ?_ ?_;rotate_left;(intro w';go_simp;with_reducible rfl);rotate_left;(simp only [Act.put,List.setIfInBounds_toArray,List.set_cons_zero,List.set_cons_succ,i64_w,i32_w];rfl))|(refine tn_ (v:=?_) (a':=?_) rfl (rfl (a:=some _)) (take_ofW HT_.out HW_.out (by kernel_rfl)) (fun _ _ _ h=>h) (Or.inl ⟨by rfl,?_⟩) hHeld ?_ ?_;rotate_left;(intro w' hS_;obtain⟨s0,s1,s2,s3,s4,s5,s6,s7,s8,s9,s10,s11⟩:=hS_;go_simp;with_reducible rfl);rotate_left;(simp only [Act.put,List.setIfInBounds_toArray,List.set_cons_zero,List.set_cons_succ,i64_w,i32_w];rfl)))
      refine one_ (i:=12) (N:=(some 219)) (pm 13 1) rfl rfl (one_of HT_.out (by kernel_rfl)) (by decide) (fun K hK=>?_)
      have HTq:=Aside0.mk (HT.out.below HX.out.b)
      refine goes_ Try.func44 (by kernel_rfl) rfl #[.agg #[.int .i64 n,.int .i64 g,.slice A2 l2.length c2,.slice A3 l3.length c3,.slice A4 l4.length c4,.slice A5 l5.length c5,.slice A6 l6.length c6],.agg #[BV n2 bu cu,.int .i64 byu],.agg #[BV n2 b c,.int .i64 by_],.int .i64 x] rfl rfl rfl (by(try simp only [List.map_toArray,List.map_cons,List.map_nil]);rfl) ?_
      refine(back_own n g A2 c2 l2 A3 c3 l3 A4 c4 l4 A5 c5 l5 A6 c6 l6 n2 bu cu b c byu by_ x rowv row wl (Kd.C_below HI2.out.1 HTq.out.bw) HI2.out.2.1 (Kd.C_below HI3.out.1 HTq.out.bw) HI3.out.2.1 (Kd.C_below HI4.out.1 HTq.out.bw) HI4.out.2.1 (Kd.C_below HI5.out.1 HTq.out.bw) HI5.out.2.1 (Kd.C_below HI6.out.1 HTq.out.bw) HI6.out.2.1 HN.out.1 HN.out.2 HN2.out.2.2.2 HI4.out.2.2 HI5.out.2.2 HINS.out (let ⟨M1,h1,h2⟩:=HV.out.1;⟨_,M1,h1.below HX.out.b,h2⟩) (let ⟨M1,h1,h2⟩:=HTq.out.r;⟨_,M1,h1,h2⟩) HV.out.2).mono ?_
      rintro e w7 ⟨b3,c3_,M3,rfl,hb3,hm3,hw7⟩
      refine⟨_,rfl,?_⟩
      have HM3:=Aside0.mk hm3
      have HX3:Aside0 (NxR wq ((w7.setCell ⟨gx,0,none⟩ (BV n2 b3 c3_)).setCell ⟨gx,1,none⟩ (.int .i64 byu)) n2 b3 c3_ gx byu M3):=⟨HX.out.back hw7 hb3⟩
      have HG7:=Aside0.mk (blk_below HX.out.g hw7)
      have HC7:Aside0 (w7.cell? ⟨ga,0,none⟩=some (.int .i64 n)∧w7.cell? ⟨ga,1,none⟩=some (.int .i64 g)∧w7.cell? ⟨ga,2,none⟩=some (.slice A2 l2.length c2)∧w7.cell? ⟨ga,3,none⟩=some (.slice A3 l3.length c3)∧w7.cell? ⟨ga,4,none⟩=some (.slice A4 l4.length c4)∧w7.cell? ⟨ga,5,none⟩=some (.slice A5 l5.length c5)∧w7.cell? ⟨ga,6,none⟩=some (.slice A6 l6.length c6)∧w7.cell? ⟨gn,0,none⟩=some (BV n2 b c)∧w7.cell? ⟨gn,1,none⟩=some (.int .i64 by_)∧w7.cell? (ad5.add ((nU - 1)*2))=some (BV n2 bu cu)∧w7.cell? ⟨(ad5.add ((nU - 1)*2)).block,(ad5.add ((nU - 1)*2)).off+1,none⟩=some (.int .i64 byu)∧w7.cell? (ad7.add i_)=some (.int .i64 x)):=⟨(hw7.cell (World.block_lt_of_cell? wl _ hHeld.1)).trans hHeld.1,(hw7.cell (World.block_lt_of_cell? wl _ hHeld.2.1)).trans hHeld.2.1,(hw7.cell (World.block_lt_of_cell? wl _ hHeld.2.2.1)).trans hHeld.2.2.1,(hw7.cell (World.block_lt_of_cell? wl _ hHeld.2.2.2.1)).trans hHeld.2.2.2.1,(hw7.cell (World.block_lt_of_cell? wl _ hHeld.2.2.2.2.1)).trans hHeld.2.2.2.2.1,(hw7.cell (World.block_lt_of_cell? wl _ hHeld.2.2.2.2.2.1)).trans hHeld.2.2.2.2.2.1,(hw7.cell (World.block_lt_of_cell? wl _ hHeld.2.2.2.2.2.2.1)).trans hHeld.2.2.2.2.2.2.1,(hw7.cell (World.block_lt_of_cell? wl _ hHeld.2.2.2.2.2.2.2.1)).trans hHeld.2.2.2.2.2.2.2.1,(hw7.cell (World.block_lt_of_cell? wl _ hHeld.2.2.2.2.2.2.2.2.1)).trans hHeld.2.2.2.2.2.2.2.2.1,(hw7.cell (World.block_lt_of_cell? wl _ hHeld.2.2.2.2.2.2.2.2.2.1)).trans hHeld.2.2.2.2.2.2.2.2.2.1,(hw7.cell (World.block_lt_of_cell? wl _ hHeld.2.2.2.2.2.2.2.2.2.2.1)).trans hHeld.2.2.2.2.2.2.2.2.2.2.1,(hw7.cell (World.block_lt_of_cell? wl _ hHeld.2.2.2.2.2.2.2.2.2.2.2)).trans hHeld.2.2.2.2.2.2.2.2.2.2.2⟩
      clear hb3 hm3 hw7 hHeld HTq
      refine hK.out _ _ HC7.out (fun hHeld=>?_)
      clear hK K
      refine norm_ (a':=?_) ?_ ?_
      rotate_left
      ·show Act.put _ (some 219) _ = _
       simp only [Act.put,List.setIfInBounds_toArray,List.set_cons_zero,List.set_cons_succ,i64_w,i32_w]
       rfl
      refine last_ (i:=13) (N:=none) (pm 14 0) rfl rfl (one_of HT_.out (by kernel_rfl)) (by decide) (fun K hK=>?_)
      have hc0:w7.cell? ⟨gx,0,none⟩=some (BV n2 bx cx_):=(blk_cell HG7.out 0).trans rfl
      have hc1:w7.cell? ⟨gx,1,none⟩=some (.int .i64 by_):=(blk_cell HG7.out 1).trans rfl
      have hf0:=blk_frozen HG7.out 0
      have hf1:=blk_frozen HG7.out 1
      refine Go.Proofs.Ytjkhdldgmkkhjaa.M.step_skip (w1:=((w7.setCell ⟨gx,0,none⟩ (BV n2 b3 c3_)).setCell ⟨gx,1,none⟩ (.int .i64 byu))) rfl rfl (by go_simp) ?_
      clear hc0 hc1 hf0 hf1 hHeld HG7 HC7 HX
      refine hK.out _ _ ?_
      clear hK K
      obtain⟨wd,hwd⟩:∃W:World,W=((w7.setCell ⟨gx,0,none⟩ (BV n2 b3 c3_)).setCell ⟨gx,1,none⟩ (.int .i64 byu)):=⟨_,rfl⟩
      rw [←hwd] at HX3 ⊢
      clear hwd w7
      try clear wl
      obtain⟨wl,rfl⟩:∃W:World,W=wd:=⟨_,rfl⟩
      refine done_ (done_of HT_.out (by kernel_rfl)) ?_
      have HTq:=Aside0.mk (HT.out.below HX3.out.b)
      have HTP:=Aside0.mk (HTq.out.pop (m':=nU - 1) HUS.out.1 rfl (by have:=HZ0.out;omega))
      have z8:=eq_true (show (nU:Int) - 1≤(uc:Int) by have:=HUC.out;have:=HZ0.out;omega)
      have m0:wl.cell? ⟨gx,0,none⟩=some (BV n2 b3 c3_):=(blk_cell HX3.out.g 0).trans rfl
      have m1:wl.cell? ⟨gx,1,none⟩=some (.int .i64 byu):=(blk_cell HX3.out.g 1).trans rfl
      have fk0:=blk_frozen HTP.out.t 0
      have fk1:=blk_frozen HTP.out.t 1
      have k0:wl.cell? ⟨gn,0,none⟩=some (BV n2 b c):=(blk_cell HTP.out.t 0).trans rfl
      have k1:wl.cell? ⟨gn,1,none⟩=some (.int .i64 by_):=(blk_cell HTP.out.t 1).trans rfl
      go_wp2
      go_roundg (l7.length - (i_+1))
      case measure=>have:=Hi.out;have:=HLT.out;omega
      case rel=>exact⟨i_+1,b3,c3_,(nBack l4 l5 x by_ rowv row),byu,us',under,by first|rfl|rw [show wrap64 ((i_:Int)+1)=((i_+1:Nat):Int) by have:=HLT.out;have:=HI7.out.2.2;unfold wrap64;omega],⟨HLT.out,Nat.le_refl _⟩,⟨HTP.out.next (HX3.out.r.lower HT.out.bw.size) HM3.out (in_back HINS.out HV.out.2)⟩,⟨by have h1:=HU.out;have h2:=HUS.out.2;rw [HUS.out.1,List.length_append] at h2;simp only [List.length_cons,List.length_nil] at h2;omega⟩,⟨HG2.out⟩⟩
    as_aux_lemma=>
     have d2:(kd == 2)=false:=beq_eq_false_iff_ne.mpr kd2
     have HG2:=Aside0.mk ((goT_inner HK.out (by rw [←HKD.out];exact kd1) (by rw [←HKD.out];exact kd2)).symm.trans HG1.out)
     clear kd1 kd2 HG1 HG
     have cx:=(HX.out.b.cell (World.block_lt_of_cell? wq _ HCX.out)).trans HCX.out
     have hT:=HT.out.below HX.out.b
     obtain⟨a0,a1,a2,a3,a4,a5,a6⟩:=tk_cells hT.a
     have k0:wl.cell? ⟨gn,0,none⟩=some (BV n2 b c):=(blk_cell hT.t 0).trans rfl
     have k1:wl.cell? ⟨gn,1,none⟩=some (.int .i64 by_):=(blk_cell hT.t 1).trans rfl
     clear hT
     go_wp2
     go_loopg [19] l6.length (fun gk vj w'=>∃(j_:Nat) (M:List Bool),vj=.int .i64 (j_:Int)∧Aside0 (j_≤l6.length∧l6.length - j_≤gk)∧Aside0 (NxR wq w' n2 bx cx_ gx by_ M)∧Aside0 (Mat n M ((l6.take j_).flatMap (tN n x row))))
     case atStart=>exact⟨0,_,rfl,⟨by omega,by omega⟩,HX,⟨HM0.out⟩⟩
     case round=>
      clear HX
      clear a0 a1 a2 a3 a4 a5 a6 k0 k1
      obtain⟨j_,M,rfl,Hj,HX,HMt⟩:=hrel
      try clear wl
      obtain⟨wl,rfl⟩:∃W:World,W=wr:=⟨_,rfl⟩
      have hT:=HT.out.below HX.out.b
      obtain⟨a0,a1,a2,a3,a4,a5,a6⟩:=tk_cells hT.a
      have k0:wl.cell? ⟨gn,0,none⟩=some (BV n2 b c):=(blk_cell hT.t 0).trans rfl
      have k1:wl.cell? ⟨gn,1,none⟩=some (.int .i64 by_):=(blk_cell hT.t 1).trans rfl
      clear hT
      by_cases hlj:j_ < l6.length
      ·as_aux_lemma=>
        have HLJ:=Aside0.mk hlj
        obtain⟨ad,eA,c0_,c1_,c2_⟩:=at_T56 (Kd.C_below HI6.out.1 (below_then HT.out.bw HT.out.bw.size HX.out.b)) (j_:Int) (by omega) (by omega)
        have hrd:rd_T56 l6 (j_:Int)=l6[j_]:=by unfold rd_T56;rw [Int.toNat_natCast,List.getD_eq_getElem?_getD,List.getElem?_eq_getElem hlj];rfl
        rw [hrd,Int.toNat_natCast] at c0_ c1_ c2_
        clear hrd
        have hIN:=HINS.out.p l6[j_] (List.getElem_mem hlj)
        have HNX:Aside0 ((l6.take (j_+1)).flatMap (tN n x row)=(l6.take j_).flatMap (tN n x row) ++ tN n x row l6[j_]):=⟨fl_next _ _ _ hlj⟩
        generalize l6[j_]=r_ at HNX hIN c0_ c1_ c2_
        obtain⟨x0,x1,x2⟩:=r_
        have HIN:Aside0 (inN n x0∧inN n x2):=⟨hIN⟩
        clear hIN
        obtain⟨L0,hL0⟩:∃L,L=(l6.take j_).flatMap (tN n x row):=⟨_,rfl⟩
        rw [←hL0] at HNX HMt
        clear hL0
        have s3:=eq_true (show (j_:Int) < (l6.length:Int) by omega)
        have s4:=eq_true (show (0:Int)≤(j_:Int) by omega)
        subst eA
        clear hlj
        go_upto_region 21 with (fail)
        obtain⟨rb,hrb⟩:∃g,g=wl.heap.size:=⟨_,rfl⟩
        have HRB:Aside0 ((wl.alloc (.cells #[.int .i64 x0,.int .i64 x1,.int .i64 x2] 56)).heap[rb]? = some (.cells #[.int .i64 x0,.int .i64 x1,.int .i64 x2] 56 (0,0))):=⟨by rw [hrb];exact blk_newAt _ rfl⟩
        have HX1:=Aside0.mk (HX.out.below (below_alloc (Below.refl _ _) (.cells #[.int .i64 x0,.int .i64 x1,.int .i64 x2] 56)))
        clear HX
        have HX:=HX1
        clear HX1
        rw [←hrb]
        clear hrb c0_ c1_ c2_ a0 a1 a2 a3 a4 a5 a6 k0 k1 s3 s4
        obtain⟨wd,hwd⟩:∃W:World,W=wl.alloc (.cells #[.int .i64 x0,.int .i64 x1,.int .i64 x2] 56):=⟨_,rfl⟩
        rw [←hwd] at HX HRB ⊢
        clear hwd
        try clear wl
        obtain⟨wl,rfl⟩:∃W:World,W=wd:=⟨_,rfl⟩
        obtain⟨tb,htb⟩:∃tb:Bool,tb=decide (x1=x):=⟨_,rfl⟩
        have HNX2:Aside0 ((l6.take (j_+1)).flatMap (tN n x row)=L0 ++ onP tb row (fun p=>p) x0 x2 n.toNat):=⟨by
         rw [HNX.out,htb]
         unfold onP
         by_cases h:x1=x
         ·rw [decide_eq_true h,if_pos rfl];exact congrArg (L0 ++ ·) (if_pos h)
         ·rw [decide_eq_false h,if_neg (by decide)];exact congrArg (L0 ++ ·) (if_neg h)⟩
        have HTB:=Aside0.mk htb
        clear htb HNX
        have HMp:Aside0 (Mat n M (L0 ++ onP tb row (fun p=>p) x0 x2 0)):=⟨by unfold onP oneL;simpa using HMt.out⟩
        clear HMt
        go_wp2
        go_loopg [21] n.toNat (fun gk vp w'=>∃(p_:Nat) (M:List Bool),vp=.int .i64 (p_:Int)∧Aside0 (p_≤n.toNat∧n.toNat - p_≤gk)∧Aside0 (NxR wq w' n2 bx cx_ gx by_ M)∧Aside0 (Mat n M (L0 ++ onP tb row (fun p=>p) x0 x2 p_))∧Aside0 (w'.heap[rb]? = some (.cells #[.int .i64 x0,.int .i64 x1,.int .i64 x2] 56 (0,0))))
        case atStart=>exact⟨0,M,rfl,⟨by omega,by omega⟩,HX,HMp,HRB⟩
        case round=>
         clear HX HMp HRB
         obtain⟨p_,M,rfl,Hp,HX,HMp,HRB⟩:=hrel
         try clear wl
         obtain⟨wl,rfl⟩:∃W:World,W=wr:=⟨_,rfl⟩
         have r1:wl.cell? ⟨rb,1,none⟩=some (.int .i64 x1):=(blk_cell HRB.out 1).trans rfl
         have cx:=(HX.out.b.cell (World.block_lt_of_cell? wq _ HCX.out)).trans HCX.out
         by_cases hp:(p_:Int) < n
         ·have q1 := decide_eq_true hp
          have q0:=eq_true hp
          have HPN:Aside0 (inN n (p_:Int)):=⟨⟨by omega,hp⟩⟩
          have HPL:Aside0 (p_ < n.toNat):=⟨by omega⟩
          clear hp
          by_cases hx1:x1=x
          rotate_left
          ·have q2 : (x1 == x) = false := beq_eq_false_iff_ne.mpr hx1
           have HF:Aside0 (tb=false):=⟨by rw [HTB.out];exact decide_eq_false (fun h=>hx1 h)⟩
           clear hx1
           go_wp2_with fail
           go_quiet (fail)
           clear r1 cx
           have HX1:=Aside0.mk (HX.out.below (pw_below_drewN (Below.refl _ _) nq))
           have HRB1:=Aside0.mk (blk_below HRB.out (pw_below_drewN (Below.refl _ _) nq))
           clear HX HRB
           have HX:=HX1
           have HRB:=HRB1
           clear HX1 HRB1
           obtain⟨wd,hwd⟩:∃W:World,W=wl.drewN nq:=⟨_,rfl⟩
           rw [←hwd] at HX HRB ⊢
           clear hwd
           try clear wl
           obtain⟨wl,rfl⟩:∃W:World,W=wd:=⟨_,rfl⟩
           clear q0 q1 q2
           go_wp2
           go_roundg (l6.length - (j_+1))
           case measure=>have:=Hj.out;have:=HLJ.out;omega
           case rel=>exact⟨j_+1,M,by first|rfl|rw [show wrap64 ((j_:Int)+1)=((j_+1:Nat):Int) by have:=HLJ.out;have:=HI6.out.2.2;unfold wrap64;omega],⟨HLJ.out,Nat.le_refl _⟩,HX,⟨by rw [HNX2.out];have h:=HMp.out;rw [HF.out] at h ⊢;exact h⟩⟩
          have q2:(x1 == x)=true:=beq_iff_eq.mpr hx1
          have HF:Aside0 (tb=true):=⟨by rw [HTB.out];exact decide_eq_true hx1⟩
          clear hx1
          go_wp2_with fail
          go_quiet (fail)
          clear r1 cx
          have HX1:=Aside0.mk (HX.out.below (pw_below_drewN (Below.refl _ _) nq))
          have HRB1:=Aside0.mk (blk_below HRB.out (pw_below_drewN (Below.refl _ _) nq))
          clear HX HRB
          have HX:=HX1
          have HRB:=HRB1
          clear HX1 HRB1
          obtain⟨wd,hwd⟩:∃W:World,W=wl.drewN nq:=⟨_,rfl⟩
          rw [←hwd] at HX HRB ⊢
          clear hwd
          try clear wl
          obtain⟨wl,rfl⟩:∃W:World,W=wd:=⟨_,rfl⟩
          clear q0 q1 q2
          have hT:=HT.out.below HX.out.b
          have k0:wl.cell? ⟨gn,0,none⟩=some (BV n2 b c):=(blk_cell hT.t 0).trans rfl
          obtain⟨Mn,hrn,hmn⟩:=hT.r
          have HRN:=Aside0.mk hrn
          clear hT hrn
          have r0:wl.cell? ⟨rb,0,none⟩=some (.int .i64 x0):=(blk_cell HRB.out 0).trans rfl
          have r2:wl.cell? ⟨rb,2,none⟩=some (.int .i64 x2):=(blk_cell HRB.out 2).trans rfl
          have m0:wl.cell? ⟨gx,0,none⟩=some (BV n2 bx cx_):=(blk_cell HX.out.g 0).trans rfl
          obtain⟨zrx,hzrx⟩:∃t:Int,t=(p_:Int)*n:=⟨_,rfl⟩
          have HHzrx:=Aside0.mk hzrx
          have ezr1:wrap64 ((p_:Int)*n)=zrx:=by rw [hzrx];exact(ix_wrap HN.out.2 HPN.out HIN.out.1).1
          clear hzrx
          obtain⟨zr,hzr⟩:∃t:Int,t=zrx+x0:=⟨_,rfl⟩
          have Hzr:Aside0 (zr=(p_:Int)*n+x0∧0≤zr∧zr < (n2:Int)):=⟨by have h1:=ix_in HN.out.2 HPN.out HIN.out.1;have h2:=HN2.out.1;rw [hzr,HHzrx.out];exact⟨rfl,by omega,by omega⟩⟩
          have ezr2:wrap64 (zrx+x0)=zr:=by rw [hzr,HHzrx.out];exact(ix_wrap HN.out.2 HPN.out HIN.out.1).2
          have pzr:=eq_true Hzr.out.2.1
          have rzr:=eq_true Hzr.out.2.2
          clear hzr
          obtain⟨y1_,y2_⟩:=Kd.R_celln false HRN.out zr Hzr.out.2.1 Hzr.out.2.2
          have hiff:=hmn.m _ _ HPN.out HIN.out.1
          rw [←Hzr.out.1] at hiff
          clear y2_ hmn
          by_cases hx:((p_:Int),x0)∈row
          ·have HXR := Aside0.mk hx
           rw [hiff.2 hx] at y1_
           clear hx hiff
           obtain⟨z,hz⟩:∃t:Int,t=zrx+x2:=⟨_,rfl⟩
           have Hz:Aside0 (z=(p_:Int)*n+x2∧0≤z∧z < (n2:Int)):=⟨by have h1:=ix_in HN.out.2 HPN.out HIN.out.2;have h2:=HN2.out.1;rw [hz,HHzrx.out];exact⟨rfl,by omega,by omega⟩⟩
           have ez2:wrap64 (zrx+x2)=z:=by rw [hz,HHzrx.out];exact(ix_wrap HN.out.2 HPN.out HIN.out.2).2
           have pz:=eq_true Hz.out.2.1
           have rz:=eq_true Hz.out.2.2
           clear hz
           obtain⟨v1_,v2_⟩:=Kd.R_celln false HX.out.r z (of_eq_true pz) (of_eq_true rz)
           go_wp2
           go_roundg (n.toNat - (p_+1))
           case measure=>have:=Hp.out;have:=HPL.out;omega
           case rel=>exact⟨p_+1,M.set z.toNat true,by first|rfl|rw [show wrap64 ((p_:Int)+1)=((p_+1:Nat):Int) by have:=HPL.out;have:=HN.out;unfold wrap64;omega],⟨HPL.out,Nat.le_refl _⟩,⟨HX.out.put z⟩,⟨by have h:=HMp.out;rw [HF.out] at h ⊢;unfold onP at h ⊢;rw [if_pos rfl] at h ⊢;rw [oneL_next,if_pos HXR.out,←List.append_assoc,Hz.out.1];exact h.push HN.out.2 HPN.out HIN.out.2⟩,⟨blk_far HRB.out (show rb≠bx from fun e=>Kd.R_ne HX.out.r HRB.out (by decide) (congrArg some e)) _⟩⟩
          ·have HXR := Aside0.mk hx
           have hf:rdOf false Mn zr=false:=by
            cases h:rdOf false Mn zr with
            | false=>rfl
            | true=>exact absurd (hiff.1 h) hx
           rw [hf] at y1_
           clear hx hiff hf
           go_wp2
           go_roundg (n.toNat - (p_+1))
           case measure=>have:=Hp.out;have:=HPL.out;omega
           case rel=>exact⟨p_+1,M,by first|rfl|rw [show wrap64 ((p_:Int)+1)=((p_+1:Nat):Int) by have:=HPL.out;have:=HN.out;unfold wrap64;omega],⟨HPL.out,Nat.le_refl _⟩,HX,⟨by have h:=HMp.out;rw [HF.out] at h ⊢;unfold onP at h ⊢;rw [if_pos rfl] at h ⊢;rw [oneL_next,if_neg HXR.out,List.append_nil];exact h⟩,HRB⟩
         ·have q1 := decide_eq_false hp
          have q0:=eq_false hp
          have HPL:Aside0 (p_=n.toNat):=⟨by have:=Hp.out;omega⟩
          clear hp
          go_wp2_with fail
          go_quiet (fail)
          clear r1 cx
          have HX1:=Aside0.mk (HX.out.below (pw_below_drewN (Below.refl _ _) nq))
          have HRB1:=Aside0.mk (blk_below HRB.out (pw_below_drewN (Below.refl _ _) nq))
          clear HX HRB
          have HX:=HX1
          have HRB:=HRB1
          clear HX1 HRB1
          obtain⟨wd,hwd⟩:∃W:World,W=wl.drewN nq:=⟨_,rfl⟩
          rw [←hwd] at HX HRB ⊢
          clear hwd
          try clear wl
          obtain⟨wl,rfl⟩:∃W:World,W=wd:=⟨_,rfl⟩
          clear q0 q1
          go_wp2
          go_roundg (l6.length - (j_+1))
          case measure=>have:=Hj.out;have:=HLJ.out;omega
          case rel=>exact⟨j_+1,M,by first|rfl|rw [show wrap64 ((j_:Int)+1)=((j_+1:Nat):Int) by have:=HLJ.out;have:=HI6.out.2.2;unfold wrap64;omega],⟨HLJ.out,Nat.le_refl _⟩,HX,⟨by rw [HNX2.out];have h:=HMp.out;rw [HPL.out] at h;exact h⟩⟩
      have e4:l6.take j_=l6:=List.take_of_length_le (by omega)
      rw [e4] at HMt
      have s3:=eq_false (show ¬(j_:Int) < (l6.length:Int) by omega)
      clear hlj e4 Hj
      clear k0 k1
      have HTT:=Aside0.mk (HT.out.below HX.out.b)
      have m0:wl.cell? ⟨gx,0,none⟩=some (BV n2 bx cx_):=(blk_cell HX.out.g 0).trans rfl
      have m1:wl.cell? ⟨gx,1,none⟩=some (.int .i64 by_):=(blk_cell HX.out.g 1).trans rfl
      have fk0:=blk_frozen HTT.out.t 0
      have fk1:=blk_frozen HTT.out.t 1
      have k0:wl.cell? ⟨gn,0,none⟩=some (BV n2 b c):=(blk_cell HTT.out.t 0).trans rfl
      have k1:wl.cell? ⟨gn,1,none⟩=some (.int .i64 by_):=(blk_cell HTT.out.t 1).trans rfl
      go_wp2
      go_roundg (l7.length - (i_+1))
      case measure=>have:=Hi.out;have:=HLT.out;omega
      case rel=>exact⟨i_+1,bx,cx_,(nInner l6 x row),by_,us,under,by first|rfl|rw [show wrap64 ((i_:Int)+1)=((i_+1:Nat):Int) by have:=HLT.out;have:=HI7.out.2.2;unfold wrap64;omega],⟨HLT.out,Nat.le_refl _⟩,⟨HTT.out.next (HX.out.r.lower HT.out.bw.size) (HMt.out.congr (mem_tN HT.out.i l6)) (in_inner HINS.out HT.out.i)⟩,⟨by have:=HU.out;(try simp only [List.length_append,List.length_cons,List.length_nil]);omega⟩,⟨HG2.out⟩⟩
   as_aux_lemma=>
    clear HU
    have HRV3:Aside0 (rv=row.any fun p=>l3.contains p.2):=⟨by rw [HRV2.out];unfold takesB;rw [←HG.out,List.drop_eq_nil_of_le (by omega)];cases under<;>rfl⟩
    have s1:=eq_false (show ¬(i_:Int) < (l7.length:Int) by omega)
    clear hlt HG HRV2 Hi
    have HNO:Aside0 (∀f∈l3.take 0,∀q:Int,(q,f)∉row):=⟨fun f hf=>by cases hf⟩
    obtain⟨wl,rfl⟩:∃W:World,W=wq:=⟨_,rfl⟩
    obtain⟨a0,a1,a2,a3,a4,a5,a6⟩:=tk_cells HT.out.a
    go_wp2
    go_loopg [22] l3.length (fun gk vj w'=>∃j_:Nat,vj=.int .i64 (j_:Int)∧Aside0 (j_≤l3.length∧l3.length - j_≤gk)∧Aside0 (TkR w w' ga gn n2 n #[.int .i64 n,.int .i64 g,.slice A2 l2.length c2,.slice A3 l3.length c3,.slice A4 l4.length c4,.slice A5 l5.length c5,.slice A6 l6.length c6] b c row by_ (.slice UA us.length uc) us under)∧Aside0 (∀f∈l3.take j_,∀q:Int,(q,f)∉row))
    case atStart=>exact⟨0,rfl,⟨by omega,by omega⟩,HT,HNO⟩
    case round=>
     clear HT HNO a0 a1 a2 a3 a4 a5 a6 s1
     obtain⟨j_,rfl,Hj,HT,HNO⟩:=hrel
     try clear wl
     obtain⟨wl,rfl⟩:∃W:World,W=wr:=⟨_,rfl⟩
     obtain⟨a0,a1,a2,a3,a4,a5,a6⟩:=tk_cells HT.out.a
     by_cases hlj:j_ < l3.length
     ·have HLJ := Aside0.mk hlj
      have HFI:=Aside0.mk (HINS.out.f l3[j_] (List.getElem_mem hlj))
      have HFM:=Aside0.mk (List.getElem_mem hlj)
      have HNX:Aside0 (l3.take (j_+1)=l3.take j_ ++ [l3[j_]]):=⟨by rw [List.take_add_one,List.getElem?_eq_getElem hlj];rfl⟩
      obtain⟨ad3,e3,cf0⟩:=int_at HI3.out.1 j_ hlj
      generalize l3[j_]=f at HFI HFM HNX cf0
      have HCF:=Aside0.mk cf0
      clear cf0
      subst e3
      have s3:=eq_true (show (j_:Int) < (l3.length:Int) by omega)
      have s4:=eq_true (show (0:Int)≤(j_:Int) by omega)
      clear hlj
      have HNP:Aside0 (∀q:Nat,q < 0→((q:Int),f)∉row):=⟨fun q hq=>absurd hq (Nat.not_lt_zero q)⟩
      go_wp2
      go_loopg [23] n.toNat (fun gk vp w'=>∃p_:Nat,vp=.int .i64 (p_:Int)∧Aside0 (p_≤n.toNat∧n.toNat - p_≤gk)∧Aside0 (TkR w w' ga gn n2 n #[.int .i64 n,.int .i64 g,.slice A2 l2.length c2,.slice (some ad3) l3.length c3,.slice A4 l4.length c4,.slice A5 l5.length c5,.slice A6 l6.length c6] b c row by_ (.slice UA us.length uc) us under)∧Aside0 (∀q:Nat,q < p_→((q:Int),f)∉row))
      case atStart=>exact⟨0,rfl,⟨by omega,by omega⟩,HT,HNP⟩
      case round=>
       clear HT HNP a0 a1 a2 a3 a4 a5 a6
       obtain⟨p_,rfl,Hp,HT,HNP⟩:=hrel
       try clear wl
       obtain⟨wl,rfl⟩:∃W:World,W=wr:=⟨_,rfl⟩
       obtain⟨a0,a1,a2,a3,a4,a5,a6⟩:=tk_cells HT.out.a
       by_cases hp:(p_:Int) < n
       ·have q1 := decide_eq_true hp
        have q0:=eq_true hp
        have HPN:Aside0 (inN n (p_:Int)):=⟨⟨by omega,hp⟩⟩
        have HPL:Aside0 (p_ < n.toNat):=⟨by omega⟩
        clear hp
        have k0:wl.cell? ⟨gn,0,none⟩=some (BV n2 b c):=(blk_cell HT.out.t 0).trans rfl
        obtain⟨Mn,hrn,hmn⟩:=HT.out.r
        have cf:=(HT.out.bw.cell (World.block_lt_of_cell? w _ HCF.out)).trans HCF.out
        obtain⟨zrx,hzrx⟩:∃t:Int,t=(p_:Int)*n:=⟨_,rfl⟩
        have HHzrx:=Aside0.mk hzrx
        have ezr1:wrap64 ((p_:Int)*n)=zrx:=by rw [hzrx];exact(ix_wrap HN.out.2 HPN.out HFI.out).1
        clear hzrx
        obtain⟨zr,hzr⟩:∃t:Int,t=zrx+f:=⟨_,rfl⟩
        have Hzr:Aside0 (zr=(p_:Int)*n+f∧0≤zr∧zr < (n2:Int)):=⟨by have h1:=ix_in HN.out.2 HPN.out HFI.out;have h2:=HN2.out.1;rw [hzr,HHzrx.out];exact⟨rfl,by omega,by omega⟩⟩
        have ezr2:wrap64 (zrx+f)=zr:=by rw [hzr,HHzrx.out];exact(ix_wrap HN.out.2 HPN.out HFI.out).2
        have pzr:=eq_true Hzr.out.2.1
        have rzr:=eq_true Hzr.out.2.2
        clear hzr
        obtain⟨y1_,y2_⟩:=Kd.R_celln false hrn zr Hzr.out.2.1 Hzr.out.2.2
        have hiff:=hmn.m _ _ HPN.out HFI.out
        rw [←Hzr.out.1] at hiff
        clear y2_ hmn hrn
        by_cases hx:((p_:Int),f)∈row
        ·rw [hiff.2 hx] at y1_
         have HRV4:Aside0 (rv=true):=⟨by rw [HRV3.out,List.any_eq_true];exact⟨_,hx,by rw [List.contains_iff_mem];exact HFM.out⟩⟩
         clear hx hiff HRV3
         go_wp2
         go_quiet (fail)
         go_wp2
         go_ret
         exact⟨by rw [HRV4.out];rfl,HT.out.bw.trans (pw_below_drewN (Below.refl _ _) nq)⟩
        ·have HXR := Aside0.mk hx
         have hf:rdOf false Mn zr=false:=by
          cases h:rdOf false Mn zr with
          | false=>rfl
          | true=>exact absurd (hiff.1 h) hx
         rw [hf] at y1_
         clear hx hiff hf
         go_wp2
         go_quiet (fail)
         go_wp2
         go_roundg (n.toNat - (p_+1))
         case measure=>have:=Hp.out;have:=HPL.out;omega
         case rel=>exact⟨p_+1,by first|rfl|rw [show wrap64 ((p_:Int)+1)=((p_+1:Nat):Int) by have:=HPL.out;have:=HN.out;unfold wrap64;omega],⟨HPL.out,Nat.le_refl _⟩,⟨HT.out.below (pw_below_drewN (Below.refl _ _) nq)⟩,⟨fun q hq=>by
          rcases Nat.lt_succ_iff_lt_or_eq.1 hq with h|h
          ·exact HNP.out q h
          ·rw [h];exact HXR.out⟩⟩
       ·have q1 := decide_eq_false hp
        have q0:=eq_false hp
        have HPL:Aside0 (p_=n.toNat):=⟨by have:=Hp.out;omega⟩
        clear hp
        go_wp2
        go_roundg (l3.length - (j_+1))
        case measure=>have:=Hj.out;have:=HLJ.out;omega
        case rel=>exact⟨j_+1,by first|rfl|rw [show wrap64 ((j_:Int)+1)=((j_+1:Nat):Int) by have:=HLJ.out;have:=HI3.out.2.2;unfold wrap64;omega],⟨HLJ.out,Nat.le_refl _⟩,HT,⟨fun y hy q hq=>by
         rw [HNX.out] at hy
         rcases List.mem_append.1 hy with h|h
         ·exact HNO.out y h q hq
         ·rw [List.mem_singleton.1 h] at hq
          have h1:=(HT.out.i _ hq).1
          refine HNP.out q.toNat ?_ ?_
          ·rw [HPL.out];have h2:0≤q:=h1.1;have h3:q < n:=h1.2;omega
          ·rw [Int.toNat_of_nonneg h1.1];exact hq⟩⟩
     have e4:l3.take j_=l3:=List.take_of_length_le (by omega)
     rw [e4] at HNO
     have HRV4:Aside0 (rv=false):=⟨by
      rw [HRV3.out]
      cases h:row.any fun p=>l3.contains p.2 with
      | false=>rfl
      | true=>
       obtain⟨⟨q,f⟩,h1,h2⟩:=List.any_eq_true.1 h
       exact absurd h1 (HNO.out f (List.contains_iff_mem.1 h2) q)⟩
     have s3:=eq_false (show ¬(j_:Int) < (l3.length:Int) by omega)
     clear hlj e4 Hj HRV3
     go_wp2
     go_ret
     exact⟨by rw [HRV4.out];rfl,HT.out.bw⟩
end Go.Proofs.Ytjkhdldgmkkhjaa.P
