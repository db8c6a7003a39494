/- Words and walks of this claim: SStep, SKnown. -/
import Derived.Test.YtjkhdldgmkkhjaaGSMeth
import Derived.Test.YtjkhdldgmkkhjaaGMFar
import Derived.Test.YtjkhdldgmkkhjaaGSTakes
import Derived.Test.YtjkhdldgmkkhjaaGPCanopylaw1Syms
set_option linter.unusedVariables false
set_option linter.unusedSimpArgs false
set_option linter.unnecessarySimpa false
section
namespace Go.Proofs.Ytjkhdldgmkkhjaa.P
open Go.RowKit Go.Sort Go.Shelf Go.Proofs.YtjkhdldgmkkhjaaW.PrintWords Go.Proofs.YtjkhdldgmkkhjaaW.PrintLast Go.Proofs.YtjkhdldgmkkhjaaW.PrintMore Go.Proofs.Ytjkhdldgmkkhjaa.M
theorem openL_len (l:List TOpen) (x:TAt) (s:Int):(openL l x s).length≤l.length:=by simp [openL];exact List.length_filter_le _ _
theorem closeL_len (l:List TClose) (x:TAt) (s:Int):(closeL l x s).length≤l.length:=by simp [closeL];exact List.length_filter_le _ _
theorem innerL_len (l:List TInner) (x:TAt) (s:Int):(innerL l x s).length≤l.length:=by simp [innerL];exact List.length_filter_le _ _
set_option maxHeartbeats 8000000 in
set_option maxRecDepth 100000 in
theorem runs_Step.calls (A0:Option Addr) (c0:Nat) (l0:List TSym) (a1_0 a1_1:Int) (A1_2:Option Addr) (c1_2:Nat) (l1_2:List Int) (A1_3:Option Addr) (c1_3:Nat) (l1_3:List Int) (A1_4:Option Addr) (c1_4:Nat) (l1_4:List TOpen) (A1_5:Option Addr) (c1_5:Nat) (l1_5:List TClose) (A1_6:Option Addr) (c1_6:Nat) (l1_6:List TInner) (A2:Option Addr) (c2:Nat) (l2:List TAt) (a3:Int) (r:List TAt) (w:World)
 (hr0:Kd.C k46 w A0 l0.length l0) (hc0:l0.length≤c0) (hr1_2:Kd.C (Kd.int .i64) w A1_2 l1_2.length l1_2) (hc1_2:l1_2.length≤c1_2) (hr1_3:Kd.C (Kd.int .i64) w A1_3 l1_3.length l1_3) (hc1_3:l1_3.length≤c1_3) (hr1_4:Kd.C k52 w A1_4 l1_4.length l1_4) (hc1_4:l1_4.length≤c1_4) (hr1_5:Kd.C k54 w A1_5 l1_5.length l1_5) (hc1_5:l1_5.length≤c1_5) (hr1_6:Kd.C k56 w A1_6 l1_6.length l1_6) (hc1_6:l1_6.length≤c1_6) (hr2:Kd.C k48 w A2 l2.length l2) (hc2:l2.length≤c2)
 (h:runs_Step.f l0 a1_0 a1_1 l1_2 l1_3 l1_4 l1_5 l1_6 l2 a3=some r) :
 Calls Try.prog 21 #[.slice A0 l0.length c0,.agg #[.int .i64 a1_0,.int .i64 a1_1,.slice A1_2 l1_2.length c1_2,.slice A1_3 l1_3.length c1_3,.slice A1_4 l1_4.length c1_4,.slice A1_5 l1_5.length c1_5,.slice A1_6 l1_6.length c1_6],.slice A2 l2.length c2,.int .i64 a3] w fun e w'=>∃v0_:Value,e=.returned v0_∧Kd.S k48 48 w' w.heap.size (fun _=>True) v0_ r∧Below w.heap.size w w':=by
 unfold runs_Step.f at h
 split at h
 case isFalse=>cases h
 rename_i hok
 cases h
 have HOK:=Aside0.mk hok
 have HR0:=Aside0.mk hr0
 have HR4:=Aside0.mk hr1_4
 have HR5:=Aside0.mk hr1_5
 have HR6:=Aside0.mk hr1_6
 have HR2:=Aside0.mk hr2
 clear hok hr0 hc0 hr1_2 hc1_2 hr1_3 hc1_3 hr1_4 hc1_4 hr1_5 hc1_5 hr1_6 hc1_6 hr2 hc2
 by_cases h1:a3 < 0
 ·have d1 : decide (a3 < 0) = true := decide_eq_true h1
  have hs:Aside0 (stepL l0 l1_4 l1_5 l1_6 l2 a3 = []):=⟨by unfold stepL;rw [if_neg (by omega)]⟩
  clear h1
  go_enter Try.func21,Try.ntmps21
  go_wp2
  go_ret
  exact⟨_,rfl,by rw [hs.out];exact Kd.S_nil _ _ _ _ _,below_alloc (Below.refl _ _) _⟩
 have d1 : decide (a3 < 0) = false := decide_eq_false h1
 by_cases h2:a3≥(l0.length:Int)
 ·have d2 : decide (a3 ≥ (l0.length : Int)) = true := decide_eq_true h2
  have hs:Aside0 (stepL l0 l1_4 l1_5 l1_6 l2 a3 = []):=⟨by unfold stepL;rw [if_neg (by omega)]⟩
  clear h1 h2
  go_enter Try.func21,Try.ntmps21
  go_wp2
  go_ret
  exact⟨_,rfl,by rw [hs.out];exact Kd.S_nil _ _ _ _ _,below_alloc (Below.refl _ _) _⟩
 have d2 : decide (a3 ≥ (l0.length : Int)) = false := decide_eq_false h2
 obtain⟨ad,e0,hk0,hk1⟩:=at_T46 HR0.out a3 (by omega) (by omega)
 cases e0
 have t1:=eq_true (show (0:Int)≤a3 by omega)
 have t2:=eq_true (show a3 < (l0.length:Int) by omega)
 have hs:Aside0 (stepL l0 l1_4 l1_5 l1_6 l2 a3=onceC cmpAt (l2.flatMap (moveL l1_4 l1_5 l1_6 (rd_T46 l0 a3).f1 a3))):=⟨by unfold stepL;rw [if_pos (by omega)]⟩
 have lt1:=World.block_lt_of_cell? w _ hk1
 clear h1 h2 hk0
 generalize (rd_T46 l0 a3).f1=kind at hk1 hs
 by_cases k1:kind=1
 ·subst k1
  replace hs:Aside0 (stepL l0 l1_4 l1_5 l1_6 l2 a3=onceC cmpAt (l2.flatMap fun x=>openL l1_4 x a3)):=⟨by rw [hs.out];rfl⟩
  go_enter Try.func21,Try.ntmps21
  go_wp2
  have HB0:Aside0 (Below w.heap.size w ((w.alloc (.cells #[.int .i64 a1_0,.int .i64 a1_1,.slice A1_2 l1_2.length c1_2,.slice A1_3 l1_3.length c1_3,.slice A1_4 l1_4.length c1_4,.slice A1_5 l1_5.length c1_5,.slice A1_6 l1_6.length c1_6] 30)).alloc (.cells #[.int .i64 a1_0,.int .i64 a1_1,.slice A1_2 l1_2.length c1_2,.slice A1_3 l1_3.length c1_3,.slice A1_4 l1_4.length c1_4,.slice A1_5 l1_5.length c1_5,.slice A1_6 l1_6.length c1_6,.int .i64 a3,.slice none 0 0] 70))):=⟨below_alloc (below_alloc (Below.refl _ _) _) _⟩
  have HS0:Aside0 (StepBlk ((w.alloc (.cells #[.int .i64 a1_0,.int .i64 a1_1,.slice A1_2 l1_2.length c1_2,.slice A1_3 l1_3.length c1_3,.slice A1_4 l1_4.length c1_4,.slice A1_5 l1_5.length c1_5,.slice A1_6 l1_6.length c1_6] 30)).alloc (.cells #[.int .i64 a1_0,.int .i64 a1_1,.slice A1_2 l1_2.length c1_2,.slice A1_3 l1_3.length c1_3,.slice A1_4 l1_4.length c1_4,.slice A1_5 l1_5.length c1_5,.slice A1_6 l1_6.length c1_6,.int .i64 a3,.slice none 0 0] 70)) (w.heap.size+1) (.int .i64 a1_0) (.int .i64 a1_1) (.slice A1_2 l1_2.length c1_2) (.slice A1_3 l1_3.length c1_3) (.slice A1_4 l1_4.length c1_4) (.slice A1_5 l1_5.length c1_5) (.slice A1_6 l1_6.length c1_6) a3 (.slice none 0 0)):=⟨blk_newAt _ (size_alloc _ _).symm⟩
  clear hk1 lt1 t1 t2 d1 d2
  go_loopg [42] l2.length (fun gq v42 w'=>∃(i:Nat) (v:Value) (es:List (TAt × Value)),v42=.int .i64 (i:Int)∧Aside0 (i≤l2.length∧l2.length - i≤gq)∧Aside0 (StepBlk w' (w.heap.size+1) (.int .i64 a1_0) (.int .i64 a1_1) (.slice A1_2 l1_2.length c1_2) (.slice A1_3 l1_3.length c1_3) (.slice A1_4 l1_4.length c1_4) (.slice A1_5 l1_5.length c1_5) (.slice A1_6 l1_6.length c1_6) a3 v)∧Aside0 (AtRow w' w.heap.size v es)∧Aside0 (v=.slice none 0 0∨es≠[])∧
   Aside0 (es.map (·.1)=(l2.take i).flatMap (fun x=>openL l1_4 x a3))∧Aside0 (Below w.heap.size w w')∧Aside0 (es.length≤i*l1_4.length))
  case atStart=>exact⟨0,.slice none 0 0,[],rfl,⟨by omega,by omega⟩,HS0,⟨⟨World.ownsRow_nil _ _ _ _,by simp,.nil⟩⟩,⟨.inl rfl⟩,⟨by simp⟩,HB0,⟨by simp⟩⟩
  case' round=>skip
  obtain⟨i,v,es,rfl,Hi,Hb,Hr,Hv,Hm,HBr,Hl⟩:=hrel
  by_cases hlt:i < l2.length
  ·have d5 : (i < l2.length) = True := eq_true hlt
   obtain⟨ad2,Ax,cx,e2,hx0,hx1,hx2,hx3⟩:=at_T48 HR2.out (i:Int) (by omega) (by omega)
   cases e2
   replace hx0:=(HBr.out.cell (World.block_lt_of_cell? w _ hx0)).trans hx0
   replace hx1:=(HBr.out.cell (World.block_lt_of_cell? w _ hx1)).trans hx1
   rw [Int.toNat_natCast] at hx0 hx1
   have t5:=eq_true (show (i:Int) < (l2.length:Int) by omega)
   have Hn:Aside0 (l2.take (i+1)=l2.take i ++ [rd_T48 l2 (i:Int)]):=⟨by
    have:=take_next z48 l2 (i:Int) (by omega) (by omega)
    rwa [show ((i:Int)+1).toNat=i+1 by omega,Int.toNat_natCast] at this⟩
   have Hxl:Aside0 ((rd_T48 l2 (i:Int)).f1.length≤10000000):=⟨HOK.out.2 _ (List.mem_of_mem_take (i:=i+1) (by rw [Hn.out];simp))⟩
   have HI:=Aside0.mk hlt
   have Hx2:=Aside0.mk hx2
   have Hx3:=Aside0.mk hx3
   generalize rd_T48 l2 (i:Int)=x at hx0 hx1 Hx2 Hx3 Hn Hxl
   have Hle:Aside0 (es.length+l1_4.length≤100000000):=⟨by
    have h1:=Hl.out
    have h2:=HOK.out.1
    have h3:(i+1)*l1_4.length≤(l2.length+1)*(l1_4.length+l1_5.length+l1_6.length+1):=Nat.mul_le_mul (by omega) (by omega)
    rw [Nat.add_mul,Nat.one_mul] at h3
    omega⟩
   clear hlt hx2 hx3
   go_wp2_with (go_at_call 36;go_loud (refine(open_calls w _ (w.heap.size+1) (.int .i64 a1_0) (.int .i64 a1_1) (.slice A1_2 l1_2.length c1_2) (.slice A1_3 l1_3.length c1_3) (.slice A1_5 l1_5.length c1_5) (.slice A1_6 l1_6.length c1_6) A1_4 c1_4 l1_4 a3 v es x Ax cx (below_alloc HBr.out _) (by omega) (blk_old Hb.out _) (Hr.out.below (below_alloc (Below.refl _ _) _)) Hv.out HR4.out Hx3.out Hx2.out ⟨by have:=Hle.out;omega,by have:=Hxl.out;omega⟩).mono ?_);rintro e w2 ⟨rfl,v2,es2,hb2,hr2,hv2,hm2,hB2⟩;have Hb2:=Aside0.mk hb2;have Hr2:=Aside0.mk hr2;have Hv2:=Aside0.mk hv2;have Hm2:=Aside0.mk hm2;have HB2:=Aside0.mk hB2;clear hb2 hr2 hv2 hm2 hB2)
   go_roundg (l2.length - (i+1))
   case measure=>have:=Hi.out;have:=HI.out;omega
   case' rel=>skip
   have h1:=HOK.out.1
   have h3:=HI.out
   have h4:l2.length+1≤(l2.length+1)*(l1_4.length+l1_5.length+l1_6.length+1):=Nat.le_mul_of_pos_right _ (by omega)
   refine⟨i+1,v2,es2,by rw [show wrap64 ((i:Int)+1)=((i+1:Nat):Int) by unfold wrap64;omega],⟨h3,Nat.le_refl _⟩,Hb2,Hr2,Hv2,⟨?_⟩,HB2,⟨?_⟩⟩
   ·rw [Hm2.out,Hm.out,Hn.out,List.flatMap_append];simp
   have h5 := congrArg List.length Hm2.out
   rw [List.length_append,List.length_map,List.length_map] at h5
   have h6:=openL_len l1_4 x a3
   have h7:=Hl.out
   rw [Nat.add_mul,Nat.one_mul]
   omega
  have d5 : (i < l2.length) = False := eq_false hlt
  have hi:i=l2.length:=by have:=Hi.out;omega
  subst hi
  clear hlt
  have k8:wr.cell? ⟨w.heap.size+1,8,none⟩=some v:=(blk_cell Hb.out 8).trans rfl
  have hm:=Hm.out
  rw [List.take_length] at hm
  have HM:=Aside0.mk hm
  have Hel:Aside0 (es.length≤1000000000):=⟨by
   have h1:=Hl.out
   have h2:=HOK.out.1
   have h3:l2.length*l1_4.length≤(l2.length+1)*(l1_4.length+l1_5.length+l1_6.length+1):=Nat.mul_le_mul (by omega) (by omega)
   omega⟩
  clear hm
  go_wp2_with (go_at_call 33;go_loud (refine(once_calls _ w.heap.size v es Hv.out Hel.out Hr.out).mono ?_;rintro e w2 ⟨v',es',rfl,hm,hme,hpl,hst,how,hgw⟩;have HM2:=Aside0.mk hm;have HP:=Aside0.mk hpl;have HST:=Aside0.mk hst;have HOW:=Aside0.mk how;have HG:=Aside0.mk hgw;clear hm hme hpl hst how hgw))
  go_ret
  have hb2:Below w.heap.size w w2:=below_gb HBr.out HG.out (fun k hk=>(Hr.out.1.lt k hk).1)
  refine⟨v',rfl,?_,hb2⟩
  have hp:=pack_S (base:=w.heap.size) (own_mono HOW.out HBr.out.size) HST.out HP.out
  rw [HM2.out,HM.out] at hp
  rw [hs.out]
  exact hp
 by_cases k2 : kind = 2
 ·subst k2
  replace hs:Aside0 (stepL l0 l1_4 l1_5 l1_6 l2 a3=onceC cmpAt (l2.flatMap fun x=>closeL l1_5 x a3)):=⟨by rw [hs.out];rfl⟩
  clear k1
  go_enter Try.func21,Try.ntmps21
  go_wp2
  have HB0:Aside0 (Below w.heap.size w ((w.alloc (.cells #[.int .i64 a1_0,.int .i64 a1_1,.slice A1_2 l1_2.length c1_2,.slice A1_3 l1_3.length c1_3,.slice A1_4 l1_4.length c1_4,.slice A1_5 l1_5.length c1_5,.slice A1_6 l1_6.length c1_6] 30)).alloc (.cells #[.int .i64 a1_0,.int .i64 a1_1,.slice A1_2 l1_2.length c1_2,.slice A1_3 l1_3.length c1_3,.slice A1_4 l1_4.length c1_4,.slice A1_5 l1_5.length c1_5,.slice A1_6 l1_6.length c1_6,.int .i64 a3,.slice none 0 0] 70))):=⟨below_alloc (below_alloc (Below.refl _ _) _) _⟩
  have HS0:Aside0 (StepBlk ((w.alloc (.cells #[.int .i64 a1_0,.int .i64 a1_1,.slice A1_2 l1_2.length c1_2,.slice A1_3 l1_3.length c1_3,.slice A1_4 l1_4.length c1_4,.slice A1_5 l1_5.length c1_5,.slice A1_6 l1_6.length c1_6] 30)).alloc (.cells #[.int .i64 a1_0,.int .i64 a1_1,.slice A1_2 l1_2.length c1_2,.slice A1_3 l1_3.length c1_3,.slice A1_4 l1_4.length c1_4,.slice A1_5 l1_5.length c1_5,.slice A1_6 l1_6.length c1_6,.int .i64 a3,.slice none 0 0] 70)) (w.heap.size+1) (.int .i64 a1_0) (.int .i64 a1_1) (.slice A1_2 l1_2.length c1_2) (.slice A1_3 l1_3.length c1_3) (.slice A1_4 l1_4.length c1_4) (.slice A1_5 l1_5.length c1_5) (.slice A1_6 l1_6.length c1_6) a3 (.slice none 0 0)):=⟨blk_newAt _ (size_alloc _ _).symm⟩
  clear hk1 lt1 t1 t2 d1 d2
  go_loopg [42] l2.length (fun gq v42 w'=>∃(i:Nat) (v:Value) (es:List (TAt × Value)),v42=.int .i64 (i:Int)∧Aside0 (i≤l2.length∧l2.length - i≤gq)∧Aside0 (StepBlk w' (w.heap.size+1) (.int .i64 a1_0) (.int .i64 a1_1) (.slice A1_2 l1_2.length c1_2) (.slice A1_3 l1_3.length c1_3) (.slice A1_4 l1_4.length c1_4) (.slice A1_5 l1_5.length c1_5) (.slice A1_6 l1_6.length c1_6) a3 v)∧Aside0 (AtRow w' w.heap.size v es)∧Aside0 (v=.slice none 0 0∨es≠[])∧
   Aside0 (es.map (·.1)=(l2.take i).flatMap (fun x=>closeL l1_5 x a3))∧Aside0 (Below w.heap.size w w')∧Aside0 (es.length≤i*l1_5.length))
  case atStart=>exact⟨0,.slice none 0 0,[],rfl,⟨by omega,by omega⟩,HS0,⟨⟨World.ownsRow_nil _ _ _ _,by simp,.nil⟩⟩,⟨.inl rfl⟩,⟨by simp⟩,HB0,⟨by simp⟩⟩
  case' round=>skip
  obtain⟨i,v,es,rfl,Hi,Hb,Hr,Hv,Hm,HBr,Hl⟩:=hrel
  by_cases hlt:i < l2.length
  ·have d5 : (i < l2.length) = True := eq_true hlt
   obtain⟨ad2,Ax,cx,e2,hx0,hx1,hx2,hx3⟩:=at_T48 HR2.out (i:Int) (by omega) (by omega)
   cases e2
   replace hx0:=(HBr.out.cell (World.block_lt_of_cell? w _ hx0)).trans hx0
   replace hx1:=(HBr.out.cell (World.block_lt_of_cell? w _ hx1)).trans hx1
   rw [Int.toNat_natCast] at hx0 hx1
   have t5:=eq_true (show (i:Int) < (l2.length:Int) by omega)
   have Hn:Aside0 (l2.take (i+1)=l2.take i ++ [rd_T48 l2 (i:Int)]):=⟨by
    have:=take_next z48 l2 (i:Int) (by omega) (by omega)
    rwa [show ((i:Int)+1).toNat=i+1 by omega,Int.toNat_natCast] at this⟩
   have Hxl:Aside0 ((rd_T48 l2 (i:Int)).f1.length≤10000000):=⟨HOK.out.2 _ (List.mem_of_mem_take (i:=i+1) (by rw [Hn.out];simp))⟩
   have HI:=Aside0.mk hlt
   have Hx2:=Aside0.mk hx2
   have Hx3:=Aside0.mk hx3
   generalize rd_T48 l2 (i:Int)=x at hx0 hx1 Hx2 Hx3 Hn Hxl
   have Hle:Aside0 (es.length+l1_5.length≤100000000):=⟨by
    have h1:=Hl.out
    have h2:=HOK.out.1
    have h3:(i+1)*l1_5.length≤(l2.length+1)*(l1_4.length+l1_5.length+l1_6.length+1):=Nat.mul_le_mul (by omega) (by omega)
    rw [Nat.add_mul,Nat.one_mul] at h3
    omega⟩
   clear hlt hx2 hx3
   go_wp2_with (go_at_call 37;go_loud (refine(close_calls w _ (w.heap.size+1) (.int .i64 a1_0) (.int .i64 a1_1) (.slice A1_2 l1_2.length c1_2) (.slice A1_3 l1_3.length c1_3) (.slice A1_4 l1_4.length c1_4) (.slice A1_6 l1_6.length c1_6) A1_5 c1_5 l1_5 a3 v es x Ax cx (below_alloc HBr.out _) (by omega) (blk_old Hb.out _) (Hr.out.below (below_alloc (Below.refl _ _) _)) Hv.out HR5.out Hx3.out Hx2.out ⟨by have:=Hle.out;omega,by have:=Hxl.out;omega⟩).mono ?_);rintro e w2 ⟨rfl,v2,es2,hb2,hr2,hv2,hm2,hB2⟩;have Hb2:=Aside0.mk hb2;have Hr2:=Aside0.mk hr2;have Hv2:=Aside0.mk hv2;have Hm2:=Aside0.mk hm2;have HB2:=Aside0.mk hB2;clear hb2 hr2 hv2 hm2 hB2)
   go_roundg (l2.length - (i+1))
   case measure=>have:=Hi.out;have:=HI.out;omega
   case' rel=>skip
   have h1:=HOK.out.1
   have h3:=HI.out
   have h4:l2.length+1≤(l2.length+1)*(l1_4.length+l1_5.length+l1_6.length+1):=Nat.le_mul_of_pos_right _ (by omega)
   refine⟨i+1,v2,es2,by rw [show wrap64 ((i:Int)+1)=((i+1:Nat):Int) by unfold wrap64;omega],⟨h3,Nat.le_refl _⟩,Hb2,Hr2,Hv2,⟨?_⟩,HB2,⟨?_⟩⟩
   ·rw [Hm2.out,Hm.out,Hn.out,List.flatMap_append];simp
   have h5 := congrArg List.length Hm2.out
   rw [List.length_append,List.length_map,List.length_map] at h5
   have h6:=closeL_len l1_5 x a3
   have h7:=Hl.out
   rw [Nat.add_mul,Nat.one_mul]
   omega
  have d5 : (i < l2.length) = False := eq_false hlt
  have hi:i=l2.length:=by have:=Hi.out;omega
  subst hi
  clear hlt
  have k8:wr.cell? ⟨w.heap.size+1,8,none⟩=some v:=(blk_cell Hb.out 8).trans rfl
  have hm:=Hm.out
  rw [List.take_length] at hm
  have HM:=Aside0.mk hm
  have Hel:Aside0 (es.length≤1000000000):=⟨by
   have h1:=Hl.out
   have h2:=HOK.out.1
   have h3:l2.length*l1_5.length≤(l2.length+1)*(l1_4.length+l1_5.length+l1_6.length+1):=Nat.mul_le_mul (by omega) (by omega)
   omega⟩
  clear hm
  go_wp2_with (go_at_call 33;go_loud (refine(once_calls _ w.heap.size v es Hv.out Hel.out Hr.out).mono ?_;rintro e w2 ⟨v',es',rfl,hm,hme,hpl,hst,how,hgw⟩;have HM2:=Aside0.mk hm;have HP:=Aside0.mk hpl;have HST:=Aside0.mk hst;have HOW:=Aside0.mk how;have HG:=Aside0.mk hgw;clear hm hme hpl hst how hgw))
  go_ret
  have hb2:Below w.heap.size w w2:=below_gb HBr.out HG.out (fun k hk=>(Hr.out.1.lt k hk).1)
  refine⟨v',rfl,?_,hb2⟩
  have hp:=pack_S (base:=w.heap.size) (own_mono HOW.out HBr.out.size) HST.out HP.out
  rw [HM2.out,HM.out] at hp
  rw [hs.out]
  exact hp
 have d3 : (kind == 1) = false := beq_eq_false_iff_ne.mpr k1
 have d4:(kind == 2)=false:=beq_eq_false_iff_ne.mpr k2
 replace hs:Aside0 (stepL l0 l1_4 l1_5 l1_6 l2 a3=onceC cmpAt (l2.flatMap fun x=>innerL l1_6 x a3)):=⟨by rw [hs.out];congr 1;congr 1;funext x;unfold moveL;rw [if_neg k1,if_neg k2]⟩
 clear k1 k2
 go_enter Try.func21,Try.ntmps21
 go_wp2
 have HB0:Aside0 (Below w.heap.size w ((w.alloc (.cells #[.int .i64 a1_0,.int .i64 a1_1,.slice A1_2 l1_2.length c1_2,.slice A1_3 l1_3.length c1_3,.slice A1_4 l1_4.length c1_4,.slice A1_5 l1_5.length c1_5,.slice A1_6 l1_6.length c1_6] 30)).alloc (.cells #[.int .i64 a1_0,.int .i64 a1_1,.slice A1_2 l1_2.length c1_2,.slice A1_3 l1_3.length c1_3,.slice A1_4 l1_4.length c1_4,.slice A1_5 l1_5.length c1_5,.slice A1_6 l1_6.length c1_6,.int .i64 a3,.slice none 0 0] 70))):=⟨below_alloc (below_alloc (Below.refl _ _) _) _⟩
 have HS0:Aside0 (StepBlk ((w.alloc (.cells #[.int .i64 a1_0,.int .i64 a1_1,.slice A1_2 l1_2.length c1_2,.slice A1_3 l1_3.length c1_3,.slice A1_4 l1_4.length c1_4,.slice A1_5 l1_5.length c1_5,.slice A1_6 l1_6.length c1_6] 30)).alloc (.cells #[.int .i64 a1_0,.int .i64 a1_1,.slice A1_2 l1_2.length c1_2,.slice A1_3 l1_3.length c1_3,.slice A1_4 l1_4.length c1_4,.slice A1_5 l1_5.length c1_5,.slice A1_6 l1_6.length c1_6,.int .i64 a3,.slice none 0 0] 70)) (w.heap.size+1) (.int .i64 a1_0) (.int .i64 a1_1) (.slice A1_2 l1_2.length c1_2) (.slice A1_3 l1_3.length c1_3) (.slice A1_4 l1_4.length c1_4) (.slice A1_5 l1_5.length c1_5) (.slice A1_6 l1_6.length c1_6) a3 (.slice none 0 0)):=⟨blk_newAt _ (size_alloc _ _).symm⟩
 clear hk1 lt1 t1 t2 d1 d2
 go_loopg [42] l2.length (fun gq v42 w'=>∃(i:Nat) (v:Value) (es:List (TAt × Value)),v42=.int .i64 (i:Int)∧Aside0 (i≤l2.length∧l2.length - i≤gq)∧Aside0 (StepBlk w' (w.heap.size+1) (.int .i64 a1_0) (.int .i64 a1_1) (.slice A1_2 l1_2.length c1_2) (.slice A1_3 l1_3.length c1_3) (.slice A1_4 l1_4.length c1_4) (.slice A1_5 l1_5.length c1_5) (.slice A1_6 l1_6.length c1_6) a3 v)∧Aside0 (AtRow w' w.heap.size v es)∧Aside0 (v=.slice none 0 0∨es≠[])∧
  Aside0 (es.map (·.1)=(l2.take i).flatMap (fun x=>innerL l1_6 x a3))∧Aside0 (Below w.heap.size w w')∧Aside0 (es.length≤i*l1_6.length))
 case atStart=>exact⟨0,.slice none 0 0,[],rfl,⟨by omega,by omega⟩,HS0,⟨⟨World.ownsRow_nil _ _ _ _,by simp,.nil⟩⟩,⟨.inl rfl⟩,⟨by simp⟩,HB0,⟨by simp⟩⟩
 case' round=>skip
 obtain⟨i,v,es,rfl,Hi,Hb,Hr,Hv,Hm,HBr,Hl⟩:=hrel
 by_cases hlt:i < l2.length
 ·have d5 : (i < l2.length) = True := eq_true hlt
  obtain⟨ad2,Ax,cx,e2,hx0,hx1,hx2,hx3⟩:=at_T48 HR2.out (i:Int) (by omega) (by omega)
  cases e2
  replace hx0:=(HBr.out.cell (World.block_lt_of_cell? w _ hx0)).trans hx0
  replace hx1:=(HBr.out.cell (World.block_lt_of_cell? w _ hx1)).trans hx1
  rw [Int.toNat_natCast] at hx0 hx1
  have t5:=eq_true (show (i:Int) < (l2.length:Int) by omega)
  have Hn:Aside0 (l2.take (i+1)=l2.take i ++ [rd_T48 l2 (i:Int)]):=⟨by
   have:=take_next z48 l2 (i:Int) (by omega) (by omega)
   rwa [show ((i:Int)+1).toNat=i+1 by omega,Int.toNat_natCast] at this⟩
  have Hxl:Aside0 ((rd_T48 l2 (i:Int)).f1.length≤10000000):=⟨HOK.out.2 _ (List.mem_of_mem_take (i:=i+1) (by rw [Hn.out];simp))⟩
  have HI:=Aside0.mk hlt
  have Hx2:=Aside0.mk hx2
  have Hx3:=Aside0.mk hx3
  generalize rd_T48 l2 (i:Int)=x at hx0 hx1 Hx2 Hx3 Hn Hxl
  have Hle:Aside0 (es.length+l1_6.length≤100000000):=⟨by
   have h1:=Hl.out
   have h2:=HOK.out.1
   have h3:(i+1)*l1_6.length≤(l2.length+1)*(l1_4.length+l1_5.length+l1_6.length+1):=Nat.mul_le_mul (by omega) (by omega)
   rw [Nat.add_mul,Nat.one_mul] at h3
   omega⟩
  clear hlt hx2 hx3
  go_wp2_with (go_at_call 35;go_loud (refine(inner_calls w _ (w.heap.size+1) (.int .i64 a1_0) (.int .i64 a1_1) (.slice A1_2 l1_2.length c1_2) (.slice A1_3 l1_3.length c1_3) (.slice A1_4 l1_4.length c1_4) (.slice A1_5 l1_5.length c1_5) A1_6 c1_6 l1_6 a3 v es x Ax cx (below_alloc HBr.out _) (by omega) (blk_old Hb.out _) (Hr.out.below (below_alloc (Below.refl _ _) _)) Hv.out HR6.out Hx3.out Hx2.out ⟨by have:=Hle.out;omega,by have:=Hxl.out;omega⟩).mono ?_);rintro e w2 ⟨rfl,v2,es2,hb2,hr2,hv2,hm2,hB2⟩;have Hb2:=Aside0.mk hb2;have Hr2:=Aside0.mk hr2;have Hv2:=Aside0.mk hv2;have Hm2:=Aside0.mk hm2;have HB2:=Aside0.mk hB2;clear hb2 hr2 hv2 hm2 hB2)
  go_roundg (l2.length - (i+1))
  case measure=>have:=Hi.out;have:=HI.out;omega
  case' rel=>skip
  have h1:=HOK.out.1
  have h3:=HI.out
  have h4:l2.length+1≤(l2.length+1)*(l1_4.length+l1_5.length+l1_6.length+1):=Nat.le_mul_of_pos_right _ (by omega)
  refine⟨i+1,v2,es2,by rw [show wrap64 ((i:Int)+1)=((i+1:Nat):Int) by unfold wrap64;omega],⟨h3,Nat.le_refl _⟩,Hb2,Hr2,Hv2,⟨?_⟩,HB2,⟨?_⟩⟩
  ·rw [Hm2.out,Hm.out,Hn.out,List.flatMap_append];simp
  have h5 := congrArg List.length Hm2.out
  rw [List.length_append,List.length_map,List.length_map] at h5
  have h6:=innerL_len l1_6 x a3
  have h7:=Hl.out
  rw [Nat.add_mul,Nat.one_mul]
  omega
 have d5 : (i < l2.length) = False := eq_false hlt
 have hi:i=l2.length:=by have:=Hi.out;omega
 subst hi
 clear hlt
 have k8:wr.cell? ⟨w.heap.size+1,8,none⟩=some v:=(blk_cell Hb.out 8).trans rfl
 have hm:=Hm.out
 rw [List.take_length] at hm
 have HM:=Aside0.mk hm
 have Hel:Aside0 (es.length≤1000000000):=⟨by
  have h1:=Hl.out
  have h2:=HOK.out.1
  have h3:l2.length*l1_6.length≤(l2.length+1)*(l1_4.length+l1_5.length+l1_6.length+1):=Nat.mul_le_mul (by omega) (by omega)
  omega⟩
 clear hm
 go_wp2_with (go_at_call 33;go_loud (refine(once_calls _ w.heap.size v es Hv.out Hel.out Hr.out).mono ?_;rintro e w2 ⟨v',es',rfl,hm,hme,hpl,hst,how,hgw⟩;have HM2:=Aside0.mk hm;have HP:=Aside0.mk hpl;have HST:=Aside0.mk hst;have HOW:=Aside0.mk how;have HG:=Aside0.mk hgw;clear hm hme hpl hst how hgw))
 go_ret
 have hb2:Below w.heap.size w w2:=below_gb HBr.out HG.out (fun k hk=>(Hr.out.1.lt k hk).1)
 refine⟨v',rfl,?_,hb2⟩
 have hp:=pack_S (base:=w.heap.size) (own_mono HOW.out HBr.out.size) HST.out HP.out
 rw [HM2.out,HM.out] at hp
 rw [hs.out]
 exact hp
end Go.Proofs.Ytjkhdldgmkkhjaa.P
end
section
namespace Go.Proofs.Ytjkhdldgmkkhjaa.P
open Go.RowKit Go.Sort Go.Shelf Go.Proofs.YtjkhdldgmkkhjaaW.PrintWords Go.Proofs.YtjkhdldgmkkhjaaW.PrintLast Go.Proofs.YtjkhdldgmkkhjaaW.PrintMore Go.Proofs.Ytjkhdldgmkkhjaa.M
theorem flat_at {α:Type} {enc:α→List Value} {sz:Nat} (hk:∀x,(enc x).length=sz):∀(l:List α) (j:Nat) (x:α) (i:Nat),l[j]? = some x→i < sz→(l.flatMap enc)[j*sz+i]? = (enc x)[i]?
 | [],j,x,i,h,_=>by simp at h
 | y :: l,0,x,i,h,hi=>by
  simp at h
  subst h
  rw [List.flatMap_cons,List.getElem?_append_left (by rw [hk];omega)]
  simp
 | y :: l,j+1,x,i,h,hi=>by
  rw [List.flatMap_cons,List.getElem?_append_right (by rw [hk,Nat.add_mul];omega),hk,show (j+1)*sz+i - sz=j*sz+i by rw [Nat.add_mul];omega]
  exact flat_at hk l j x i (by simpa using h) hi
theorem reads_laid {α:Type} {d:Kd α} (enc:α→List Value) {w:World} {g t:Nat} (xs:List α) (hK:∀w x,d.K w x (enc x)) (hl:xs.length≤9223372036854775807) (h:w.heap[g]? = some (.cells (xs.flatMap enc).toArray t (0,0))):Kd.C d w (some ⟨g,0,none⟩) xs.length xs:=by
 have hk:∀x,(enc x).length=d.sz:=fun x=>d.K_len (hK w x)
 refine⟨rfl,hl,fun _=>⟨⟨g,0,none⟩,rfl,fun j p hp=>⟨enc p,hk p,hK w p,fun i u hu=>?_⟩⟩⟩
 have hi:i < d.sz:=by rw [←hk p];exact(List.getElem?_eq_some_iff.1 hu).1
 rw [Addr.add_lit]
 have:=flat_at hk xs j p i hp hi
 rw [hu] at this
 rw [show 0+(j*d.sz+i)=j*d.sz+i by omega]
 exact(blk_cell h _).trans (by simpa using this)
def S7:List TSym:=[(⟨(⟨#[97]⟩:ByteArray),1⟩),(⟨(⟨#[97]⟩:ByteArray),2⟩),(⟨(⟨#[98]⟩:ByteArray),3⟩)]
def canopylaw4_known.f:Option Bool:=some true
theorem syms_none:canopylaw1_Syms.f 0 []=some S7:=by kernel_rfl
def kO:List TOpen:=[⟨0,0,0,1⟩]
def kC:List TClose:=[⟨0,1,1,1⟩]
theorem known_start:runs_Start.f 2 1 [0] [1] kO kC []=some [⟨0,[]⟩]:=by kernel_rfl
theorem known_step:runs_Step.f S7 2 1 [0] [1] kO kC [] [⟨0,[]⟩] 0=some [⟨0,[1]⟩]:=by kernel_rfl
theorem known_t1:runs_Takes.f S7 2 1 [0] [1] kO kC [] [0,1]=some true:=by kernel_rfl
theorem known_t2:runs_Takes.f S7 2 1 [0] [1] kO kC [] [0]=some false:=by kernel_rfl
theorem known_t3:runs_Takes.f S7 2 1 [0] [1] kO kC [] [1]=some false:=by kernel_rfl
theorem auto_cells {w:World} {g t:Nat} {a b c d e f h:Value} (H:w.heap[g]? = some (.cells #[a,b,c,d,e,f,h] t (0,0))):w.cell? ⟨g,0,none⟩=some a∧w.cell? ⟨g,1,none⟩=some b∧w.cell? ⟨g,2,none⟩=some c∧w.cell? ⟨g,3,none⟩=some d∧w.cell? ⟨g,4,none⟩=some e∧w.cell? ⟨g,5,none⟩=some f∧w.cell? ⟨g,6,none⟩=some h∧g < w.heap.size:=
 ⟨(blk_cell H 0).trans rfl,(blk_cell H 1).trans rfl,(blk_cell H 2).trans rfl,(blk_cell H 3).trans rfl,(blk_cell H 4).trans rfl,(blk_cell H 5).trans rfl,(blk_cell H 6).trans rfl,blk_lt H⟩
set_option maxHeartbeats 8000000 in
set_option maxRecDepth 100000 in
theorem canopylaw4_known.calls (r:Bool) (w:World) (h:canopylaw4_known.f=some r) :
 Calls Try.prog 12 #[] w fun e w'=>e=.returned (.bool r)∧Below w.heap.size w w':=by
 cases h
 go_enter Try.func12,Try.ntmps12
 go_wp2_with (go_at_call 13;go_loud (refine(canopylaw1_Syms.calls 0 none 0 [] S7 _ (by exact⟨rfl,by simp,fun h=>absurd h (by simp)⟩) (Nat.le_refl _) syms_none).mono ?_);rintro e w1 ⟨v1,rfl,hr1,hb1⟩;obtain⟨AS,cS,eS,lS,gS⟩:=Kd.R_reads hr1;replace eS:v1=.slice AS 3 cS:=eS;subst eS;have HS:=Aside0.mk gS;have LS:=Aside0.mk lS;have HB1:=Aside0.mk hb1;clear hr1 hb1 gS lS)
 have HB2:Aside0 (Below w.heap.size w (((((w1.alloc (.cells #[.int .i64 0] 3)).alloc (.cells #[.int .i64 1] 3)).alloc (.cells #[.int .i64 0,.int .i64 0,.int .i64 0,.int .i64 1] 52)).alloc (.cells #[.int .i64 0,.int .i64 1,.int .i64 1,.int .i64 1] 54)).alloc (.cells #[.int .i64 2,.int .i64 1,.slice (some ⟨w1.heap.size,0,none⟩) 1 1,.slice (some ⟨w1.heap.size+1,0,none⟩) 1 1,.slice (some ⟨w1.heap.size+1+1,0,none⟩) 1 1,.slice (some ⟨w1.heap.size+1+1+1,0,none⟩) 1 1,.slice none 0 0] 30)).drew):=⟨by repeat (first|exact HB1.out|apply below_drew|apply below_alloc)⟩
 have HSy:Aside0 (Kd.C k46 (((((w1.alloc (.cells #[.int .i64 0] 3)).alloc (.cells #[.int .i64 1] 3)).alloc (.cells #[.int .i64 0,.int .i64 0,.int .i64 0,.int .i64 1] 52)).alloc (.cells #[.int .i64 0,.int .i64 1,.int .i64 1,.int .i64 1] 54)).alloc (.cells #[.int .i64 2,.int .i64 1,.slice (some ⟨w1.heap.size,0,none⟩) 1 1,.slice (some ⟨w1.heap.size+1,0,none⟩) 1 1,.slice (some ⟨w1.heap.size+1+1,0,none⟩) 1 1,.slice (some ⟨w1.heap.size+1+1+1,0,none⟩) 1 1,.slice none 0 0] 30)).drew AS 3 S7):=⟨Kd.C_below HS.out (by repeat (first|exact Below.refl _ _|apply below_drew|apply below_alloc))⟩
 have HA2:Aside0 (Kd.C (Kd.int .i64) (((((w1.alloc (.cells #[.int .i64 0] 3)).alloc (.cells #[.int .i64 1] 3)).alloc (.cells #[.int .i64 0,.int .i64 0,.int .i64 0,.int .i64 1] 52)).alloc (.cells #[.int .i64 0,.int .i64 1,.int .i64 1,.int .i64 1] 54)).alloc (.cells #[.int .i64 2,.int .i64 1,.slice (some ⟨w1.heap.size,0,none⟩) 1 1,.slice (some ⟨w1.heap.size+1,0,none⟩) 1 1,.slice (some ⟨w1.heap.size+1+1,0,none⟩) 1 1,.slice (some ⟨w1.heap.size+1+1+1,0,none⟩) 1 1,.slice none 0 0] 30)).drew (some ⟨w1.heap.size,0,none⟩) 1 [0]):=⟨reads_laid (t:=3) (fun x=>[Value.int .i64 x]) [0] (fun _ _=>rfl) (by simp) (blk_old (blk_old (blk_old (blk_old (blk_newAt (w:=w1) (n:=w1.heap.size) _ rfl) _) _) _) _)⟩
 have HA3:Aside0 (Kd.C (Kd.int .i64) (((((w1.alloc (.cells #[.int .i64 0] 3)).alloc (.cells #[.int .i64 1] 3)).alloc (.cells #[.int .i64 0,.int .i64 0,.int .i64 0,.int .i64 1] 52)).alloc (.cells #[.int .i64 0,.int .i64 1,.int .i64 1,.int .i64 1] 54)).alloc (.cells #[.int .i64 2,.int .i64 1,.slice (some ⟨w1.heap.size,0,none⟩) 1 1,.slice (some ⟨w1.heap.size+1,0,none⟩) 1 1,.slice (some ⟨w1.heap.size+1+1,0,none⟩) 1 1,.slice (some ⟨w1.heap.size+1+1+1,0,none⟩) 1 1,.slice none 0 0] 30)).drew (some ⟨w1.heap.size+1,0,none⟩) 1 [1]):=⟨reads_laid (t:=3) (fun x=>[Value.int .i64 x]) [1] (fun _ _=>rfl) (by simp) (blk_old (blk_old (blk_old (blk_newAt _ (by simp only [size_alloc])) _) _) _)⟩
 have HA4:Aside0 (Kd.C k52 (((((w1.alloc (.cells #[.int .i64 0] 3)).alloc (.cells #[.int .i64 1] 3)).alloc (.cells #[.int .i64 0,.int .i64 0,.int .i64 0,.int .i64 1] 52)).alloc (.cells #[.int .i64 0,.int .i64 1,.int .i64 1,.int .i64 1] 54)).alloc (.cells #[.int .i64 2,.int .i64 1,.slice (some ⟨w1.heap.size,0,none⟩) 1 1,.slice (some ⟨w1.heap.size+1,0,none⟩) 1 1,.slice (some ⟨w1.heap.size+1+1,0,none⟩) 1 1,.slice (some ⟨w1.heap.size+1+1+1,0,none⟩) 1 1,.slice none 0 0] 30)).drew (some ⟨w1.heap.size+1+1,0,none⟩) 1 kO):=⟨reads_laid (t:=52) (fun x:TOpen=>[Value.int .i64 x.f0,.int .i64 x.f1,.int .i64 x.f2,.int .i64 x.f3]) kO (fun w x=>k52_mk w x) (by simp [kO]) (blk_old (blk_old (blk_newAt _ (by simp only [size_alloc])) _) _)⟩
 have HA5:Aside0 (Kd.C k54 (((((w1.alloc (.cells #[.int .i64 0] 3)).alloc (.cells #[.int .i64 1] 3)).alloc (.cells #[.int .i64 0,.int .i64 0,.int .i64 0,.int .i64 1] 52)).alloc (.cells #[.int .i64 0,.int .i64 1,.int .i64 1,.int .i64 1] 54)).alloc (.cells #[.int .i64 2,.int .i64 1,.slice (some ⟨w1.heap.size,0,none⟩) 1 1,.slice (some ⟨w1.heap.size+1,0,none⟩) 1 1,.slice (some ⟨w1.heap.size+1+1,0,none⟩) 1 1,.slice (some ⟨w1.heap.size+1+1+1,0,none⟩) 1 1,.slice none 0 0] 30)).drew (some ⟨w1.heap.size+1+1+1,0,none⟩) 1 kC):=⟨reads_laid (t:=54) (fun x:TClose=>[Value.int .i64 x.f0,.int .i64 x.f1,.int .i64 x.f2,.int .i64 x.f3]) kC (fun w x=>k54_mk w x) (by simp [kC]) (blk_old (blk_newAt _ (by simp only [size_alloc])) _)⟩
 have HAu:Aside0 ((((((w1.alloc (.cells #[.int .i64 0] 3)).alloc (.cells #[.int .i64 1] 3)).alloc (.cells #[.int .i64 0,.int .i64 0,.int .i64 0,.int .i64 1] 52)).alloc (.cells #[.int .i64 0,.int .i64 1,.int .i64 1,.int .i64 1] 54)).alloc (.cells #[.int .i64 2,.int .i64 1,.slice (some ⟨w1.heap.size,0,none⟩) 1 1,.slice (some ⟨w1.heap.size+1,0,none⟩) 1 1,.slice (some ⟨w1.heap.size+1+1,0,none⟩) 1 1,.slice (some ⟨w1.heap.size+1+1+1,0,none⟩) 1 1,.slice none 0 0] 30)).drew.heap[w1.heap.size+1+1+1+1]? = some (.cells #[.int .i64 2,.int .i64 1,.slice (some ⟨w1.heap.size,0,none⟩) 1 1,.slice (some ⟨w1.heap.size+1,0,none⟩) 1 1,.slice (some ⟨w1.heap.size+1+1,0,none⟩) 1 1,.slice (some ⟨w1.heap.size+1+1+1,0,none⟩) 1 1,.slice none 0 0] 30 (0,0))):=⟨blk_newAt _ (by simp only [size_alloc])⟩
 clear HB1 HS
 refine start_ (n:=6) (S:=fun w'=>w'.cell? ⟨w1.heap.size+1+1+1+1,0,none⟩=some (.int .i64 2)∧w'.cell? ⟨w1.heap.size+1+1+1+1,1,none⟩=some (.int .i64 1)∧w'.cell? ⟨w1.heap.size+1+1+1+1,2,none⟩=some (.slice (some ⟨w1.heap.size,0,none⟩) 1 1)∧w'.cell? ⟨w1.heap.size+1+1+1+1,3,none⟩=some (.slice (some ⟨w1.heap.size+1,0,none⟩) 1 1)∧w'.cell? ⟨w1.heap.size+1+1+1+1,4,none⟩=some (.slice (some ⟨w1.heap.size+1+1,0,none⟩) 1 1)∧w'.cell? ⟨w1.heap.size+1+1+1+1,5,none⟩=some (.slice (some ⟨w1.heap.size+1+1+1,0,none⟩) 1 1)∧w'.cell? ⟨w1.heap.size+1+1+1+1,6,none⟩=some (.slice none 0 0)) (ds:=[4]) #[false,false,false,false,false,false] (by kernel_rfl) rfl rfl ⟨(blk_cell HAu.out 0).trans rfl,(blk_cell HAu.out 1).trans rfl,(blk_cell HAu.out 2).trans rfl,(blk_cell HAu.out 3).trans rfl,(blk_cell HAu.out 4).trans rfl,(blk_cell HAu.out 5).trans rfl,(blk_cell HAu.out 6).trans rfl⟩ (fun hHeld=>?_)
 generalize (((((w1.alloc (.cells #[.int .i64 0] 3)).alloc (.cells #[.int .i64 1] 3)).alloc (.cells #[.int .i64 0,.int .i64 0,.int .i64 0,.int .i64 1] 52)).alloc (.cells #[.int .i64 0,.int .i64 1,.int .i64 1,.int .i64 1] 54)).alloc (.cells #[.int .i64 2,.int .i64 1,.slice (some ⟨w1.heap.size,0,none⟩) 1 1,.slice (some ⟨w1.heap.size+1,0,none⟩) 1 1,.slice (some ⟨w1.heap.size+1+1,0,none⟩) 1 1,.slice (some ⟨w1.heap.size+1+1+1,0,none⟩) 1 1,.slice none 0 0] 30)).drew=wb at HB2 HSy HA2 HA3 HA4 HA5 HAu hHeld ⊢
 refine pure_ (i:=0) (N:=(some 12)) (v:=?_) (a':=?_) #[true,false,false,false,false,false] rfl rfl (by kernel_rfl) (fun _ _ _ h=>h) (Or.inl ⟨by rfl,?_⟩) ?_ ?_
 rotate_left
 ·intro w'
  go_simp
  with_reducible rfl
 rotate_left
 ·simp only [Act.put, M.sq3, i64_w, i32_w]
  rfl
 refine take_ (i:=1) (N:=(some 13)) (v:=?_) (a':=?_) #[true,true,false,false,false,false] rfl rfl (by kernel_rfl) (fun _ _ _ h=>h) (Or.inl ⟨by rfl,?_⟩) hHeld ?_ ?_
 rotate_left
 ·intro w' hS_
  obtain⟨s0,s1,s2,s3,s4,s5,s6⟩:=hS_
  go_simp
  with_reducible rfl
 rotate_left
 ·simp only [Act.put, M.sq3, i64_w, i32_w]
  rfl
 refine take_ (i:=2) (N:=(some 14)) (v:=?_) (a':=?_) #[true,true,true,false,false,false] rfl rfl (by kernel_rfl) (fun _ _ _ h=>h) (Or.inl ⟨by rfl,?_⟩) hHeld ?_ ?_
 rotate_left
 ·intro w' hS_
  obtain⟨s0,s1,s2,s3,s4,s5,s6⟩:=hS_
  go_simp
  with_reducible rfl
 rotate_left
 ·simp only [Act.put, M.sq3, i64_w, i32_w]
  rfl
 refine one_ (i:=3) (N:=(some 15)) #[true,true,true,true,false,false] rfl rfl (by kernel_rfl) (by decide) (fun K hK=>?_)
 refine goes_ Try.func17 (by kernel_rfl) rfl #[.agg #[.int .i64 2,.int .i64 1,.slice (some ⟨w1.heap.size,0,none⟩) 1 1,.slice (some ⟨w1.heap.size+1,0,none⟩) 1 1,.slice (some ⟨w1.heap.size+1+1,0,none⟩) 1 1,.slice (some ⟨w1.heap.size+1+1+1,0,none⟩) 1 1,.slice none 0 0]] rfl rfl rfl (by(try simp only [List.map_toArray,List.map_cons,List.map_nil]);rfl) ?_
 refine(runs_Start.calls 2 1 (some ⟨w1.heap.size,0,none⟩) 1 [0] (some ⟨w1.heap.size+1,0,none⟩) 1 [1] (some ⟨w1.heap.size+1+1,0,none⟩) 1 kO (some ⟨w1.heap.size+1+1+1,0,none⟩) 1 kC none 0 [] [⟨0,[]⟩] wb HA2.out (by simp) HA3.out (by simp) HA4.out (by simp [kO]) HA5.out (by simp [kC]) ⟨rfl,by simp,fun h=>absurd h (by simp)⟩ (by simp) known_start).mono ?_
 rintro e wc ⟨v5,rfl,hs5,hb5⟩
 refine⟨_,rfl,?_⟩
 obtain⟨A5,c5,e5,l5,g5⟩:=Kd.S_reads hs5
 replace e5:v5=.slice A5 1 c5:=e5
 subst e5
 have HP:=Aside0.mk g5
 have LP:=Aside0.mk l5
 have HBc:=Aside0.mk hb5
 have HAc:=Aside0.mk ((hb5.block _ (blk_lt HAu.out)).trans HAu.out)
 clear hs5 hb5 g5 l5 hHeld
 refine hK.out _ _ ⟨(blk_cell HAc.out 0).trans rfl,(blk_cell HAc.out 1).trans rfl,(blk_cell HAc.out 2).trans rfl,(blk_cell HAc.out 3).trans rfl,(blk_cell HAc.out 4).trans rfl,(blk_cell HAc.out 5).trans rfl,(blk_cell HAc.out 6).trans rfl⟩ (fun hHeld=>?_)
 clear hK K
 refine norm_ (a':=?_) ?_ ?_
 rotate_left
 ·show Act.put _ (some 15) _ = _
  simp only [Act.put,M.sq3,i64_w,i32_w]
  rfl
 refine last_ (i:=4) (N:=(some 16)) #[true,true,true,true,true,false] rfl rfl (by kernel_rfl) (by decide) (fun K hK=>?_)
 refine goes_ Try.func21 (by kernel_rfl) rfl #[.slice AS 3 cS,.agg #[.int .i64 2,.int .i64 1,.slice (some ⟨w1.heap.size,0,none⟩) 1 1,.slice (some ⟨w1.heap.size+1,0,none⟩) 1 1,.slice (some ⟨w1.heap.size+1+1,0,none⟩) 1 1,.slice (some ⟨w1.heap.size+1+1+1,0,none⟩) 1 1,.slice none 0 0],.slice A5 1 c5,.int .i64 0] rfl rfl rfl (by(try simp only [List.map_toArray,List.map_cons,List.map_nil]);rfl) ?_
 refine(runs_Step.calls AS cS S7 2 1 (some ⟨w1.heap.size,0,none⟩) 1 [0] (some ⟨w1.heap.size+1,0,none⟩) 1 [1] (some ⟨w1.heap.size+1+1,0,none⟩) 1 kO (some ⟨w1.heap.size+1+1+1,0,none⟩) 1 kC none 0 [] A5 c5 [⟨0,[]⟩] 0 [⟨0,[1]⟩] wc (Kd.C_below HSy.out HBc.out) LS.out (Kd.C_below HA2.out HBc.out) (by simp) (Kd.C_below HA3.out HBc.out) (by simp) (Kd.C_below HA4.out HBc.out) (by simp [kO]) (Kd.C_below HA5.out HBc.out) (by simp [kC]) ⟨rfl,by simp,fun h=>absurd h (by simp)⟩ (by simp) HP.out LP.out known_step).mono ?_
 rintro e we ⟨v6,rfl,hs6,hb6⟩
 refine⟨_,rfl,?_⟩
 obtain⟨A6,c6,e6,l6,g6⟩:=Kd.S_reads hs6
 replace e6:v6=.slice A6 1 c6:=e6
 subst e6
 have HP6:=Aside0.mk g6
 have HBe:=Aside0.mk (thn HBc.out hb6)
 clear hs6 hb6 g6 l6 hHeld
 refine hK.out _ _ ?_
 clear hK K
 refine norm_ (a':=?_) ?_ ?_
 rotate_left
 ·show Act.put _ (some 16) _ = _
  simp only [Act.put,M.sq3,i64_w,i32_w]
  rfl
 refine pure_ (i:=5) (N:=(some 3)) (v:=?_) (a':=?_) #[true,true,true,true,true,true] rfl rfl (by kernel_rfl) (fun _ _ _ h=>h) (Or.inl ⟨by rfl,?_⟩) ?_ ?_
 rotate_left
 ·intro w'
  go_simp
  with_reducible rfl
 rotate_left
 ·simp only [Act.put, M.sq3, i64_w, i32_w]
  rfl
 refine done_ (by kernel_rfl) ?_
 obtain⟨ad6,A60,c60,e60,hq0,hq1,hq2,hq3⟩:=at_T48 HP6.out 0 (by omega) (by show (0:Int) < 1;omega)
 replace e60:A6=some ad6:=e60
 subst e60
 have ea:ad6.add ((0:Int).toNat*2)=ad6:=by obtain⟨b_,o_,s_⟩:=ad6;cases s_<;>simp [Addr.add]
 rw [ea] at hq1
 have hq4:we.cell? ⟨ad6.block,ad6.off+1,none⟩=some (.slice A60 1 c60):=hq1
 have HQ4:=Aside0.mk hq4
 have HBX:=HBe
 have tok1:Aside0 True:=⟨trivial⟩
 have tok2:Aside0 True:=⟨trivial⟩
 have tok3:Aside0 True:=⟨trivial⟩
 obtain⟨s0,s1,s2,s3,s4,s5,s6,sl⟩:=auto_cells ((HBX.out.block _ (blk_lt HAu.out)).trans HAu.out)
 clear hq0 hq1 hq2 hq3 hq4 ea HAc HBc HP LP
 go_wp2_with (first
  | (go_at_call 17;go_loud (refine(start_calls 0 0 none 0 [] (.slice none 0 0) (.slice none 0 0) (.slice none 0 0) (.slice none 0 0) rfl rfl rfl rfl _ ⟨rfl,by simp,fun h=>absurd h (by simp)⟩ (by simp)).mono ?_);rintro e ws ⟨v7,rfl,hs7,hb7⟩;obtain⟨A7,c7,e7,l7,g7⟩:=Kd.S_reads hs7;replace e7:v7=.slice A7 0 c7:=e7;subst e7;have hq5:=(hb7.cell (World.block_lt_of_cell? we _ HQ4.out)).trans HQ4.out;replace HBX:=Aside0.mk (thn HBX.out hb7);clear s0 s1 s2 s3 s4 s5 s6 sl hs7 hb7 l7 g7;obtain⟨s0,s1,s2,s3,s4,s5,s6,sl⟩:=auto_cells ((HBX.out.block _ (blk_lt HAu.out)).trans HAu.out))
  | (go_at_call 23;(first|(clear tok1;(refine(runs_Takes.calls AS cS S7 2 1 (some ⟨w1.heap.size,0,none⟩) 1 [0] (some ⟨w1.heap.size+1,0,none⟩) 1 [1] (some ⟨w1.heap.size+1+1,0,none⟩) 1 kO (some ⟨w1.heap.size+1+1+1,0,none⟩) 1 kC none 0 [] (some ⟨_,0,none⟩) 2 [0,1] true _ (Kd.C_below HSy.out (below_alloc HBX.out _)) LS.out (Kd.C_below HA2.out (below_alloc HBX.out _)) (by simp) (Kd.C_below HA3.out (below_alloc HBX.out _)) (by simp) (Kd.C_below HA4.out (below_alloc HBX.out _)) (by simp [kO]) (Kd.C_below HA5.out (below_alloc HBX.out _)) (by simp [kC]) ⟨rfl,by simp,fun h=>absurd h (by simp)⟩ (by simp) (reads_laid (t:=3) (fun x=>[Value.int .i64 x]) [0,1] (fun _ _=>rfl) (by simp) (blk_newAt _ rfl)) (by simp) known_t1).mono ?_))|(clear tok2;(refine(runs_Takes.calls AS cS S7 2 1 (some ⟨w1.heap.size,0,none⟩) 1 [0] (some ⟨w1.heap.size+1,0,none⟩) 1 [1] (some ⟨w1.heap.size+1+1,0,none⟩) 1 kO (some ⟨w1.heap.size+1+1+1,0,none⟩) 1 kC none 0 [] (some ⟨_,0,none⟩) 1 [0] false _ (Kd.C_below HSy.out (below_alloc HBX.out _)) LS.out (Kd.C_below HA2.out (below_alloc HBX.out _)) (by simp) (Kd.C_below HA3.out (below_alloc HBX.out _)) (by simp) (Kd.C_below HA4.out (below_alloc HBX.out _)) (by simp [kO]) (Kd.C_below HA5.out (below_alloc HBX.out _)) (by simp [kC]) ⟨rfl,by simp,fun h=>absurd h (by simp)⟩ (by simp) (reads_laid (t:=3) (fun x=>[Value.int .i64 x]) [0] (fun _ _=>rfl) (by simp) (blk_newAt _ rfl)) (by simp) known_t2).mono ?_))|(clear tok3;(refine(runs_Takes.calls AS cS S7 2 1 (some ⟨w1.heap.size,0,none⟩) 1 [0] (some ⟨w1.heap.size+1,0,none⟩) 1 [1] (some ⟨w1.heap.size+1+1,0,none⟩) 1 kO (some ⟨w1.heap.size+1+1+1,0,none⟩) 1 kC none 0 [] (some ⟨_,0,none⟩) 1 [1] false _ (Kd.C_below HSy.out (below_alloc HBX.out _)) LS.out (Kd.C_below HA2.out (below_alloc HBX.out _)) (by simp) (Kd.C_below HA3.out (below_alloc HBX.out _)) (by simp) (Kd.C_below HA4.out (below_alloc HBX.out _)) (by simp [kO]) (Kd.C_below HA5.out (below_alloc HBX.out _)) (by simp [kC]) ⟨rfl,by simp,fun h=>absurd h (by simp)⟩ (by simp) (reads_laid (t:=3) (fun x=>[Value.int .i64 x]) [1] (fun _ _=>rfl) (by simp) (blk_newAt _ rfl)) (by simp) known_t3).mono ?_)));rintro e ws ⟨rfl,hb7⟩;replace HBX:=Aside0.mk (thn (below_alloc HBX.out _) hb7);clear s0 s1 s2 s3 s4 s5 s6 sl hb7;obtain⟨s0,s1,s2,s3,s4,s5,s6,sl⟩:=auto_cells ((HBX.out.block _ (blk_lt HAu.out)).trans HAu.out)))
 go_ret
 exact⟨rfl,thn HB2.out HBX.out⟩
end Go.Proofs.Ytjkhdldgmkkhjaa.P
end
