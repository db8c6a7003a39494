/- Words and walks of this claim: PCanopyref1Match. -/
import Derived.Test.YtjkhdldgmkkhjaaKP0Etc
set_option linter.unusedVariables false
set_option linter.unusedSimpArgs false
set_option linter.unnecessarySimpa false
namespace Go.Proofs.Ytjkhdldgmkkhjaa.P
open Go.RowKit Go.Proofs.YtjkhdldgmkkhjaaW.PrintWords Go.Proofs.YtjkhdldgmkkhjaaW.PrintLast Go.Proofs.YtjkhdldgmkkhjaaW.PrintMore
attribute [local go_sem] max2_int min2_int max_two min_two max_three min_three max_four min_four   -- for this text's walks alone
def canopyref1_Match.l0:Nat→List (S46)→List Int→List Int→List Int→Int→Option (List Int)
 | 0,_,_,_,_,_=>none
 | k+1,x0,x1,x5,x6,x7=>if x7 < (x1.length:Int) then (if 0≤x7 then (if x7 < (x5.length:Int) then ((some (x5.set (x7:Int).toNat (-1):List Int)).bind fun y722=>(if 0≤(rd x1 x7) then (if (rd x1 x7) < (x0.length:Int) then (if ((rd_T46 x0 (rd x1 x7)).f1)=1 then (if x6.length < 17592186044416 then (canopyref1_Match.l0 k x0 x1 y722 (x6 ++ [x7]) (wrap64 (x7+1))) else (none)) else (if ((rd_T46 x0 (rd x1 x7)).f1)=2 then (if (x6.length:Int) > 0 then (if 0≤(wrap64 ((x6.length:Int) - 1)) then (if (wrap64 ((x6.length:Int) - 1)) < (x6.length:Int) then (if (wrap64 ((x6.length:Int) - 1))≤(x6.length:Int) then (if 0≤(rd x6 (wrap64 ((x6.length:Int) - 1))) then (if (rd x6 (wrap64 ((x6.length:Int) - 1))) < (x5.length:Int) then (canopyref1_Match.l0 k x0 x1 ((y722.set (x7:Int).toNat (rd x6 (wrap64 ((x6.length:Int) - 1)))).set ((rd x6 (wrap64 ((x6.length:Int) - 1))):Int).toNat x7) (x6.take ((wrap64 ((x6.length:Int) - 1)):Int).toNat) (wrap64 (x7+1))) else (none)) else (none)) else (none)) else (none)) else (none)) else (canopyref1_Match.l0 k x0 x1 y722 x6 (wrap64 (x7+1)))) else (canopyref1_Match.l0 k x0 x1 y722 x6 (wrap64 (x7+1))))) else (none)) else (none))) else (none)) else (none)) else (some x5)
def canopyref1_Match.f (k:Nat) (l0:List (S46)) (l1:List Int):Option (List Int):=if 0≤(l1.length:Int) then (if ((l1.length:Int):Int).toNat≤35184372088832 then (canopyref1_Match.l0 k l0 l1 (List.replicate ((l1.length:Int):Int).toNat 0) ([]:List Int) 0) else (none)) else (none)
theorem canopyref1_Match.mono_l:∀k,(∀y0 y1 y2 y3 y4,LeO (canopyref1_Match.l0 k y0 y1 y2 y3 y4) (canopyref1_Match.l0 (k+1) y0 y1 y2 y3 y4))
 | 0=>fun _ _ _ _ _ r h=>by simp [canopyref1_Match.l0] at h
 | k+1=>by
  have ih0:=canopyref1_Match.mono_l k
  intro y0 y1 y2 y3 y4
  unfold canopyref1_Match.l0
  repeat' first
  | (with_reducible exact ih0 _ _ _ _ _)
  | (with_reducible exact LeO.refl _)
  | (with_reducible exact LeO.none _)
  | (with_reducible refine LeO.ite ?_ ?_)
  | (with_reducible refine LeO.bind ?_ (fun _=>?_))
  | exact ih0 _ _ _ _ _
  | exact LeO.none _
  | refine LeO.ite ?_ ?_
  | refine LeO.bind ?_ (fun _=>?_)
theorem canopyref1_Match.mono:∀a0 a1 k,LeO (canopyref1_Match.f k a0 a1) (canopyref1_Match.f (k+1) a0 a1):=by
 intro a0 a1 k
 have ih0:=canopyref1_Match.mono_l k
 unfold canopyref1_Match.f
 repeat' first
  | (with_reducible exact ih0 _ _ _ _ _)
  | (with_reducible exact LeO.refl _)
  | (with_reducible exact LeO.none _)
  | (with_reducible refine LeO.ite ?_ ?_)
  | (with_reducible refine LeO.bind ?_ (fun _=>?_))
  | exact ih0 _ _ _ _ _
  | exact LeO.none _
  | refine LeO.ite ?_ ?_
  | refine LeO.bind ?_ (fun _=>?_)
set_option maxHeartbeats 8000000 in
set_option maxRecDepth 100000 in
theorem canopyref1_Match.calls (k:Nat) (A0:Option Addr) (c0:Nat) (l0:List (S46)) (A1:Option Addr) (c1:Nat) (l1:List Int) (r:List Int) (w:World) (hr0:Kd.C k46 w A0 l0.length l0) (hc0:l0.length≤c0) (hr1:Kd.C (Kd.int .i64) w A1 l1.length l1) (hc1:l1.length≤c1) (h:canopyref1_Match.f k l0 l1=some r) :
 Calls Try.prog 45 #[.slice A0 l0.length c0,.slice A1 l1.length c1] w fun e w'=>∃v0_:Value,e=.returned (v0_)∧Kd.R (Kd.int .i64) 3 w' w.heap.size (fun _=>True) v0_ r∧Below w.heap.size w w':=by
 have HR0:=Aside0.mk hr0
 have HC0:=Aside0.mk hc0
 clear hr0 hc0
 have HR1:=Aside0.mk hr1
 have HC1:=Aside0.mk hc1
 clear hr1 hc1
 have HB:=Aside0.mk (Below.refl w.heap.size w)
 have H:(if 0≤(l1.length:Int) then (if ((l1.length:Int):Int).toNat≤35184372088832 then (canopyref1_Match.l0 k l0 l1 (List.replicate ((l1.length:Int):Int).toNat 0) ([]:List Int) 0) else (none)) else (none))=some r:=h
 clear h
 by_cases c3:0≤(l1.length:Int)
 ·rw [if_pos c3] at H
  have c3b0:=eq_true c3
  have c3b1:decide (0≤(l1.length:Int))=true:=decide_eq_true c3
  clear c3
  by_cases c4:((l1.length:Int):Int).toNat≤35184372088832
  ·rw [if_pos c4] at H
   have c4b0:=eq_true c4
   have c4b1:decide (((l1.length:Int):Int).toNat≤35184372088832)=true:=decide_eq_true c4
   clear c4
   obtain⟨y719,hy719⟩:∃y_:List Int,y_=(List.replicate ((l1.length:Int):Int).toNat 0):=⟨_,rfl⟩
   replace H:(canopyref1_Match.l0 k l0 l1 y719 ([]:List Int) 0)=some r:=by first|(rw [hy719];with_reducible exact H)|(have H2_:=(Option.bind_some _ _).symm.trans H;rw [hy719];with_reducible exact H2_)|(have H2_:=(Option.bind_some _ _).symm.trans H;with_reducible exact H2_)|with_reducible exact H|(rw [hy719];exact H)|exact H
   have Ny719:=Aside0.mk hy719
   clear hy719
   have H':=Aside0.mk H
   clear H
   go_enter Try.func45,Try.ntmps45
   go_wp2_with (first|((with_reducible refine gate_dst (N:=11) rfl ?_);refine Kd.R_make (Kd.int .i64) _ 3 rfl (N:=11) rfl 22 _ _ rfl (l1.length:Int) rfl rfl Try.underlying22 (.int .i64 0) 8 info3 rfl (by decide) (by omega) 0 (ok:=fun _=>True) (okp:=fun _=>True) rfl (fun _ hk=>hk) trivial (of_decide_eq_true (by first|(with_reducible assumption)|assumption)) (Nat.le_trans (Nat.mul_le_mul_right _ (of_decide_eq_true (by first|(with_reducible assumption)|assumption):(l1.length:Int).toNat≤35184372088832)) (by omega)) (Below.refl _ _) (Nat.le_refl _) ?_;intro v720 w5 ho6 hb hg_ hnew_;clear hg_ hnew_;(first|rw [←Ny719.out] at ho6|(simp only [Int.reduceToNat] at ho6;rw [←Ny719.out] at ho6));have n0_:=Aside0.mk (Kd.R_lower ho6 (below_size (by repeat (first|(with_reducible first|exact HB.out|apply below_alloc|apply pw_below_drewN|apply below_drew1)|exact HB.out))));have n1_:=Aside0.mk (below_step (by repeat (first|(with_reducible first|exact HB.out|apply below_alloc|apply pw_below_drewN|apply below_drew1)|exact HB.out)) hb);clear HB;have HO721:=n0_;have HB:=n1_;clear n0_ n1_;clear hb ho6))
   go_loopg [6,7] k (fun kq v6 v7 w'=>∃(x5_1:List Int) (x6_1:List Int) (x7_1:Int),v7=.int .i64 x7_1∧Aside0 (canopyref1_Match.l0 kq l0 l1 x5_1 x6_1 x7_1=some r)∧Aside0 (kq≤k)∧Aside0 (Kd.R (Kd.int .i64) 3 w' w.heap.size (fun k_=>some k_≠(v6:Value).ownBlock) v720 x5_1)∧Aside0 (Kd.R (Kd.int .i64) 3 w' w.heap.size (fun k_=>some k_≠(v720:Value).ownBlock) v6 x6_1)∧Aside0 (Below w.heap.size w w'))
   case atStart=>exact⟨(y719),(([]:List Int)),(0),(by first|rfl|(simp;done)|(simp [*];done)),H',⟨Nat.le_refl _⟩,⟨by(with_reducible repeat (first|apply Kd.R_alloc|apply Kd.R_drewN|apply Kd.R_drew));exact Kd.R_mono HO721.out (fun _ hk=>(by simp [Value.ownBlock]))⟩,⟨by first|exact Kd.R_nil _ _ _ _ _|exact Kd.N_nil _ _ _ _ _|exact Kd.V_nil _ _ _ _ _|exact Kd.Q_nil _ _ _ _ _|exact Kd.S_nil _ _ _ _ _⟩,⟨by repeat (first|(with_reducible first|exact HB.out|apply below_alloc|apply pw_below_drewN|apply below_drew1)|exact HB.out)⟩⟩
   case' round=>skip
   clear H'
   try clear c1
   try clear p2
   try clear c3
   try clear c3b0
   try clear c3b1
   try clear c4
   try clear c4b0
   try clear c4b1
   obtain⟨x5_1,x6_1,x7_1,rfl,HA,HK1,HO_5,HO_6,HB⟩:=hrel
   cases gk with
   | zero=>exact absurd HA.out (by simp [canopyref1_Match.l0])
   | succ k1=>
    have H:=HA.out
    clear HA
    simp only [canopyref1_Match.l0] at H
    by_cases c7:x7_1 < (l1.length:Int)
    ·rw [if_pos c7] at H
     have c7b0:decide (x7_1 < (l1.length:Int))=true:=decide_eq_true c7
     clear c7
     by_cases c8:0≤x7_1
     ·rw [if_pos c8] at H
      have c8b0:decide (0≤x7_1)=true:=decide_eq_true c8
      clear c8
      by_cases c9:x7_1 < (x5_1.length:Int)
      ·rw [if_pos c9] at H
       have c9b0:decide (x7_1 < (x5_1.length:Int))=true:=decide_eq_true c9
       clear c9
       obtain⟨y722,hy722⟩:∃y_:List Int,y_=(x5_1.set (x7_1:Int).toNat (-1)):=⟨_,rfl⟩
       replace H:(if 0≤(rd l1 x7_1) then (if (rd l1 x7_1) < (l0.length:Int) then (if ((rd_T46 l0 (rd l1 x7_1)).f1)=1 then (if x6_1.length < 17592186044416 then (canopyref1_Match.l0 k1 l0 l1 y722 (x6_1 ++ [x7_1]) (wrap64 (x7_1+1))) else (none)) else (if ((rd_T46 l0 (rd l1 x7_1)).f1)=2 then (if (x6_1.length:Int) > 0 then (if 0≤(wrap64 ((x6_1.length:Int) - 1)) then (if (wrap64 ((x6_1.length:Int) - 1)) < (x6_1.length:Int) then (if (wrap64 ((x6_1.length:Int) - 1))≤(x6_1.length:Int) then (if 0≤(rd x6_1 (wrap64 ((x6_1.length:Int) - 1))) then (if (rd x6_1 (wrap64 ((x6_1.length:Int) - 1))) < (x5_1.length:Int) then (canopyref1_Match.l0 k1 l0 l1 ((y722.set (x7_1:Int).toNat (rd x6_1 (wrap64 ((x6_1.length:Int) - 1)))).set ((rd x6_1 (wrap64 ((x6_1.length:Int) - 1))):Int).toNat x7_1) (x6_1.take ((wrap64 ((x6_1.length:Int) - 1)):Int).toNat) (wrap64 (x7_1+1))) else (none)) else (none)) else (none)) else (none)) else (none)) else (canopyref1_Match.l0 k1 l0 l1 y722 x6_1 (wrap64 (x7_1+1)))) else (canopyref1_Match.l0 k1 l0 l1 y722 x6_1 (wrap64 (x7_1+1))))) else (none)) else (none))=some r:=by first|(rw [hy722];with_reducible exact H)|(have H2_:=(Option.bind_some _ _).symm.trans H;rw [hy722];with_reducible exact H2_)|(have H2_:=(Option.bind_some _ _).symm.trans H;with_reducible exact H2_)|with_reducible exact H|(rw [hy722];exact H)|exact H
       have Ny722:=Aside0.mk hy722
       clear hy722
       by_cases c11:0≤(rd l1 x7_1)
       ·rw [if_pos c11] at H
        have c11b0:decide (0≤(rd l1 x7_1))=true:=decide_eq_true c11
        clear c11
        by_cases c12:(rd l1 x7_1) < (l0.length:Int)
        ·rw [if_pos c12] at H
         have c12b0:decide ((rd l1 x7_1) < (l0.length:Int))=true:=decide_eq_true c12
         clear c12
         by_cases c13:((rd_T46 l0 (rd l1 x7_1)).f1)=1
         ·rw [if_pos c13] at H
          have c13b0:(((rd_T46 l0 (rd l1 x7_1)).f1) == 1)=true:=beq_iff_eq.mpr c13
          have c13b1:(((rd_T46 l0 (rd l1 x7_1)).f1) != 1)=false:=bne_eq_false_iff_eq.mpr c13
          clear c13
          by_cases c14:x6_1.length < 17592186044416
          ·rw [if_pos c14] at H
           have LMc14:=Aside0.mk c14
           clear c14
           obtain⟨y725,hy725⟩:∃y_:List Int,y_=(x6_1 ++ [x7_1]):=⟨_,rfl⟩
           replace H:(canopyref1_Match.l0 k1 l0 l1 y722 y725 (wrap64 (x7_1+1)))=some r:=by first|(rw [hy725];with_reducible exact H)|(have H2_:=(Option.bind_some _ _).symm.trans H;rw [hy725];with_reducible exact H2_)|(have H2_:=(Option.bind_some _ _).symm.trans H;with_reducible exact H2_)|with_reducible exact H|(rw [hy725];exact H)|exact H
           have Ny725:=Aside0.mk hy725
           clear hy725
           have H':=Aside0.mk H
           clear H
           have p10:0≤(x7_1:Int):=of_decide_eq_true (by first|(with_reducible assumption)|assumption)
           have q10:(x7_1:Int) < ((x5_1.length:Int):Int):=of_decide_eq_true (by first|(with_reducible assumption)|assumption)
           obtain⟨go10,co10,eo10,gb10,gl10,cl10,HG10⟩:=Kd.R_form HO_5.out (by omega)
           (first|cases eo10|(injection eo10 with ea_ en_ ec_;(first|subst ea_|(injection ea_ with ea_;subst ea_));subst ec_;clear en_))
           have GB10:=Aside0.mk gb10
           have GG10:=Aside0.mk HG10
           clear gb10 gl10 HG10
           obtain⟨hx10_0,hf10_0⟩:=Kd.R_celln 0 HO_5.out (x7_1:Int) p10 q10
           replace p10:=eq_true p10
           replace q10:=eq_true q10
           have HP15:=Kd.R_putg HO_5.out (x7_1:Int) (-1)
           go_wp2_with (first|((with_reducible refine gate_store (t:=3) (p:=20) rfl ?_);refine store_event (t:=3) (p:=20) (v:=?vo_w16) (w1:=(wr.setCell ⟨go10,(x7_1:Int).toNat,none⟩ (.int .i64 (-1)))) ?hg ?ho ?hn ?hr ?_;(case ho=>rfl);(case hg=>rfl);(case hn=>rfl);(case hr=>first|(go_simp;done)|(go_simp;rfl));intro w16 hw;have hg:wr.grownBy w16 (some go10):=(by rw [hw];exact HP15.2);have hp_:Kd.R (Kd.int .i64) 3 w16 w.heap.size (fun k_=>some k_≠(u6:Value).ownBlock) (.slice (some ⟨go10,0,none⟩) x5_1.length co10) y722:=(by rw [hw,Ny722.out];exact HP15.1);clear HP15;have n0_:=Aside0.mk (hp_);have n1_:=Aside0.mk (Kd.R_after (v:=(.slice (some ⟨go10,0,none⟩) x5_1.length co10)) (v1:=(.slice (some ⟨go10,0,none⟩) x5_1.length co10)) (ok:=(fun _=>True)) (by(with_reducible repeat (first|apply Kd.R_alloc|apply Kd.R_drewN|apply Kd.R_drew));exact Kd.R_mono HO_6.out (fun _ hk=>⟨trivial,hk⟩)) hg (.inl rfl));have n2_:=Aside0.mk ((by rw [hw];exact below_set (HB.out) GB10.out:Below w.heap.size w w16));clear HO_5;clear HO_6;clear HB;have HO_5:=n0_;have HO_6:=n1_;have HB:=n2_;clear n0_ n1_ n2_;clear hg hw hp_;have p723:0≤(x7_1:Int):=of_decide_eq_true (by first|(with_reducible assumption)|assumption);have q723:x7_1 < (l1.length:Int):=of_decide_eq_true (by first|(with_reducible assumption)|assumption);obtain⟨ad723,e723,hx723_0⟩:=Kd.at_int HR1.out x7_1 p723 q723;cases e723;replace hx723_0:=(HB.out.cell (World.block_lt_of_cell? w _ hx723_0)).trans hx723_0;replace p723:=eq_true p723;replace q723:=eq_true q723;have p724:0≤((rd l1 x7_1):Int):=of_decide_eq_true (by first|(with_reducible assumption)|assumption);have q724:(rd l1 x7_1) < (l0.length:Int):=of_decide_eq_true (by first|(with_reducible assumption)|assumption);obtain⟨ad724,e724,hx724_0,hx724_1⟩:=at_T46 HR0.out (rd l1 x7_1) p724 q724;cases e724;replace hx724_0:=(HB.out.cell (World.block_lt_of_cell? w _ hx724_0)).trans hx724_0;replace hx724_1:=(HB.out.cell (World.block_lt_of_cell? w _ hx724_1)).trans hx724_1;replace p724:=eq_true p724;replace q724:=eq_true q724)|((with_reducible refine gate_builtin (b:=.append) (xs:=#[.tmp 31,.tmp 33]) rfl ?_);at_builtin;refine Kd.R_append (Kd.int .i64) (w0:=w) w.heap.size rfl (.tmp 31) (.tmp 33) 22 3 (.int .i64 0) 8 rfl Try.underlying22 info3 rfl (by decide) (by omega) u6 x6_1 x7_1 [.int .i64 x7_1] (fun k_=>some k_≠(.slice (some ⟨go10,0,none⟩) x5_1.length co10:Value).ownBlock) (fun _=>False) rfl rfl ?aP (fun _ hk=>hk.elim) ?aF ?aO ?aB ?aS ?aL ?_;(case aP=>exact rfl);(case aB=>exact(by repeat (first|(with_reducible first|exact HB.out|apply below_alloc|apply pw_below_drewN|apply below_drew1)|exact HB.out)));(case aF=>exact(fun k_ hk=>Kd.fresh' (Kd.R_lt (by(with_reducible repeat (first|apply Kd.R_alloc|apply Kd.R_drewN|apply Kd.R_drew));exact HO_5.out)) k_ hk));(case aO=>exact(by(with_reducible repeat (first|apply Kd.R_alloc|apply Kd.R_drewN|apply Kd.R_drew));exact Kd.R_mono HO_6.out (fun _ hk=>hk.2)));(case aS=>exact(below_size (by repeat (first|(with_reducible first|exact HB.out|apply below_alloc|apply pw_below_drewN|apply below_drew1)|exact HB.out))));(case aL=>have:=LMc14.out;omega);intro v726 w17 ho hb hg hat;rw [←Ny725.out] at ho;have n0_:=Aside0.mk (Kd.R_after (ok:=(fun _=>True)) (by(with_reducible repeat (first|apply Kd.R_alloc|apply Kd.R_drewN|apply Kd.R_drew));exact Kd.R_mono HO_5.out (fun _ hk=>⟨trivial,hk⟩)) hg hat);have n1_:=Aside0.mk (hb);have n2_:=Aside0.mk (ho);clear HO_5;clear HB;clear HO_6;have HO_5:=n0_;have HB:=n1_;have HO727:=n2_;clear n0_ n1_ n2_;clear ho hb hg hat))
           go_roundg k1
           case measure=>have:=HK1.out;omega
           case rel=>exact⟨(y722),(y725),(wrap64 (x7_1+1)),(by first|rfl|(simp;done)|(simp [*];done)),H',⟨by have:=HK1.out;omega⟩,⟨by(with_reducible repeat (first|apply Kd.R_alloc|apply Kd.R_drewN|apply Kd.R_drew));exact Kd.R_mono HO_5.out (fun _ hk=>hk.2)⟩,⟨by(with_reducible repeat (first|apply Kd.R_alloc|apply Kd.R_drewN|apply Kd.R_drew));exact HO727.out⟩,⟨by repeat (first|(with_reducible first|exact HB.out|apply below_alloc|apply pw_below_drewN|apply below_drew1)|exact HB.out)⟩⟩
          rw [if_neg c14] at H
          exact absurd H (by simp)
         rw [if_neg c13] at H
         have c13b0:(((rd_T46 l0 (rd l1 x7_1)).f1) == 1)=false:=beq_eq_false_iff_ne.mpr c13
         have c13b1:(((rd_T46 l0 (rd l1 x7_1)).f1) != 1)=true:=bne_iff_ne.mpr c13
         by_cases c18:((rd_T46 l0 (rd l1 x7_1)).f1)=2
         ·rw [if_pos c18] at H
          have c18b0:(((rd_T46 l0 (rd l1 x7_1)).f1) == 2)=true:=beq_iff_eq.mpr c18
          have c18b1:(((rd_T46 l0 (rd l1 x7_1)).f1) != 2)=false:=bne_eq_false_iff_eq.mpr c18
          clear c18
          by_cases c19:(x6_1.length:Int) > 0
          ·rw [if_pos c19] at H
           have c19b0:decide (0 < (x6_1.length:Int))=true:=decide_eq_true c19
           have c19b1:decide (0 < x6_1.length)=true:=decide_eq_true (by omega)
           clear c19
           obtain⟨ji20,hji20⟩:∃j_:Int,(wrap64 ((x6_1.length:Int) - 1))=j_:=⟨_,rfl⟩
           replace H:(if 0≤(ji20) then (if (ji20) < (x6_1.length:Int) then (if (ji20)≤(x6_1.length:Int) then (if 0≤(rd x6_1 (ji20)) then (if (rd x6_1 (ji20)) < (x5_1.length:Int) then (canopyref1_Match.l0 k1 l0 l1 ((y722.set (x7_1:Int).toNat (rd x6_1 (ji20))).set ((rd x6_1 (ji20)):Int).toNat x7_1) (x6_1.take ((ji20):Int).toNat) (wrap64 (x7_1+1))) else (none)) else (none)) else (none)) else (none)) else (none))=some r:=by first|(rw [hji20] at H;exact H)|(simp only [hji20] at H ⊢;exact H)
           have hji20w:(IntKind.i64.wrap ((x6_1.length:Int) - 1))=ji20:=(i64_w _).trans hji20
           by_cases c21:0≤(ji20)
           ·rw [if_pos c21] at H
            have c21b0:decide (0≤(ji20))=true:=decide_eq_true c21
            clear c21
            by_cases c22:(ji20) < (x6_1.length:Int)
            ·rw [if_pos c22] at H
             have c22b0:decide ((ji20) < (x6_1.length:Int))=true:=decide_eq_true c22
             clear c22
             by_cases c23:(ji20)≤(x6_1.length:Int)
             ·rw [if_pos c23] at H
              have c23b0:=eq_true c23
              have c23b1:decide ((ji20)≤(x6_1.length:Int))=true:=decide_eq_true c23
              clear c23
              obtain⟨y729,hy729⟩:∃y_:List Int,y_=(x6_1.take ((ji20):Int).toNat):=⟨_,rfl⟩
              replace H:(if 0≤(rd x6_1 (ji20)) then (if (rd x6_1 (ji20)) < (x5_1.length:Int) then (canopyref1_Match.l0 k1 l0 l1 ((y722.set (x7_1:Int).toNat (rd x6_1 (ji20))).set ((rd x6_1 (ji20)):Int).toNat x7_1) y729 (wrap64 (x7_1+1))) else (none)) else (none))=some r:=by first|(rw [hy729];with_reducible exact H)|(have H2_:=(Option.bind_some _ _).symm.trans H;rw [hy729];with_reducible exact H2_)|(have H2_:=(Option.bind_some _ _).symm.trans H;with_reducible exact H2_)|with_reducible exact H|(rw [hy729];exact H)|exact H
              have Ny729:=Aside0.mk hy729
              clear hy729
              obtain⟨y732,hy732⟩:∃y_:List Int,y_=(y722.set (x7_1:Int).toNat (rd x6_1 (ji20))):=⟨_,rfl⟩
              replace H:(if 0≤(rd x6_1 (ji20)) then (if (rd x6_1 (ji20)) < (x5_1.length:Int) then (canopyref1_Match.l0 k1 l0 l1 (y732.set ((rd x6_1 (ji20)):Int).toNat x7_1) y729 (wrap64 (x7_1+1))) else (none)) else (none))=some r:=by first|(rw [hy732];with_reducible exact H)|(have H2_:=(Option.bind_some _ _).symm.trans H;rw [hy732];with_reducible exact H2_)|(have H2_:=(Option.bind_some _ _).symm.trans H;with_reducible exact H2_)|with_reducible exact H|(rw [hy732];exact H)|exact H
              have Ny732:=Aside0.mk hy732
              clear hy732
              by_cases c25:0≤(rd x6_1 (ji20))
              ·rw [if_pos c25] at H
               have c25b0:decide (0≤(rd x6_1 (ji20)))=true:=decide_eq_true c25
               clear c25
               by_cases c26:(rd x6_1 (ji20)) < (x5_1.length:Int)
               ·rw [if_pos c26] at H
                have c26b0:decide ((rd x6_1 (ji20)) < (x5_1.length:Int))=true:=decide_eq_true c26
                clear c26
                obtain⟨y733,hy733⟩:∃y_:List Int,y_=(y732.set ((rd x6_1 (ji20)):Int).toNat x7_1):=⟨_,rfl⟩
                replace H:(canopyref1_Match.l0 k1 l0 l1 y733 y729 (wrap64 (x7_1+1)))=some r:=by first|(rw [hy733];with_reducible exact H)|(have H2_:=(Option.bind_some _ _).symm.trans H;rw [hy733];with_reducible exact H2_)|(have H2_:=(Option.bind_some _ _).symm.trans H;with_reducible exact H2_)|with_reducible exact H|(rw [hy733];exact H)|exact H
                have Ny733:=Aside0.mk hy733
                clear hy733
                have H':=Aside0.mk H
                clear H
                have p10:0≤(x7_1:Int):=of_decide_eq_true (by first|(with_reducible assumption)|assumption)
                have q10:(x7_1:Int) < ((x5_1.length:Int):Int):=of_decide_eq_true (by first|(with_reducible assumption)|assumption)
                obtain⟨go10,co10,eo10,gb10,gl10,cl10,HG10⟩:=Kd.R_form HO_5.out (by omega)
                (first|cases eo10|(injection eo10 with ea_ en_ ec_;(first|subst ea_|(injection ea_ with ea_;subst ea_));subst ec_;clear en_))
                have GB10:=Aside0.mk gb10
                have GG10:=Aside0.mk HG10
                clear gb10 gl10 HG10
                obtain⟨hx10_0,hf10_0⟩:=Kd.R_celln 0 HO_5.out (x7_1:Int) p10 q10
                replace p10:=eq_true p10
                replace q10:=eq_true q10
                have HP28:=Kd.R_putg HO_5.out (x7_1:Int) (-1)
                go_wp2_with (first|((with_reducible refine gate_store (t:=3) (p:=20) rfl ?_);refine store_event (t:=3) (p:=20) (v:=?vo_w29) (w1:=(wr.setCell ⟨go10,(x7_1:Int).toNat,none⟩ (.int .i64 (-1)))) ?hg ?ho ?hn ?hr ?_;(case ho=>rfl);(case hg=>rfl);(case hn=>rfl);(case hr=>first|(go_simp;done)|(go_simp;rfl));intro w29 hw;have hg:wr.grownBy w29 (some go10):=(by rw [hw];exact HP28.2);have hp_:Kd.R (Kd.int .i64) 3 w29 w.heap.size (fun k_=>some k_≠(u6:Value).ownBlock) (.slice (some ⟨go10,0,none⟩) x5_1.length co10) y722:=(by rw [hw,Ny722.out];exact HP28.1);clear HP28;have n0_:=Aside0.mk (hp_);have n1_:=Aside0.mk (Kd.R_after (v:=(.slice (some ⟨go10,0,none⟩) x5_1.length co10)) (v1:=(.slice (some ⟨go10,0,none⟩) x5_1.length co10)) (ok:=(fun _=>True)) (by(with_reducible repeat (first|apply Kd.R_alloc|apply Kd.R_drewN|apply Kd.R_drew));exact Kd.R_mono HO_6.out (fun _ hk=>⟨trivial,hk⟩)) hg (.inl rfl));have n2_:=Aside0.mk ((by rw [hw];exact below_set (HB.out) GB10.out:Below w.heap.size w w29));clear HO_5;clear HO_6;clear HB;have HO_5:=n0_;have HO_6:=n1_;have HB:=n2_;clear n0_ n1_ n2_;clear hg hw hp_;have p723:0≤(x7_1:Int):=of_decide_eq_true (by first|(with_reducible assumption)|assumption);have q723:x7_1 < (l1.length:Int):=of_decide_eq_true (by first|(with_reducible assumption)|assumption);obtain⟨ad723,e723,hx723_0⟩:=Kd.at_int HR1.out x7_1 p723 q723;cases e723;replace hx723_0:=(HB.out.cell (World.block_lt_of_cell? w _ hx723_0)).trans hx723_0;replace p723:=eq_true p723;replace q723:=eq_true q723;have p724:0≤((rd l1 x7_1):Int):=of_decide_eq_true (by first|(with_reducible assumption)|assumption);have q724:(rd l1 x7_1) < (l0.length:Int):=of_decide_eq_true (by first|(with_reducible assumption)|assumption);obtain⟨ad724,e724,hx724_0,hx724_1⟩:=at_T46 HR0.out (rd l1 x7_1) p724 q724;cases e724;replace hx724_0:=(HB.out.cell (World.block_lt_of_cell? w _ hx724_0)).trans hx724_0;replace hx724_1:=(HB.out.cell (World.block_lt_of_cell? w _ hx724_1)).trans hx724_1;replace p724:=eq_true p724;replace q724:=eq_true q724;obtain⟨Ao30,co30,eo30⟩:=Kd.R_slice HO_6.out;subst eo30;have p728:0≤((ji20):Int):=of_decide_eq_true (by first|(with_reducible assumption)|assumption);have q728:(ji20) < (x6_1.length:Int):=of_decide_eq_true (by first|(with_reducible assumption)|assumption);obtain⟨ad728,e728,hx728_0⟩:=Kd.at_int (Kd.R_reads' HO_6.out).2.2 (ji20) p728 q728;cases e728;replace p728:=eq_true p728;replace q728:=eq_true q728;have q31:((ji20):Int)≤((x6_1.length:Int):Int):=of_decide_eq_true (by first|(with_reducible assumption)|assumption);obtain⟨i031,hi031,_,hsz31,_⟩:=info_parts info3;have hcut31:=cut_to (P:=Try.prog) 22 3 .i64 Try.underlying22 hi031 (some ad728) x6_1.length co30 (ji20) (of_decide_eq_true (by first|(with_reducible assumption)|assumption)) q31 (Kd.R_reads' HO_6.out).2.1;have hr31:=Kd.R_take (m:=((ji20):Int).toNat) HO_6.out (by omega);have hy31:y729.length=((ji20):Int).toNat:=(by rw [Ny729.out,List.length_take];omega);rw [←Ny729.out] at hr31;rw [←hy31] at hr31 hcut31;clear hy31 hi031 hsz31 HO_6;have HO731:=Aside0.mk hr31;clear hr31;replace q31:=eq_true q31;have p24:0≤(x7_1:Int):=of_decide_eq_true (by first|(with_reducible assumption)|assumption);have q24:(x7_1:Int) < ((x5_1.length:Int):Int):=of_decide_eq_true (by first|(with_reducible assumption)|assumption);obtain⟨hx24_0,hf24_0⟩:=Kd.R_celln 0 HO_5.out (x7_1:Int) p24 q24;replace p24:=eq_true p24;replace q24:=eq_true q24;obtain⟨hy32_,hz32_⟩:=Kd.R_celln 0 HO_5.out (x7_1:Int) (of_decide_eq_true (by first|(with_reducible assumption)|assumption)) (of_decide_eq_true (by first|(with_reducible assumption)|assumption));have HP32:=Kd.R_putg HO_5.out (x7_1:Int) (rd x6_1 (ji20)))|((with_reducible refine gate_store (t:=3) (p:=57) rfl ?_);refine store_event (t:=3) (p:=57) (v:=?vo_w33) (w1:=(w29.setCell ⟨go10,(x7_1:Int).toNat,none⟩ (.int .i64 (rd x6_1 (ji20))))) ?hg ?ho ?hn ?hr ?_;(case ho=>rfl);(case hg=>rfl);(case hn=>rfl);(case hr=>first|(go_simp;done)|(go_simp;rfl));intro w33 hw;have hg:w29.grownBy w33 (some go10):=(by rw [hw];exact HP32.2);have hp_:Kd.R (Kd.int .i64) 3 w33 w.heap.size (fun k_=>some k_≠(.slice (some ad728) y729.length co30:Value).ownBlock) (.slice (some ⟨go10,0,none⟩) x5_1.length co10) y732:=(by rw [hw,Ny732.out];exact HP32.1);clear HP32;have n0_:=Aside0.mk (hp_);have n1_:=Aside0.mk (Kd.R_after (v:=(.slice (some ⟨go10,0,none⟩) x5_1.length co10)) (v1:=(.slice (some ⟨go10,0,none⟩) x5_1.length co10)) (ok:=(fun _=>True)) (by(with_reducible repeat (first|apply Kd.R_alloc|apply Kd.R_drewN|apply Kd.R_drew));exact HO731.out) hg (.inl rfl));have n2_:=Aside0.mk ((by rw [hw];exact below_set (HB.out) GB10.out:Below w.heap.size w w33));clear HO_5;clear HO731;clear HB;have HO_5:=n0_;have HO731:=n1_;have HB:=n2_;clear n0_ n1_ n2_;clear hg hw hp_;have p27:0≤((rd x6_1 (ji20)):Int):=of_decide_eq_true (by first|(with_reducible assumption)|assumption);have q27:((rd x6_1 (ji20)):Int) < ((x5_1.length:Int):Int):=of_decide_eq_true (by first|(with_reducible assumption)|assumption);obtain⟨hx27_0,hf27_0⟩:=Kd.R_celln 0 HO_5.out ((rd x6_1 (ji20)):Int) p27 q27;replace p27:=eq_true p27;replace q27:=eq_true q27;obtain⟨hy34_,hz34_⟩:=Kd.R_celln 0 HO_5.out ((rd x6_1 (ji20)):Int) (of_decide_eq_true (by first|(with_reducible assumption)|assumption)) (of_decide_eq_true (by first|(with_reducible assumption)|assumption));have HP34:=Kd.R_putg HO_5.out ((rd x6_1 (ji20)):Int) x7_1)|((with_reducible refine gate_store (t:=3) (p:=58) rfl ?_);refine store_event (t:=3) (p:=58) (v:=?vo_w35) (w1:=(w33.setCell ⟨go10,((rd x6_1 (ji20)):Int).toNat,none⟩ (.int .i64 x7_1))) ?hg ?ho ?hn ?hr ?_;(case ho=>rfl);(case hg=>rfl);(case hn=>rfl);(case hr=>first|(go_simp;done)|(go_simp;rfl));intro w35 hw;have hg:w33.grownBy w35 (some go10):=(by rw [hw];exact HP34.2);have hp_:Kd.R (Kd.int .i64) 3 w35 w.heap.size (fun k_=>some k_≠(.slice (some ad728) y729.length co30:Value).ownBlock) (.slice (some ⟨go10,0,none⟩) x5_1.length co10) y733:=(by rw [hw,Ny733.out];exact HP34.1);clear HP34;have n0_:=Aside0.mk (hp_);have n1_:=Aside0.mk (Kd.R_after (v:=(.slice (some ⟨go10,0,none⟩) x5_1.length co10)) (v1:=(.slice (some ⟨go10,0,none⟩) x5_1.length co10)) (ok:=(fun _=>True)) (by(with_reducible repeat (first|apply Kd.R_alloc|apply Kd.R_drewN|apply Kd.R_drew));exact HO731.out) hg (.inl rfl));have n2_:=Aside0.mk ((by rw [hw];exact below_set (HB.out) GB10.out:Below w.heap.size w w35));clear HO_5;clear HO731;clear HB;have HO_5:=n0_;have HO731:=n1_;have HB:=n2_;clear n0_ n1_ n2_;clear hg hw hp_))
                go_roundg k1
                case measure=>have:=HK1.out;omega
                case rel=>exact⟨(y733),(y729),(wrap64 (x7_1+1)),(by first|rfl|(simp;done)|(simp [*];done)),H',⟨by have:=HK1.out;omega⟩,⟨by(with_reducible repeat (first|apply Kd.R_alloc|apply Kd.R_drewN|apply Kd.R_drew));exact HO_5.out⟩,⟨by(with_reducible repeat (first|apply Kd.R_alloc|apply Kd.R_drewN|apply Kd.R_drew));exact Kd.R_mono HO731.out (fun _ hk=>hk.2)⟩,⟨by repeat (first|(with_reducible first|exact HB.out|apply below_alloc|apply pw_below_drewN|apply below_drew1)|exact HB.out)⟩⟩
               rw [if_neg c26] at H
               exact absurd H (by simp)
              rw [if_neg c25] at H
              exact absurd H (by simp)
             rw [if_neg c23] at H
             exact absurd H (by simp)
            rw [if_neg c22] at H
            exact absurd H (by simp)
           rw [if_neg c21] at H
           exact absurd H (by simp)
          rw [if_neg c19] at H
          have c19b0:decide (0 < (x6_1.length:Int))=false:=decide_eq_false c19
          have c19b1:decide (0 < x6_1.length)=false:=decide_eq_false (by omega)
          clear c19
          have H':=Aside0.mk H
          clear H
          have p10:0≤(x7_1:Int):=of_decide_eq_true (by first|(with_reducible assumption)|assumption)
          have q10:(x7_1:Int) < ((x5_1.length:Int):Int):=of_decide_eq_true (by first|(with_reducible assumption)|assumption)
          obtain⟨go10,co10,eo10,gb10,gl10,cl10,HG10⟩:=Kd.R_form HO_5.out (by omega)
          (first|cases eo10|(injection eo10 with ea_ en_ ec_;(first|subst ea_|(injection ea_ with ea_;subst ea_));subst ec_;clear en_))
          have GB10:=Aside0.mk gb10
          have GG10:=Aside0.mk HG10
          clear gb10 gl10 HG10
          obtain⟨hx10_0,hf10_0⟩:=Kd.R_celln 0 HO_5.out (x7_1:Int) p10 q10
          replace p10:=eq_true p10
          replace q10:=eq_true q10
          have HP36:=Kd.R_putg HO_5.out (x7_1:Int) (-1)
          go_wp2_with (first|((with_reducible refine gate_store (t:=3) (p:=20) rfl ?_);refine store_event (t:=3) (p:=20) (v:=?vo_w37) (w1:=(wr.setCell ⟨go10,(x7_1:Int).toNat,none⟩ (.int .i64 (-1)))) ?hg ?ho ?hn ?hr ?_;(case ho=>rfl);(case hg=>rfl);(case hn=>rfl);(case hr=>first|(go_simp;done)|(go_simp;rfl));intro w37 hw;have hg:wr.grownBy w37 (some go10):=(by rw [hw];exact HP36.2);have hp_:Kd.R (Kd.int .i64) 3 w37 w.heap.size (fun k_=>some k_≠(u6:Value).ownBlock) (.slice (some ⟨go10,0,none⟩) x5_1.length co10) y722:=(by rw [hw,Ny722.out];exact HP36.1);clear HP36;have n0_:=Aside0.mk (hp_);have n1_:=Aside0.mk (Kd.R_after (v:=(.slice (some ⟨go10,0,none⟩) x5_1.length co10)) (v1:=(.slice (some ⟨go10,0,none⟩) x5_1.length co10)) (ok:=(fun _=>True)) (by(with_reducible repeat (first|apply Kd.R_alloc|apply Kd.R_drewN|apply Kd.R_drew));exact Kd.R_mono HO_6.out (fun _ hk=>⟨trivial,hk⟩)) hg (.inl rfl));have n2_:=Aside0.mk ((by rw [hw];exact below_set (HB.out) GB10.out:Below w.heap.size w w37));clear HO_5;clear HO_6;clear HB;have HO_5:=n0_;have HO_6:=n1_;have HB:=n2_;clear n0_ n1_ n2_;clear hg hw hp_;have p723:0≤(x7_1:Int):=of_decide_eq_true (by first|(with_reducible assumption)|assumption);have q723:x7_1 < (l1.length:Int):=of_decide_eq_true (by first|(with_reducible assumption)|assumption);obtain⟨ad723,e723,hx723_0⟩:=Kd.at_int HR1.out x7_1 p723 q723;cases e723;replace hx723_0:=(HB.out.cell (World.block_lt_of_cell? w _ hx723_0)).trans hx723_0;replace p723:=eq_true p723;replace q723:=eq_true q723;have p724:0≤((rd l1 x7_1):Int):=of_decide_eq_true (by first|(with_reducible assumption)|assumption);have q724:(rd l1 x7_1) < (l0.length:Int):=of_decide_eq_true (by first|(with_reducible assumption)|assumption);obtain⟨ad724,e724,hx724_0,hx724_1⟩:=at_T46 HR0.out (rd l1 x7_1) p724 q724;cases e724;replace hx724_0:=(HB.out.cell (World.block_lt_of_cell? w _ hx724_0)).trans hx724_0;replace hx724_1:=(HB.out.cell (World.block_lt_of_cell? w _ hx724_1)).trans hx724_1;replace p724:=eq_true p724;replace q724:=eq_true q724;obtain⟨Ao38,co38,eo38⟩:=Kd.R_slice HO_6.out;subst eo38))
          go_roundg k1
          case measure=>have:=HK1.out;omega
          case rel=>exact⟨(y722),(x6_1),(wrap64 (x7_1+1)),(by first|rfl|(simp;done)|(simp [*];done)),H',⟨by have:=HK1.out;omega⟩,⟨by(with_reducible repeat (first|apply Kd.R_alloc|apply Kd.R_drewN|apply Kd.R_drew));exact HO_5.out⟩,⟨by(with_reducible repeat (first|apply Kd.R_alloc|apply Kd.R_drewN|apply Kd.R_drew));exact Kd.R_mono HO_6.out (fun _ hk=>hk.2)⟩,⟨by repeat (first|(with_reducible first|exact HB.out|apply below_alloc|apply pw_below_drewN|apply below_drew1)|exact HB.out)⟩⟩
         rw [if_neg c18] at H
         have c18b0:(((rd_T46 l0 (rd l1 x7_1)).f1) == 2)=false:=beq_eq_false_iff_ne.mpr c18
         have c18b1:(((rd_T46 l0 (rd l1 x7_1)).f1) != 2)=true:=bne_iff_ne.mpr c18
         have H':=Aside0.mk H
         clear H
         have p10:0≤(x7_1:Int):=of_decide_eq_true (by first|(with_reducible assumption)|assumption)
         have q10:(x7_1:Int) < ((x5_1.length:Int):Int):=of_decide_eq_true (by first|(with_reducible assumption)|assumption)
         obtain⟨go10,co10,eo10,gb10,gl10,cl10,HG10⟩:=Kd.R_form HO_5.out (by omega)
         (first|cases eo10|(injection eo10 with ea_ en_ ec_;(first|subst ea_|(injection ea_ with ea_;subst ea_));subst ec_;clear en_))
         have GB10:=Aside0.mk gb10
         have GG10:=Aside0.mk HG10
         clear gb10 gl10 HG10
         obtain⟨hx10_0,hf10_0⟩:=Kd.R_celln 0 HO_5.out (x7_1:Int) p10 q10
         replace p10:=eq_true p10
         replace q10:=eq_true q10
         have HP39:=Kd.R_putg HO_5.out (x7_1:Int) (-1)
         go_wp2_with (first|((with_reducible refine gate_store (t:=3) (p:=20) rfl ?_);refine store_event (t:=3) (p:=20) (v:=?vo_w40) (w1:=(wr.setCell ⟨go10,(x7_1:Int).toNat,none⟩ (.int .i64 (-1)))) ?hg ?ho ?hn ?hr ?_;(case ho=>rfl);(case hg=>rfl);(case hn=>rfl);(case hr=>first|(go_simp;done)|(go_simp;rfl));intro w40 hw;have hg:wr.grownBy w40 (some go10):=(by rw [hw];exact HP39.2);have hp_:Kd.R (Kd.int .i64) 3 w40 w.heap.size (fun k_=>some k_≠(u6:Value).ownBlock) (.slice (some ⟨go10,0,none⟩) x5_1.length co10) y722:=(by rw [hw,Ny722.out];exact HP39.1);clear HP39;have n0_:=Aside0.mk (hp_);have n1_:=Aside0.mk (Kd.R_after (v:=(.slice (some ⟨go10,0,none⟩) x5_1.length co10)) (v1:=(.slice (some ⟨go10,0,none⟩) x5_1.length co10)) (ok:=(fun _=>True)) (by(with_reducible repeat (first|apply Kd.R_alloc|apply Kd.R_drewN|apply Kd.R_drew));exact Kd.R_mono HO_6.out (fun _ hk=>⟨trivial,hk⟩)) hg (.inl rfl));have n2_:=Aside0.mk ((by rw [hw];exact below_set (HB.out) GB10.out:Below w.heap.size w w40));clear HO_5;clear HO_6;clear HB;have HO_5:=n0_;have HO_6:=n1_;have HB:=n2_;clear n0_ n1_ n2_;clear hg hw hp_;have p723:0≤(x7_1:Int):=of_decide_eq_true (by first|(with_reducible assumption)|assumption);have q723:x7_1 < (l1.length:Int):=of_decide_eq_true (by first|(with_reducible assumption)|assumption);obtain⟨ad723,e723,hx723_0⟩:=Kd.at_int HR1.out x7_1 p723 q723;cases e723;replace hx723_0:=(HB.out.cell (World.block_lt_of_cell? w _ hx723_0)).trans hx723_0;replace p723:=eq_true p723;replace q723:=eq_true q723;have p724:0≤((rd l1 x7_1):Int):=of_decide_eq_true (by first|(with_reducible assumption)|assumption);have q724:(rd l1 x7_1) < (l0.length:Int):=of_decide_eq_true (by first|(with_reducible assumption)|assumption);obtain⟨ad724,e724,hx724_0,hx724_1⟩:=at_T46 HR0.out (rd l1 x7_1) p724 q724;cases e724;replace hx724_0:=(HB.out.cell (World.block_lt_of_cell? w _ hx724_0)).trans hx724_0;replace hx724_1:=(HB.out.cell (World.block_lt_of_cell? w _ hx724_1)).trans hx724_1;replace p724:=eq_true p724;replace q724:=eq_true q724))
         go_roundg k1
         case measure=>have:=HK1.out;omega
         case rel=>exact⟨(y722),(x6_1),(wrap64 (x7_1+1)),(by first|rfl|(simp;done)|(simp [*];done)),H',⟨by have:=HK1.out;omega⟩,⟨by(with_reducible repeat (first|apply Kd.R_alloc|apply Kd.R_drewN|apply Kd.R_drew));exact HO_5.out⟩,⟨by(with_reducible repeat (first|apply Kd.R_alloc|apply Kd.R_drewN|apply Kd.R_drew));exact Kd.R_mono HO_6.out (fun _ hk=>hk.2)⟩,⟨by repeat (first|(with_reducible first|exact HB.out|apply below_alloc|apply pw_below_drewN|apply below_drew1)|exact HB.out)⟩⟩
        rw [if_neg c12] at H
        exact absurd H (by simp)
       rw [if_neg c11] at H
       exact absurd H (by simp)
      rw [if_neg c9] at H
      exact absurd H (by simp)
     rw [if_neg c8] at H
     exact absurd H (by simp)
    rw [if_neg c7] at H
    have c7b0:decide (x7_1 < (l1.length:Int))=false:=decide_eq_false c7
    clear c7
    obtain rfl:=Option.some.inj H
    go_wp2
    go_ret
    exact⟨_,by first|rfl|(simp [errW_none,errW_some]<;>rfl)|(simp [*,errW_none,errW_some]<;>rfl),by(with_reducible repeat (first|apply Kd.R_alloc|apply Kd.R_drewN|apply Kd.R_drew));exact Kd.R_mono HO_5.out (fun _ hk=>trivial),by repeat (first|(with_reducible first|exact HB.out|apply below_alloc|apply pw_below_drewN|apply below_drew1)|exact HB.out)⟩
  rw [if_neg c4] at H
  exact absurd H (by simp)
 rw [if_neg c3] at H
 exact absurd H (by simp)
end Go.Proofs.Ytjkhdldgmkkhjaa.P
