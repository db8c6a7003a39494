/- Words and walks of this claim: PCanopyref1Whole. -/
import Derived.Test.YtjkhdldgmkkhjaaKP0Etc
import Derived.Test.YtjkhdldgmkkhjaaKPCanopyref1Match
set_option linter.unusedVariables false
set_option linter.unusedSimpArgs false
set_option linter.unnecessarySimpa false
namespace Go.Proofs.Ytjkhdldgmkkhjaa.P
open Go.RowKit Go.Proofs.YtjkhdldgmkkhjaaW.PrintWords Go.Proofs.YtjkhdldgmkkhjaaW.PrintLast Go.Proofs.YtjkhdldgmkkhjaaW.PrintMore
attribute [local go_sem] max2_int min2_int max_two min_two max_three min_three max_four min_four   -- for this text's walks alone
def canopyref1_Whole.l0:Nat→List (S46)→List Int→List Int→Int→Option (Bool)
 | 0,_,_,_,_=>none
 | k+1,x0,x1,x5,x6=>if x6 < (x1.length:Int) then (if 0≤x6 then (if x6 < (x5.length:Int) then (if (rd x5 x6) < 0 then (if 0≤(rd x1 x6) then (if (rd x1 x6) < (x0.length:Int) then (if ((rd_T46 x0 (rd x1 x6)).f1)=3 then (canopyref1_Whole.l0 k x0 x1 x5 (wrap64 (x6+1))) else (some false)) else (none)) else (none)) else (canopyref1_Whole.l0 k x0 x1 x5 (wrap64 (x6+1)))) else (none)) else (none)) else (some true)
def canopyref1_Whole.f (k:Nat) (l0:List (S46)) (l1:List Int):Option (Bool):=(canopyref1_Match.f k l0 l1).bind fun t734=>(canopyref1_Whole.l0 k l0 l1 t734 0)
theorem canopyref1_Whole.mono_l:∀k,(∀y0 y1 y2 y3,LeO (canopyref1_Whole.l0 k y0 y1 y2 y3) (canopyref1_Whole.l0 (k+1) y0 y1 y2 y3))
 | 0=>fun _ _ _ _ r h=>by simp [canopyref1_Whole.l0] at h
 | k+1=>by
  have ih0:=canopyref1_Whole.mono_l k
  intro y0 y1 y2 y3
  unfold canopyref1_Whole.l0
  repeat' first
  | (with_reducible exact ih0 _ _ _ _)
  | (with_reducible exact canopyref1_Match.mono _ _ _)
  | (with_reducible exact LeO.refl _)
  | (with_reducible exact LeO.none _)
  | (with_reducible refine LeO.ite ?_ ?_)
  | (with_reducible refine LeO.bind ?_ (fun _=>?_))
  | exact ih0 _ _ _ _
  | exact canopyref1_Match.mono _ _ _
  | exact LeO.none _
  | refine LeO.ite ?_ ?_
  | refine LeO.bind ?_ (fun _=>?_)
theorem canopyref1_Whole.mono:∀a0 a1 k,LeO (canopyref1_Whole.f k a0 a1) (canopyref1_Whole.f (k+1) a0 a1):=by
 intro a0 a1 k
 have ih0:=canopyref1_Whole.mono_l k
 unfold canopyref1_Whole.f
 repeat' first
  | (with_reducible exact ih0 _ _ _ _)
  | (with_reducible exact canopyref1_Match.mono _ _ _)
  | (with_reducible exact LeO.refl _)
  | (with_reducible exact LeO.none _)
  | (with_reducible refine LeO.ite ?_ ?_)
  | (with_reducible refine LeO.bind ?_ (fun _=>?_))
  | exact ih0 _ _ _ _
  | exact canopyref1_Match.mono _ _ _
  | exact LeO.none _
  | refine LeO.ite ?_ ?_
  | refine LeO.bind ?_ (fun _=>?_)
set_option maxHeartbeats 8000000 in
set_option maxRecDepth 100000 in
theorem canopyref1_Whole.calls (k:Nat) (A0:Option Addr) (c0:Nat) (l0:List (S46)) (A1:Option Addr) (c1:Nat) (l1:List Int) (r:Bool) (w:World) (hr0:Kd.C k46 w A0 l0.length l0) (hc0:l0.length≤c0) (hr1:Kd.C (Kd.int .i64) w A1 l1.length l1) (hc1:l1.length≤c1) (h:canopyref1_Whole.f k l0 l1=some r) :
 Calls Try.prog 28 #[.slice A0 l0.length c0,.slice A1 l1.length c1] w fun e w'=>e=.returned (.bool r)∧Below w.heap.size w w':=by
 have HR0:=Aside0.mk hr0
 have HC0:=Aside0.mk hc0
 clear hr0 hc0
 have HR1:=Aside0.mk hr1
 have HC1:=Aside0.mk hc1
 clear hr1 hc1
 have HB:=Aside0.mk (Below.refl w.heap.size w)
 have H:((canopyref1_Match.f k l0 l1).bind fun t734=>(canopyref1_Whole.l0 k l0 l1 t734 0))=some r:=h
 clear h
 replace H:=Option.bind_eq_some_iff.mp H
 obtain⟨t734,A30,H⟩:=H
 replace H:(canopyref1_Whole.l0 k l0 l1 t734 0)=some r:=H
 have A3:=Aside0.mk A30
 clear A30
 have H':=Aside0.mk H
 clear H
 go_enter Try.func28,Try.ntmps28
 go_wp2_with (first|((with_reducible refine gate_callee (f:=45) rfl ?_);refine goesL_ (some 9) rfl rfl Try.func45 (by kernel_rfl) rfl #[.slice A0 l0.length c0,.slice A1 l1.length c1] rfl (by(try simp only [List.map_toArray,List.map_cons,List.map_nil]);first|done|rfl|(simp only [List.length_drop,List.length_take];rfl)) ?_;(with_reducible refine(canopyref1_Match.calls k _ _ l0 _ _ l1 t734 _ ?side1 ?side2 ?side3 ?side4 A3.out).mono ?_);(case side1=>repeat (first|exact HR0.out|(with_reducible refine Kd.C_alloc ?_ _)|(with_reducible refine Kd.C_drewN ?_ _)|(with_reducible refine Kd.C_drew ?_)));(case side2=>exact HC0.out);(case side3=>repeat (first|exact HR1.out|(with_reducible refine Kd.C_alloc ?_ _)|(with_reducible refine Kd.C_drewN ?_ _)|(with_reducible refine Kd.C_drew ?_)));(case side4=>exact HC1.out);rintro e w4 ⟨v735,rfl,ho0,hb⟩;refine⟨_,rfl,?_⟩;have n0_:=Aside0.mk (Kd.R_lower ho0 (below_size (by repeat (first|(with_reducible first|exact HB.out|apply below_alloc|apply pw_below_drewN|apply below_drew1)|exact HB.out))));have n1_:=Aside0.mk (below_step (by repeat (first|(with_reducible first|exact HB.out|apply below_alloc|apply pw_below_drewN|apply below_drew1)|exact HB.out)) hb);clear HB;have HO736:=n0_;have HB:=n1_;clear n0_ n1_;(try clear hb);(try clear hb2);(try clear hk);(try clear hi);(try clear ho0)))
 go_loopg [6] k (fun kq v6 w'=>∃(x6_1:Int),v6=.int .i64 x6_1∧Aside0 (canopyref1_Whole.l0 kq l0 l1 t734 x6_1=some r)∧Aside0 (kq≤k)∧Aside0 (Kd.R (Kd.int .i64) 3 w' w.heap.size (fun _=>True) v735 t734)∧Aside0 (Below w.heap.size w w'))
 case atStart=>exact⟨(0),(by first|rfl|(simp;done)|(simp [*];done)),H',⟨Nat.le_refl _⟩,⟨by(with_reducible repeat (first|apply Kd.R_alloc|apply Kd.R_drewN|apply Kd.R_drew));exact HO736.out⟩,⟨by repeat (first|(with_reducible first|exact HB.out|apply below_alloc|apply pw_below_drewN|apply below_drew1)|exact HB.out)⟩⟩
 case' round=>skip
 clear H'
 try clear c1
 try clear c2
 try clear p2
 try clear c4
 obtain⟨x6_1,rfl,HA,HK1,HO_5,HB⟩:=hrel
 cases gk with
 | zero=>exact absurd HA.out (by simp [canopyref1_Whole.l0])
 | succ k1=>
  have H:=HA.out
  clear HA
  simp only [canopyref1_Whole.l0] at H
  by_cases c5:x6_1 < (l1.length:Int)
  ·rw [if_pos c5] at H
   have c5b0:decide (x6_1 < (l1.length:Int))=true:=decide_eq_true c5
   clear c5
   by_cases c6:0≤x6_1
   ·rw [if_pos c6] at H
    have c6b0:decide (0≤x6_1)=true:=decide_eq_true c6
    clear c6
    by_cases c7:x6_1 < (t734.length:Int)
    ·rw [if_pos c7] at H
     have c7b0:decide (x6_1 < (t734.length:Int))=true:=decide_eq_true c7
     clear c7
     by_cases c8:(rd t734 x6_1) < 0
     ·rw [if_pos c8] at H
      have c8b0:decide ((rd t734 x6_1) < 0)=true:=decide_eq_true c8
      clear c8
      by_cases c9:0≤(rd l1 x6_1)
      ·rw [if_pos c9] at H
       have c9b0:decide (0≤(rd l1 x6_1))=true:=decide_eq_true c9
       clear c9
       by_cases c10:(rd l1 x6_1) < (l0.length:Int)
       ·rw [if_pos c10] at H
        have c10b0:decide ((rd l1 x6_1) < (l0.length:Int))=true:=decide_eq_true c10
        clear c10
        by_cases c11:((rd_T46 l0 (rd l1 x6_1)).f1)=3
        ·rw [if_pos c11] at H
         have c11b0:(((rd_T46 l0 (rd l1 x6_1)).f1) == 3)=true:=beq_iff_eq.mpr c11
         have c11b1:(((rd_T46 l0 (rd l1 x6_1)).f1) != 3)=false:=bne_eq_false_iff_eq.mpr c11
         clear c11
         have H':=Aside0.mk H
         clear H
         obtain⟨Ao12,co12,eo12⟩:=Kd.R_slice HO_5.out
         subst eo12
         have p737:0≤(x6_1:Int):=of_decide_eq_true (by first|(with_reducible assumption)|assumption)
         have q737:x6_1 < (t734.length:Int):=of_decide_eq_true (by first|(with_reducible assumption)|assumption)
         obtain⟨ad737,e737,hx737_0⟩:=Kd.at_int (Kd.R_reads' HO_5.out).2.2 x6_1 p737 q737
         cases e737
         replace p737:=eq_true p737
         replace q737:=eq_true q737
         have p738:0≤(x6_1:Int):=of_decide_eq_true (by first|(with_reducible assumption)|assumption)
         have q738:x6_1 < (l1.length:Int):=of_decide_eq_true (by first|(with_reducible assumption)|assumption)
         obtain⟨ad738,e738,hx738_0⟩:=Kd.at_int HR1.out x6_1 p738 q738
         cases e738
         replace hx738_0:=(HB.out.cell (World.block_lt_of_cell? w _ hx738_0)).trans hx738_0
         replace p738:=eq_true p738
         replace q738:=eq_true q738
         have p739:0≤((rd l1 x6_1):Int):=of_decide_eq_true (by first|(with_reducible assumption)|assumption)
         have q739:(rd l1 x6_1) < (l0.length:Int):=of_decide_eq_true (by first|(with_reducible assumption)|assumption)
         obtain⟨ad739,e739,hx739_0,hx739_1⟩:=at_T46 HR0.out (rd l1 x6_1) p739 q739
         cases e739
         replace hx739_0:=(HB.out.cell (World.block_lt_of_cell? w _ hx739_0)).trans hx739_0
         replace hx739_1:=(HB.out.cell (World.block_lt_of_cell? w _ hx739_1)).trans hx739_1
         replace p739:=eq_true p739
         replace q739:=eq_true q739
         go_wp2
         go_roundg k1
         case measure=>have:=HK1.out;omega
         case rel=>exact⟨(wrap64 (x6_1+1)),(by first|rfl|(simp;done)|(simp [*];done)),H',⟨by have:=HK1.out;omega⟩,⟨by(with_reducible repeat (first|apply Kd.R_alloc|apply Kd.R_drewN|apply Kd.R_drew));exact HO_5.out⟩,⟨by repeat (first|(with_reducible first|exact HB.out|apply below_alloc|apply pw_below_drewN|apply below_drew1)|exact HB.out)⟩⟩
        rw [if_neg c11] at H
        have c11b0:(((rd_T46 l0 (rd l1 x6_1)).f1) == 3)=false:=beq_eq_false_iff_ne.mpr c11
        have c11b1:(((rd_T46 l0 (rd l1 x6_1)).f1) != 3)=true:=bne_iff_ne.mpr c11
        obtain rfl:=Option.some.inj H
        obtain⟨Ao13,co13,eo13⟩:=Kd.R_slice HO_5.out
        subst eo13
        have p737:0≤(x6_1:Int):=of_decide_eq_true (by first|(with_reducible assumption)|assumption)
        have q737:x6_1 < (t734.length:Int):=of_decide_eq_true (by first|(with_reducible assumption)|assumption)
        obtain⟨ad737,e737,hx737_0⟩:=Kd.at_int (Kd.R_reads' HO_5.out).2.2 x6_1 p737 q737
        cases e737
        replace p737:=eq_true p737
        replace q737:=eq_true q737
        have p738:0≤(x6_1:Int):=of_decide_eq_true (by first|(with_reducible assumption)|assumption)
        have q738:x6_1 < (l1.length:Int):=of_decide_eq_true (by first|(with_reducible assumption)|assumption)
        obtain⟨ad738,e738,hx738_0⟩:=Kd.at_int HR1.out x6_1 p738 q738
        cases e738
        replace hx738_0:=(HB.out.cell (World.block_lt_of_cell? w _ hx738_0)).trans hx738_0
        replace p738:=eq_true p738
        replace q738:=eq_true q738
        have p739:0≤((rd l1 x6_1):Int):=of_decide_eq_true (by first|(with_reducible assumption)|assumption)
        have q739:(rd l1 x6_1) < (l0.length:Int):=of_decide_eq_true (by first|(with_reducible assumption)|assumption)
        obtain⟨ad739,e739,hx739_0,hx739_1⟩:=at_T46 HR0.out (rd l1 x6_1) p739 q739
        cases e739
        replace hx739_0:=(HB.out.cell (World.block_lt_of_cell? w _ hx739_0)).trans hx739_0
        replace hx739_1:=(HB.out.cell (World.block_lt_of_cell? w _ hx739_1)).trans hx739_1
        replace p739:=eq_true p739
        replace q739:=eq_true q739
        go_wp2
        go_ret
        exact⟨by first|rfl|(simp [errW_none,errW_some]<;>rfl)|(simp [*,errW_none,errW_some]<;>rfl),by repeat (first|(with_reducible first|exact HB.out|apply below_alloc|apply pw_below_drewN|apply below_drew1)|exact HB.out)⟩
       rw [if_neg c10] at H
       exact absurd H (by simp)
      rw [if_neg c9] at H
      exact absurd H (by simp)
     rw [if_neg c8] at H
     have c8b0:decide ((rd t734 x6_1) < 0)=false:=decide_eq_false c8
     clear c8
     have H':=Aside0.mk H
     clear H
     obtain⟨Ao14,co14,eo14⟩:=Kd.R_slice HO_5.out
     subst eo14
     have p737:0≤(x6_1:Int):=of_decide_eq_true (by first|(with_reducible assumption)|assumption)
     have q737:x6_1 < (t734.length:Int):=of_decide_eq_true (by first|(with_reducible assumption)|assumption)
     obtain⟨ad737,e737,hx737_0⟩:=Kd.at_int (Kd.R_reads' HO_5.out).2.2 x6_1 p737 q737
     cases e737
     replace p737:=eq_true p737
     replace q737:=eq_true q737
     go_wp2
     go_roundg k1
     case measure=>have:=HK1.out;omega
     case rel=>exact⟨(wrap64 (x6_1+1)),(by first|rfl|(simp;done)|(simp [*];done)),H',⟨by have:=HK1.out;omega⟩,⟨by(with_reducible repeat (first|apply Kd.R_alloc|apply Kd.R_drewN|apply Kd.R_drew));exact HO_5.out⟩,⟨by repeat (first|(with_reducible first|exact HB.out|apply below_alloc|apply pw_below_drewN|apply below_drew1)|exact HB.out)⟩⟩
    rw [if_neg c7] at H
    exact absurd H (by simp)
   rw [if_neg c6] at H
   exact absurd H (by simp)
  rw [if_neg c5] at H
  have c5b0:decide (x6_1 < (l1.length:Int))=false:=decide_eq_false c5
  clear c5
  obtain rfl:=Option.some.inj H
  go_wp2
  go_ret
  exact⟨by first|rfl|(simp [errW_none,errW_some]<;>rfl)|(simp [*,errW_none,errW_some]<;>rfl),by repeat (first|(with_reducible first|exact HB.out|apply below_alloc|apply pw_below_drewN|apply below_drew1)|exact HB.out)⟩
end Go.Proofs.Ytjkhdldgmkkhjaa.P
