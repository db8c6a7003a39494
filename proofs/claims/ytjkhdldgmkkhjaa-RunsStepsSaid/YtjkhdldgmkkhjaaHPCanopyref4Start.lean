/- Words and walks of this claim: PCanopyref4Start. -/
import Derived.Test.YtjkhdldgmkkhjaaHP0Etc
import Derived.Test.YtjkhdldgmkkhjaaHSRefInts
set_option linter.unusedVariables false
set_option linter.unusedSimpArgs false
set_option linter.unnecessarySimpa false
namespace Go.Proofs.Ytjkhdldgmkkhjaa.P
open Go.RowKit Go.Proofs.YtjkhdldgmkkhjaaW.PrintWords Go.Proofs.YtjkhdldgmkkhjaaW.PrintLast Go.Proofs.YtjkhdldgmkkhjaaW.PrintMore
attribute [local go_sem] max2_int min2_int max_two min_two max_three min_three max_four min_four   -- for this text's walks alone
def canopyref4_Start.l0:Nat→List (S67)→List Int→Int→Option ((List (S67)))
 | 0,_,_,_=>none
 | k+1,x3,x4,x5=>if x5 < (x4.length:Int) then (if 0≤x5 then (if x3.length < 4398046511104 then (canopyref4_Start.l0 k (x3 ++ [(⟨rd x4 x5,([]:List Int)⟩:S67)]) x4 (wrap64 (x5+1))) else (none)) else (none)) else (some x3)
def canopyref4_Start.f (k:Nat) (a0_0:Int) (a0_1:Int) (l0_2:List Int) (l0_3:List Int) (l0_4:List (S52)) (l0_5:List (S54)) (l0_6:List (S56)):Option ((List (S67))):=(canopyref2_Ints.f l0_2).bind fun t188=>(canopyref4_Start.l0 k ([]:List (S67)) t188 0)
theorem canopyref4_Start.mono_l:∀k,(∀y0 y1 y2,LeO (canopyref4_Start.l0 k y0 y1 y2) (canopyref4_Start.l0 (k+1) y0 y1 y2))
 | 0=>fun _ _ _ r h=>by simp [canopyref4_Start.l0] at h
 | k+1=>by
  have ih0:=canopyref4_Start.mono_l k
  intro y0 y1 y2
  unfold canopyref4_Start.l0
  repeat' first
  | (with_reducible exact ih0 _ _ _)
  | (with_reducible exact LeO.refl _)
  | (with_reducible exact LeO.none _)
  | (with_reducible refine LeO.ite ?_ ?_)
  | (with_reducible refine LeO.bind ?_ (fun _=>?_))
  | exact ih0 _ _ _
  | exact LeO.none _
  | refine LeO.ite ?_ ?_
  | refine LeO.bind ?_ (fun _=>?_)
theorem canopyref4_Start.mono:∀a0 a1 a2 a3 a4 a5 a6 k,LeO (canopyref4_Start.f k a0 a1 a2 a3 a4 a5 a6) (canopyref4_Start.f (k+1) a0 a1 a2 a3 a4 a5 a6):=by
 intro a0 a1 a2 a3 a4 a5 a6 k
 have ih0:=canopyref4_Start.mono_l k
 unfold canopyref4_Start.f
 repeat' first
  | (with_reducible exact ih0 _ _ _)
  | (with_reducible exact LeO.refl _)
  | (with_reducible exact LeO.none _)
  | (with_reducible refine LeO.ite ?_ ?_)
  | (with_reducible refine LeO.bind ?_ (fun _=>?_))
  | exact ih0 _ _ _
  | exact LeO.none _
  | refine LeO.ite ?_ ?_
  | refine LeO.bind ?_ (fun _=>?_)
set_option maxHeartbeats 8000000 in
set_option maxRecDepth 100000 in
theorem canopyref4_Start.calls (k:Nat) (a0_0:Int) (a0_1:Int) (A0_2:Option Addr) (c0_2:Nat) (l0_2:List Int) (A0_3:Option Addr) (c0_3:Nat) (l0_3:List Int) (A0_4:Option Addr) (c0_4:Nat) (l0_4:List (S52)) (A0_5:Option Addr) (c0_5:Nat) (l0_5:List (S54)) (A0_6:Option Addr) (c0_6:Nat) (l0_6:List (S56)) (r:List (S67)) (w:World) (hr0_2:Kd.C (Kd.int .i64) w A0_2 l0_2.length l0_2) (hc0_2:l0_2.length≤c0_2) (hr0_3:Kd.C (Kd.int .i64) w A0_3 l0_3.length l0_3) (hc0_3:l0_3.length≤c0_3) (hr0_4:Kd.C k52 w A0_4 l0_4.length l0_4) (hc0_4:l0_4.length≤c0_4) (hr0_5:Kd.C k54 w A0_5 l0_5.length l0_5) (hc0_5:l0_5.length≤c0_5) (hr0_6:Kd.C k56 w A0_6 l0_6.length l0_6) (hc0_6:l0_6.length≤c0_6) (h:canopyref4_Start.f k a0_0 a0_1 l0_2 l0_3 l0_4 l0_5 l0_6=some r) :
 Calls Try.prog 18 #[.agg #[.int .i64 a0_0,.int .i64 a0_1,.slice A0_2 l0_2.length c0_2,.slice A0_3 l0_3.length c0_3,.slice A0_4 l0_4.length c0_4,.slice A0_5 l0_5.length c0_5,.slice A0_6 l0_6.length c0_6]] w fun e w'=>∃v0_:Value,e=.returned (v0_)∧Kd.S k67 67 w' w.heap.size (fun _=>True) v0_ r∧Below w.heap.size w w':=by
 have hu30:=Try.underlying30
 have hu67:=Try.underlying67
 have HR0_2:=Aside0.mk hr0_2
 have HC0_2:=Aside0.mk hc0_2
 clear hr0_2 hc0_2
 have HR0_3:=Aside0.mk hr0_3
 have HC0_3:=Aside0.mk hc0_3
 clear hr0_3 hc0_3
 have HR0_4:=Aside0.mk hr0_4
 have HC0_4:=Aside0.mk hc0_4
 clear hr0_4 hc0_4
 have HR0_5:=Aside0.mk hr0_5
 have HC0_5:=Aside0.mk hc0_5
 clear hr0_5 hc0_5
 have HR0_6:=Aside0.mk hr0_6
 have HC0_6:=Aside0.mk hc0_6
 clear hr0_6 hc0_6
 have HB:=Aside0.mk (Below.refl w.heap.size w)
 have H:((canopyref2_Ints.f l0_2).bind fun t188=>(canopyref4_Start.l0 k ([]:List (S67)) t188 0))=some r:=h
 clear h
 replace H:=Option.bind_eq_some_iff.mp H
 obtain⟨t188,A20,H⟩:=H
 replace H:(canopyref4_Start.l0 k ([]:List (S67)) t188 0)=some r:=H
 have A2:=Aside0.mk A20
 clear A20
 have H':=Aside0.mk H
 clear H
 go_enter Try.func18,Try.ntmps18
 go_wp2_with (first|((with_reducible refine gate_dst (N:=1) rfl ?_);refine box_event ?hg (N:=1) ?hd (cs:=#[.int .i64 a0_0,.int .i64 a0_1,.slice A0_2 l0_2.length c0_2,.slice A0_3 l0_3.length c0_3,.slice A0_4 l0_4.length c0_4,.slice A0_5 l0_5.length c0_5,.slice A0_6 l0_6.length c0_6]) (t:=30) ?hr ?_;(case hd=>rfl);(case hg=>rfl);(case hr=>first|(go_simp;done)|(go_simp;rfl));intro gb187 hg w3 hbox hb;have n0_:=Aside0.mk (below_step (by repeat (first|(with_reducible first|exact HB.out|apply below_alloc|apply pw_below_drewN|apply below_drew1)|exact HB.out)) hb);have n1_:=Aside0.mk (hbox);have n2_:=Aside0.mk ((by rw [hg];exact(below_size (by repeat (first|(with_reducible first|exact HB.out|apply below_alloc|apply pw_below_drewN|apply below_drew1)|exact HB.out))):w.heap.size≤gb187));have n3_:=Aside0.mk ((by rw [hg];exact(below_size (by repeat (first|(with_reducible first|exact HB.out|apply below_alloc|apply pw_below_drewN|apply below_drew1)|exact HB.out))):w.heap.size≤gb187));clear HB;have HB:=n0_;have BK187:=n1_;have GW187:=n2_;have GE187:=n3_;clear n0_ n1_ n2_ n3_;clear hb hbox hg;have hcz4_0:w3.cell? ⟨gb187,0,none⟩=some (.int .i64 a0_0):=(blk_cell BK187.out 0).trans rfl;have hcz4_1:w3.cell? ⟨gb187,1,none⟩=some (.int .i64 a0_1):=(blk_cell BK187.out 1).trans rfl;have hcz4_2:w3.cell? ⟨gb187,2,none⟩=some (.slice A0_2 l0_2.length c0_2):=(blk_cell BK187.out 2).trans rfl;have hcz4_3:w3.cell? ⟨gb187,3,none⟩=some (.slice A0_3 l0_3.length c0_3):=(blk_cell BK187.out 3).trans rfl;have hcz4_4:w3.cell? ⟨gb187,4,none⟩=some (.slice A0_4 l0_4.length c0_4):=(blk_cell BK187.out 4).trans rfl;have hcz4_5:w3.cell? ⟨gb187,5,none⟩=some (.slice A0_5 l0_5.length c0_5):=(blk_cell BK187.out 5).trans rfl;have hcz4_6:w3.cell? ⟨gb187,6,none⟩=some (.slice A0_6 l0_6.length c0_6):=(blk_cell BK187.out 6).trans rfl;have hfz4_0:=blk_frozen BK187.out 0;have hfz4_1:=blk_frozen BK187.out 1;have hfz4_2:=blk_frozen BK187.out 2;have hfz4_3:=blk_frozen BK187.out 3;have hfz4_4:=blk_frozen BK187.out 4;have hfz4_5:=blk_frozen BK187.out 5;have hfz4_6:=blk_frozen BK187.out 6)|((with_reducible refine gate_callee (f:=34) rfl ?_);refine goesL_ (some 8) rfl rfl Try.func34 (by kernel_rfl) rfl #[.slice A0_2 l0_2.length c0_2] rfl (by(try simp only [List.map_toArray,List.map_cons,List.map_nil]);first|done|rfl|(simp only [List.length_drop,List.length_take];rfl)) ?_;(with_reducible refine(canopyref2_Ints.calls _ _ l0_2 t188 _ ?side1 ?side2 A2.out).mono ?_);(case side1=>repeat (first|exact(Kd.C_below HR0_2.out HB.out)|(with_reducible refine Kd.C_alloc ?_ _)|(with_reducible refine Kd.C_drewN ?_ _)|(with_reducible refine Kd.C_drew ?_)));(case side2=>exact HC0_2.out);rintro e w5 ⟨v189,rfl,ho0,hb⟩;refine⟨_,rfl,?_⟩;have n0_:=Aside0.mk (Kd.R_lower ho0 (below_size (by repeat (first|(with_reducible first|exact HB.out|apply below_alloc|apply pw_below_drewN|apply below_drew1|refine below_set ?_ GE187.out)|exact HB.out))));have n1_:=Aside0.mk (blk_below (g:=gb187) (o:=.cells #[.int .i64 a0_0,.int .i64 a0_1,.slice A0_2 l0_2.length c0_2,.slice A0_3 l0_3.length c0_3,.slice A0_4 l0_4.length c0_4,.slice A0_5 l0_5.length c0_5,.slice A0_6 l0_6.length c0_6] 30 (0,0)) (by(with_reducible repeat (first|refine blk_drewN ?_ _|refine blk_drew ?_|refine blk_alloc ?_ _));exact BK187.out) hb);have n2_:=Aside0.mk (below_step (by repeat (first|(with_reducible first|exact HB.out|apply below_alloc|apply pw_below_drewN|apply below_drew1|refine below_set ?_ GE187.out)|exact HB.out)) hb);clear BK187;clear HB;have HO190:=n0_;have BK187:=n1_;have HB:=n2_;clear n0_ n1_ n2_;(try clear hb);(try clear hb2);(try clear hk);(try clear hi);(try clear ho0)))
 go_loopg [3,5] k (fun kq v3 v5 w'=>∃(x3_1:List (S67)) (x5_1:Int),v5=.int .i64 x5_1∧Aside0 (canopyref4_Start.l0 kq x3_1 t188 x5_1=some r)∧Aside0 (kq≤k)∧Aside0 (Kd.S k67 67 w' w.heap.size (fun k_=>some k_≠(v189:Value).ownBlock) v3 x3_1)∧Aside0 (Kd.R (Kd.int .i64) 3 w' w.heap.size (fun _=>True) v189 t188)∧Aside0 (w'.heap[gb187]? = some (.cells #[.int .i64 a0_0,.int .i64 a0_1,(.slice A0_2 l0_2.length c0_2),(.slice A0_3 l0_3.length c0_3),(.slice A0_4 l0_4.length c0_4),(.slice A0_5 l0_5.length c0_5),(.slice A0_6 l0_6.length c0_6)] 30 (0,0)))∧Aside0 (Below w.heap.size w w'))
 case atStart=>exact⟨(([]:List (S67))),(0),(by first|rfl|(simp;done)|(simp [*];done)),H',⟨Nat.le_refl _⟩,⟨by first|exact Kd.S_nil _ _ _ _ _|exact Kd.N_nil _ _ _ _ _|exact Kd.V_nil _ _ _ _ _|exact Kd.Q_nil _ _ _ _ _|exact Kd.R_nil _ _ _ _ _⟩,⟨by(with_reducible repeat (first|apply Kd.R_alloc|apply Kd.R_drewN|apply Kd.R_drew));exact HO190.out⟩,⟨by(with_reducible repeat (first|refine blk_drewN ?_ _|refine blk_drew ?_|refine blk_alloc ?_ _));exact BK187.out⟩,⟨by repeat (first|(with_reducible first|exact HB.out|apply below_alloc|apply pw_below_drewN|apply below_drew1|refine below_set ?_ GE187.out)|exact HB.out)⟩⟩
 case' round=>skip
 clear H'
 try clear c1
 try clear p2
 try clear c3
 try clear hcz4_0
 try clear hcz4_1
 try clear hcz4_2
 try clear hcz4_3
 try clear hcz4_4
 try clear hcz4_5
 try clear hcz4_6
 try clear hfz4_0
 try clear hfz4_1
 try clear hfz4_2
 try clear hfz4_3
 try clear hfz4_4
 try clear hfz4_5
 try clear hfz4_6
 obtain⟨x3_1,x5_1,rfl,HA,HK1,HO_3,HO_4,BK187,HB⟩:=hrel
 cases gk with
 | zero=>exact absurd HA.out (by simp [canopyref4_Start.l0])
 | succ k1=>
  have H:=HA.out
  clear HA
  simp only [canopyref4_Start.l0] at H
  by_cases c6:x5_1 < (t188.length:Int)
  ·rw [if_pos c6] at H
   have c6b0:decide (x5_1 < (t188.length:Int))=true:=decide_eq_true c6
   clear c6
   by_cases c7:0≤x5_1
   ·rw [if_pos c7] at H
    have c7b0:decide (0≤x5_1)=true:=decide_eq_true c7
    clear c7
    by_cases c8:x3_1.length < 4398046511104
    ·rw [if_pos c8] at H
     have LMc8:=Aside0.mk c8
     clear c8
     obtain⟨y192,hy192⟩:∃y_:List (S67),y_=(x3_1 ++ [(⟨rd t188 x5_1,([]:List Int)⟩:S67)]):=⟨_,rfl⟩
     replace H:(canopyref4_Start.l0 k1 y192 t188 (wrap64 (x5_1+1)))=some r:=by first|(rw [hy192];with_reducible exact H)|(have H2_:=(Option.bind_some _ _).symm.trans H;rw [hy192];with_reducible exact H2_)|(have H2_:=(Option.bind_some _ _).symm.trans H;with_reducible exact H2_)|with_reducible exact H|(rw [hy192];exact H)|exact H
     have Ny192:=Aside0.mk hy192
     clear hy192
     have H':=Aside0.mk H
     clear H
     obtain⟨Ao9,co9,eo9⟩:=Kd.R_slice HO_4.out
     subst eo9
     have p191:0≤(x5_1:Int):=of_decide_eq_true (by first|(with_reducible assumption)|assumption)
     have q191:x5_1 < (t188.length:Int):=of_decide_eq_true (by first|(with_reducible assumption)|assumption)
     obtain⟨ad191,e191,hx191_0⟩:=Kd.at_int (Kd.R_reads' HO_4.out).2.2 x5_1 p191 q191
     cases e191
     replace p191:=eq_true p191
     replace q191:=eq_true q191
     go_wp2_with (first|((with_reducible refine gate_builtin (b:=.append) (xs:=#[.tmp 15,.tmp 21]) rfl ?_);at_builtin;refine Kd.S_append k67 (w0:=w) w.heap.size rfl (.tmp 15) (.tmp 21) 35 67 (.agg #[(.int .i64 0),(.slice none 0 0)]) 32 rfl Try.underlying35 info67 rfl (by decide) (by omega) u3 x3_1 (⟨rd t188 x5_1,([]:List Int)⟩:S67) [.int .i64 (rd t188 x5_1),.slice none 0 0] (fun k_=>some k_≠(.slice (some ad191) t188.length co9:Value).ownBlock) (fun _=>False) rfl rfl ?aP (fun k_ hk_=>hk_.elim) ?aF ?aO ?aB ?aS ?aL ?_;(case aP=>exact k67_mkM _ _ _ (⟨rd t188 x5_1,([]:List Int)⟩:S67) (Kd.R_nil _ _ _ _ _));(case aB=>exact(by repeat (first|(with_reducible first|exact HB.out|apply below_alloc|apply pw_below_drewN|apply below_drew1|refine below_set ?_ GE187.out)|exact HB.out)));(case aF=>exact(fun k_ hk=>Kd.fresh' (Kd.R_lt (by(with_reducible repeat (first|apply Kd.R_alloc|apply Kd.R_drewN|apply Kd.R_drew));exact HO_4.out)) k_ hk));(case aO=>exact(by(with_reducible repeat (first|apply Kd.S_alloc|apply Kd.S_drewN|apply Kd.S_drew));exact Kd.S_mono HO_3.out (fun k_ hk=>⟨hk,fun e_=>e_⟩)));(case aS=>exact(below_size (by repeat (first|(with_reducible first|exact HB.out|apply below_alloc|apply pw_below_drewN|apply below_drew1|refine below_set ?_ GE187.out)|exact HB.out))));(case aL=>have:=LMc8.out;omega);intro v193 w10 ho hb hg hat;rw [←Ny192.out] at ho;have n0_:=Aside0.mk (Kd.R_over' (by(with_reducible repeat (first|apply Kd.R_alloc|apply Kd.R_drewN|apply Kd.R_drew));exact HO_4.out) (Kd.S_typed (by(with_reducible repeat (first|apply Kd.S_alloc|apply Kd.S_drewN|apply Kd.S_drew));exact HO_3.out)) (by decide) hg);have n1_:=Aside0.mk (blk_grown (g:=gb187) (o:=.cells #[.int .i64 a0_0,.int .i64 a0_1,.slice A0_2 l0_2.length c0_2,.slice A0_3 l0_3.length c0_3,.slice A0_4 l0_4.length c0_4,.slice A0_5 l0_5.length c0_5,.slice A0_6 l0_6.length c0_6] 30 (0,0)) (by(with_reducible repeat (first|refine blk_drewN ?_ _|refine blk_drew ?_|refine blk_alloc ?_ _));exact BK187.out) hg (Kd.S_ne HO_3.out BK187.out (by decide)));have n2_:=Aside0.mk (hb);have n3_:=Aside0.mk (ho);clear HO_4;clear BK187;clear HB;clear HO_3;have HO_4:=n0_;have BK187:=n1_;have HB:=n2_;have HO194:=n3_;clear n0_ n1_ n2_ n3_;clear ho hb hg hat))
     go_roundg k1
     case measure=>have:=HK1.out;omega
     case rel=>exact⟨(y192),(wrap64 (x5_1+1)),(by first|rfl|(simp;done)|(simp [*];done)),H',⟨by have:=HK1.out;omega⟩,⟨by(with_reducible repeat (first|apply Kd.S_alloc|apply Kd.S_drewN|apply Kd.S_drew));exact HO194.out⟩,⟨by(with_reducible repeat (first|apply Kd.R_alloc|apply Kd.R_drewN|apply Kd.R_drew));exact HO_4.out⟩,⟨by(with_reducible repeat (first|refine blk_drewN ?_ _|refine blk_drew ?_|refine blk_alloc ?_ _));exact BK187.out⟩,⟨by repeat (first|(with_reducible first|exact HB.out|apply below_alloc|apply pw_below_drewN|apply below_drew1|refine below_set ?_ GE187.out)|exact HB.out)⟩⟩
    rw [if_neg c8] at H
    exact absurd H (by simp)
   rw [if_neg c7] at H
   exact absurd H (by simp)
  rw [if_neg c6] at H
  have c6b0:decide (x5_1 < (t188.length:Int))=false:=decide_eq_false c6
  clear c6
  obtain rfl:=Option.some.inj H
  obtain⟨Ao11,co11,eo11⟩:=Kd.R_slice HO_4.out
  subst eo11
  go_wp2
  go_ret
  exact⟨_,by first|rfl|(simp [errW_none,errW_some]<;>rfl)|(simp [*,errW_none,errW_some]<;>rfl),by(with_reducible repeat (first|apply Kd.S_alloc|apply Kd.S_drewN|apply Kd.S_drew));exact Kd.S_mono HO_3.out (fun _ hk=>trivial),by repeat (first|(with_reducible first|exact HB.out|apply below_alloc|apply pw_below_drewN|apply below_drew1|refine below_set ?_ GE187.out)|exact HB.out)⟩
end Go.Proofs.Ytjkhdldgmkkhjaa.P
