/- Words and walks of this claim: PAutoWays. -/
import Derived.Test.YtejpijgfpbcibaaGreatRP0Etc
set_option linter.unusedVariables false
set_option linter.unusedSimpArgs false
set_option linter.unnecessarySimpa false
namespace Go.Proofs.YtejpijgfpbcibaaGreat.P
open Go.RowKit Go.Proofs.YtejpijgfpbcibaaGreatW.PrintWords Go.Proofs.YtejpijgfpbcibaaGreatW.PrintLast Go.Proofs.YtejpijgfpbcibaaGreatW.PrintMore
attribute [local go_sem] max2_int min2_int max_two min_two max_three min_three max_four min_four   -- for this text's walks alone
mutual
def auto_ways.l0:Nat→List (S72)→List (S36)→Int→Int→Int→Int→List Int→List Int→List (S36)→List (S38)→List (S40)→Option ((List (S72)))
 | 0,_,_,_,_,_,_,_,_,_,_,_=>none
 | k+1,x3,x11,x12,x13,x114000,x114001,x114002,x114003,x114004,x114005,x114006=>if x13 < x12 then (if 0≤x13 then (if x13 < (x11.length:Int) then (if x3.length < 5864062014805 then (auto_ways.l0 k (x3 ++ [(⟨(rd_T36 x11 x13).f0,(rd_T36 x11 x13).f1,0⟩:S72)]) x11 x12 (wrap64 (x13+1)) x114000 x114001 x114002 x114003 x114004 x114005 x114006) else (none)) else (none)) else (none)) else (auto_ways.l1 k x3 x114005 (x114005.length:Int) 0 x114000 x114001 x114002 x114003 x114004 x114005 x114006)
def auto_ways.l1:Nat→List (S72)→List (S38)→Int→Int→Int→Int→List Int→List Int→List (S36)→List (S38)→List (S40)→Option ((List (S72)))
 | 0,_,_,_,_,_,_,_,_,_,_,_=>none
 | k+1,x3,x27,x28,x29,x114000,x114001,x114002,x114003,x114004,x114005,x114006=>if x29 < x28 then (if 0≤x29 then (if x29 < (x27.length:Int) then (if x3.length < 5864062014805 then (auto_ways.l1 k (x3 ++ [(⟨(rd_T38 x27 x29).f0,(rd_T38 x27 x29).f1,(rd_T38 x27 x29).f2⟩:S72)]) x27 x28 (wrap64 (x29+1)) x114000 x114001 x114002 x114003 x114004 x114005 x114006) else (none)) else (none)) else (none)) else (auto_ways.l2 k x3 x114006 (x114006.length:Int) 0)
def auto_ways.l2:Nat→List (S72)→List (S40)→Int→Int→Option ((List (S72)))
 | 0,_,_,_,_=>none
 | k+1,x3,x45,x46,x47=>if x47 < x46 then (if 0≤x47 then (if x47 < (x45.length:Int) then (if x3.length < 5864062014805 then (auto_ways.l2 k (x3 ++ [(⟨(rd_T40 x45 x47).f0,(rd_T40 x45 x47).f1,0⟩:S72)]) x45 x46 (wrap64 (x47+1))) else (none)) else (none)) else (none)) else (some x3)
end
def auto_ways.f (k:Nat) (a0_0:Int) (a0_1:Int) (l0_2:List Int) (l0_3:List Int) (l0_4:List (S36)) (l0_5:List (S38)) (l0_6:List (S40)):Option ((List (S72))):=auto_ways.l0 k ([]:List (S72)) l0_4 (l0_4.length:Int) 0 a0_0 a0_1 l0_2 l0_3 l0_4 l0_5 l0_6
theorem auto_ways.mono_l:∀k,(∀y0 y1 y2 y3 y4 y5 y6 y7 y8 y9 y10,LeO (auto_ways.l0 k y0 y1 y2 y3 y4 y5 y6 y7 y8 y9 y10) (auto_ways.l0 (k+1) y0 y1 y2 y3 y4 y5 y6 y7 y8 y9 y10))∧(∀y0 y1 y2 y3 y4 y5 y6 y7 y8 y9 y10,LeO (auto_ways.l1 k y0 y1 y2 y3 y4 y5 y6 y7 y8 y9 y10) (auto_ways.l1 (k+1) y0 y1 y2 y3 y4 y5 y6 y7 y8 y9 y10))∧(∀y0 y1 y2 y3,LeO (auto_ways.l2 k y0 y1 y2 y3) (auto_ways.l2 (k+1) y0 y1 y2 y3))
 | 0=>⟨fun _ _ _ _ _ _ _ _ _ _ _ r h=>by simp [auto_ways.l0] at h,fun _ _ _ _ _ _ _ _ _ _ _ r h=>by simp [auto_ways.l1] at h,fun _ _ _ _ r h=>by simp [auto_ways.l2] at h⟩
 | k+1=>by
  obtain⟨ih0,ih1,ih2⟩:=auto_ways.mono_l k
  refine⟨?_,?_,?_⟩
  ·intro y0 y1 y2 y3 y4 y5 y6 y7 y8 y9 y10
   unfold auto_ways.l0
   repeat' first
   | (with_reducible exact ih0 _ _ _ _ _ _ _ _ _ _ _)
   | (with_reducible exact ih1 _ _ _ _ _ _ _ _ _ _ _)
   | (with_reducible exact ih2 _ _ _ _)
   | (with_reducible exact LeO.refl _)
   | (with_reducible exact LeO.none _)
   | (with_reducible refine LeO.ite ?_ ?_)
   | (with_reducible refine LeO.bind ?_ (fun _=>?_))
   | exact ih0 _ _ _ _ _ _ _ _ _ _ _
   | exact ih1 _ _ _ _ _ _ _ _ _ _ _
   | exact ih2 _ _ _ _
   | exact LeO.none _
   | refine LeO.ite ?_ ?_
   | refine LeO.bind ?_ (fun _=>?_)
  ·intro y0 y1 y2 y3 y4 y5 y6 y7 y8 y9 y10
   unfold auto_ways.l1
   repeat' first
   | (with_reducible exact ih0 _ _ _ _ _ _ _ _ _ _ _)
   | (with_reducible exact ih1 _ _ _ _ _ _ _ _ _ _ _)
   | (with_reducible exact ih2 _ _ _ _)
   | (with_reducible exact LeO.refl _)
   | (with_reducible exact LeO.none _)
   | (with_reducible refine LeO.ite ?_ ?_)
   | (with_reducible refine LeO.bind ?_ (fun _=>?_))
   | exact ih0 _ _ _ _ _ _ _ _ _ _ _
   | exact ih1 _ _ _ _ _ _ _ _ _ _ _
   | exact ih2 _ _ _ _
   | exact LeO.none _
   | refine LeO.ite ?_ ?_
   | refine LeO.bind ?_ (fun _=>?_)
  intro y0 y1 y2 y3
  unfold auto_ways.l2
  repeat' first
  | (with_reducible exact ih0 _ _ _ _ _ _ _ _ _ _ _)
  | (with_reducible exact ih1 _ _ _ _ _ _ _ _ _ _ _)
  | (with_reducible exact ih2 _ _ _ _)
  | (with_reducible exact LeO.refl _)
  | (with_reducible exact LeO.none _)
  | (with_reducible refine LeO.ite ?_ ?_)
  | (with_reducible refine LeO.bind ?_ (fun _=>?_))
  | exact ih0 _ _ _ _ _ _ _ _ _ _ _
  | exact ih1 _ _ _ _ _ _ _ _ _ _ _
  | exact ih2 _ _ _ _
  | exact LeO.none _
  | refine LeO.ite ?_ ?_
  | refine LeO.bind ?_ (fun _=>?_)
theorem auto_ways.mono:∀a0 a1 a2 a3 a4 a5 a6 k,LeO (auto_ways.f k a0 a1 a2 a3 a4 a5 a6) (auto_ways.f (k+1) a0 a1 a2 a3 a4 a5 a6):=by
 intro a0 a1 a2 a3 a4 a5 a6 k
 obtain⟨ih0,ih1,ih2⟩:=auto_ways.mono_l k
 unfold auto_ways.f
 repeat' first
  | (with_reducible exact ih0 _ _ _ _ _ _ _ _ _ _ _)
  | (with_reducible exact ih1 _ _ _ _ _ _ _ _ _ _ _)
  | (with_reducible exact ih2 _ _ _ _)
  | (with_reducible exact LeO.refl _)
  | (with_reducible exact LeO.none _)
  | (with_reducible refine LeO.ite ?_ ?_)
  | (with_reducible refine LeO.bind ?_ (fun _=>?_))
  | exact ih0 _ _ _ _ _ _ _ _ _ _ _
  | exact ih1 _ _ _ _ _ _ _ _ _ _ _
  | exact ih2 _ _ _ _
  | exact LeO.none _
  | refine LeO.ite ?_ ?_
  | refine LeO.bind ?_ (fun _=>?_)
set_option maxHeartbeats 8000000 in
set_option maxRecDepth 100000 in
theorem auto_ways.calls (k:Nat) (a0_0:Int) (a0_1:Int) (A0_2:Option Addr) (c0_2:Nat) (l0_2:List Int) (A0_3:Option Addr) (c0_3:Nat) (l0_3:List Int) (A0_4:Option Addr) (c0_4:Nat) (l0_4:List (S36)) (A0_5:Option Addr) (c0_5:Nat) (l0_5:List (S38)) (A0_6:Option Addr) (c0_6:Nat) (l0_6:List (S40)) (r:List (S72)) (w:World) (hr0_2:Kd.C (Kd.int .i64) w A0_2 l0_2.length l0_2) (hc0_2:l0_2.length≤c0_2) (hr0_3:Kd.C (Kd.int .i64) w A0_3 l0_3.length l0_3) (hc0_3:l0_3.length≤c0_3) (hr0_4:Kd.C k36 w A0_4 l0_4.length l0_4) (hc0_4:l0_4.length≤c0_4) (hr0_5:Kd.C k38 w A0_5 l0_5.length l0_5) (hc0_5:l0_5.length≤c0_5) (hr0_6:Kd.C k40 w A0_6 l0_6.length l0_6) (hc0_6:l0_6.length≤c0_6) (h:auto_ways.f k a0_0 a0_1 l0_2 l0_3 l0_4 l0_5 l0_6=some r) :
 Calls Tryz.prog 38 #[.agg #[.int .i64 a0_0,.int .i64 a0_1,.slice A0_2 l0_2.length c0_2,.slice A0_3 l0_3.length c0_3,.slice A0_4 l0_4.length c0_4,.slice A0_5 l0_5.length c0_5,.slice A0_6 l0_6.length c0_6]] w fun e w'=>∃v0_:Value,e=.returned (v0_)∧Kd.R k72 72 w' w.heap.size (fun _=>True) v0_ r∧Below w.heap.size w w':=by
 have hu30:=Tryz.underlying30
 have hu36:=Tryz.underlying36
 have hu72:=Tryz.underlying72
 have hu38:=Tryz.underlying38
 have hu40:=Tryz.underlying40
 have HR0_2:=Aside0.mk hr0_2
 have HC0_2:=Aside0.mk hc0_2
 clear hr0_2 hc0_2
 have HR0_3:=Aside0.mk hr0_3
 have HC0_3:=Aside0.mk hc0_3
 clear hr0_3 hc0_3
 have HR0_4:=Aside0.mk hr0_4
 have HC0_4:=Aside0.mk hc0_4
 clear hr0_4 hc0_4
 have HR0_5:=Aside0.mk hr0_5
 have HC0_5:=Aside0.mk hc0_5
 clear hr0_5 hc0_5
 have HR0_6:=Aside0.mk hr0_6
 have HC0_6:=Aside0.mk hc0_6
 clear hr0_6 hc0_6
 have HB:=Aside0.mk (Below.refl w.heap.size w)
 have H:(auto_ways.l0 k ([]:List (S72)) l0_4 (l0_4.length:Int) 0 a0_0 a0_1 l0_2 l0_3 l0_4 l0_5 l0_6)=some r:=h
 clear h
 have H':=Aside0.mk H
 clear H
 go_enter Tryz.func38,Tryz.ntmps38
 go_wp2_with (first|((with_reducible refine gate_dst (N:=1) rfl ?_);refine box_event ?hg (N:=1) ?hd (cs:=#[.int .i64 a0_0,.int .i64 a0_1,.slice A0_2 l0_2.length c0_2,.slice A0_3 l0_3.length c0_3,.slice A0_4 l0_4.length c0_4,.slice A0_5 l0_5.length c0_5,.slice A0_6 l0_6.length c0_6]) (t:=30) ?hr ?_;(case hd=>rfl);(case hg=>rfl);(case hr=>first|(go_simp;done)|(go_simp;rfl));intro gb113 hg w2 hbox hb;have n0_:=Aside0.mk (below_step (by repeat (first|(with_reducible first|exact HB.out|apply below_alloc|apply pw_below_drewN|apply below_drew1)|exact HB.out)) hb);have n1_:=Aside0.mk (hbox);have n2_:=Aside0.mk ((by rw [hg];exact(below_size (by repeat (first|(with_reducible first|exact HB.out|apply below_alloc|apply pw_below_drewN|apply below_drew1)|exact HB.out))):w.heap.size≤gb113));have n3_:=Aside0.mk ((by rw [hg];exact(below_size (by repeat (first|(with_reducible first|exact HB.out|apply below_alloc|apply pw_below_drewN|apply below_drew1)|exact HB.out))):w.heap.size≤gb113));clear HB;have HB:=n0_;have BK113:=n1_;have GW113:=n2_;have GE113:=n3_;clear n0_ n1_ n2_ n3_;clear hb hbox hg;have hcz3_0:w2.cell? ⟨gb113,0,none⟩=some (.int .i64 a0_0):=(blk_cell BK113.out 0).trans rfl;have hcz3_1:w2.cell? ⟨gb113,1,none⟩=some (.int .i64 a0_1):=(blk_cell BK113.out 1).trans rfl;have hcz3_2:w2.cell? ⟨gb113,2,none⟩=some (.slice A0_2 l0_2.length c0_2):=(blk_cell BK113.out 2).trans rfl;have hcz3_3:w2.cell? ⟨gb113,3,none⟩=some (.slice A0_3 l0_3.length c0_3):=(blk_cell BK113.out 3).trans rfl;have hcz3_4:w2.cell? ⟨gb113,4,none⟩=some (.slice A0_4 l0_4.length c0_4):=(blk_cell BK113.out 4).trans rfl;have hcz3_5:w2.cell? ⟨gb113,5,none⟩=some (.slice A0_5 l0_5.length c0_5):=(blk_cell BK113.out 5).trans rfl;have hcz3_6:w2.cell? ⟨gb113,6,none⟩=some (.slice A0_6 l0_6.length c0_6):=(blk_cell BK113.out 6).trans rfl;have hfz3_0:=blk_frozen BK113.out 0;have hfz3_1:=blk_frozen BK113.out 1;have hfz3_2:=blk_frozen BK113.out 2;have hfz3_3:=blk_frozen BK113.out 3;have hfz3_4:=blk_frozen BK113.out 4;have hfz3_5:=blk_frozen BK113.out 5;have hfz3_6:=blk_frozen BK113.out 6))
 go_loopg [3,13] k (fun kq v3 v13 w'=>∃(x3_1:List (S72)) (x13_1:Int),v13=.int .i64 x13_1∧Aside0 (auto_ways.l0 kq x3_1 l0_4 (l0_4.length:Int) x13_1 a0_0 a0_1 l0_2 l0_3 l0_4 l0_5 l0_6=some r)∧Aside0 (kq≤k)∧Aside0 (Kd.R k72 72 w' w.heap.size (fun _=>True) v3 x3_1)∧Aside0 (w'.heap[gb113]? = some (.cells #[.int .i64 a0_0,.int .i64 a0_1,(.slice A0_2 l0_2.length c0_2),(.slice A0_3 l0_3.length c0_3),(.slice A0_4 l0_4.length c0_4),(.slice A0_5 l0_5.length c0_5),(.slice A0_6 l0_6.length c0_6)] 30 (0,0)))∧Aside0 (Below w.heap.size w w'))
 case atStart=>exact⟨(([]:List (S72))),(0),(by first|rfl|(simp;done)|(simp [*];done)),H',⟨Nat.le_refl _⟩,⟨by first|exact Kd.R_nil _ _ _ _ _|exact Kd.N_nil _ _ _ _ _|exact Kd.V_nil _ _ _ _ _|exact Kd.Q_nil _ _ _ _ _|exact Kd.S_nil _ _ _ _ _⟩,⟨by(with_reducible repeat (first|refine blk_drewN ?_ _|refine blk_drew ?_|refine blk_alloc ?_ _));exact BK113.out⟩,⟨by repeat (first|(with_reducible first|exact HB.out|apply below_alloc|apply pw_below_drewN|apply below_drew1|refine below_set ?_ GE113.out)|exact HB.out)⟩⟩
 case' round=>skip
 clear H'
 try clear p2
 try clear c3
 try clear hcz3_0
 try clear hcz3_1
 try clear hcz3_2
 try clear hcz3_3
 try clear hcz3_4
 try clear hcz3_5
 try clear hcz3_6
 try clear hfz3_0
 try clear hfz3_1
 try clear hfz3_2
 try clear hfz3_3
 try clear hfz3_4
 try clear hfz3_5
 try clear hfz3_6
 obtain⟨x3_1,x13_1,rfl,HA,HK1,HO_3,BK113,HB⟩:=hrel
 cases gk with
 | zero=>exact absurd HA.out (by simp [auto_ways.l0])
 | succ k1=>
  have H:=HA.out
  clear HA
  simp only [auto_ways.l0] at H
  by_cases c4:x13_1 < (l0_4.length:Int)
  ·rw [if_pos c4] at H
   have c4b0:decide (x13_1 < (l0_4.length:Int))=true:=decide_eq_true c4
   clear c4
   by_cases c5:0≤x13_1
   ·rw [if_pos c5] at H
    have c5b0:decide (0≤x13_1)=true:=decide_eq_true c5
    clear c5
    by_cases c6:x13_1 < (l0_4.length:Int)
    ·rw [if_pos c6] at H
     have c6b0:decide (x13_1 < (l0_4.length:Int))=true:=decide_eq_true c6
     clear c6
     by_cases c7:x3_1.length < 5864062014805
     ·rw [if_pos c7] at H
      have LMc7:=Aside0.mk c7
      clear c7
      obtain⟨y116,hy116⟩:∃y_:List (S72),y_=(x3_1 ++ [(⟨(rd_T36 l0_4 x13_1).f0,(rd_T36 l0_4 x13_1).f1,0⟩:S72)]):=⟨_,rfl⟩
      replace H:(auto_ways.l0 k1 y116 l0_4 (l0_4.length:Int) (wrap64 (x13_1+1)) a0_0 a0_1 l0_2 l0_3 l0_4 l0_5 l0_6)=some r:=by first|(rw [hy116];with_reducible exact H)|(have H2_:=(Option.bind_some _ _).symm.trans H;rw [hy116];with_reducible exact H2_)|(have H2_:=(Option.bind_some _ _).symm.trans H;with_reducible exact H2_)|with_reducible exact H|(rw [hy116];exact H)|exact H
      have Ny116:=Aside0.mk hy116
      clear hy116
      have H':=Aside0.mk H
      clear H
      have p114:0≤(x13_1:Int):=of_decide_eq_true (by first|(with_reducible assumption)|assumption)
      have q114:x13_1 < (l0_4.length:Int):=of_decide_eq_true (by first|(with_reducible assumption)|assumption)
      obtain⟨ad114,e114,hx114_0,hx114_1,hx114_2,hx114_3⟩:=at_T36 HR0_4.out x13_1 p114 q114
      cases e114
      replace hx114_0:=(HB.out.cell (World.block_lt_of_cell? w _ hx114_0)).trans hx114_0
      replace hx114_1:=(HB.out.cell (World.block_lt_of_cell? w _ hx114_1)).trans hx114_1
      replace hx114_2:=(HB.out.cell (World.block_lt_of_cell? w _ hx114_2)).trans hx114_2
      replace hx114_3:=(HB.out.cell (World.block_lt_of_cell? w _ hx114_3)).trans hx114_3
      replace p114:=eq_true p114
      replace q114:=eq_true q114
      go_wp2_with (first|((with_reducible refine gate_dst (N:=5) rfl ?_);refine box_event ?hg (N:=5) ?hd (cs:=#[.int .i64 0,.int .i64 0,.int .i64 0,.int .i64 0]) (t:=36) ?hr ?_;(case hd=>rfl);(case hg=>rfl);(case hr=>first|(go_simp;done)|(go_simp;rfl));intro gb115 hg w8 hbox hb;have n0_:=Aside0.mk (Kd.R_below (by(with_reducible repeat (first|apply Kd.R_alloc|apply Kd.R_drewN|apply Kd.R_drew));exact HO_3.out) hb);have n1_:=Aside0.mk (blk_below (g:=gb113) (o:=.cells #[.int .i64 a0_0,.int .i64 a0_1,.slice A0_2 l0_2.length c0_2,.slice A0_3 l0_3.length c0_3,.slice (some ad114) l0_4.length c0_4,.slice A0_5 l0_5.length c0_5,.slice A0_6 l0_6.length c0_6] 30 (0,0)) (by(with_reducible repeat (first|refine blk_drewN ?_ _|refine blk_drew ?_|refine blk_alloc ?_ _));exact BK113.out) hb);have n2_:=Aside0.mk (below_step (by repeat (first|(with_reducible first|exact HB.out|apply below_alloc|apply pw_below_drewN|apply below_drew1|refine below_set ?_ GE113.out)|exact HB.out)) hb);have n3_:=Aside0.mk (hbox);have n4_:=Aside0.mk ((by rw [hg];exact(below_size (by repeat (first|(with_reducible first|exact HB.out|apply below_alloc|apply pw_below_drewN|apply below_drew1|refine below_set ?_ GE113.out)|exact HB.out))):w.heap.size≤gb115));have n5_:=Aside0.mk ((by rw [hg];exact(below_size (by repeat (first|(with_reducible first|exact HB.out|apply below_alloc|apply pw_below_drewN|apply below_drew1|refine below_set ?_ GE113.out)|exact HB.out))):w.heap.size≤gb115));have n6_:=Aside0.mk ((by rw [hg];exact Nat.ne_of_lt (blk_lt (g:=gb113) (o:=.cells #[.int .i64 a0_0,.int .i64 a0_1,.slice A0_2 l0_2.length c0_2,.slice A0_3 l0_3.length c0_3,.slice (some ad114) l0_4.length c0_4,.slice A0_5 l0_5.length c0_5,.slice A0_6 l0_6.length c0_6] 30 (0,0)) (by(with_reducible repeat (first|refine blk_drewN ?_ _|refine blk_drew ?_|refine blk_alloc ?_ _));exact BK113.out)):gb113≠gb115));have n7_:=Aside0.mk ((by rw [hg];exact Nat.ne_of_gt (blk_lt (g:=gb113) (o:=.cells #[.int .i64 a0_0,.int .i64 a0_1,.slice A0_2 l0_2.length c0_2,.slice A0_3 l0_3.length c0_3,.slice (some ad114) l0_4.length c0_4,.slice A0_5 l0_5.length c0_5,.slice A0_6 l0_6.length c0_6] 30 (0,0)) (by(with_reducible repeat (first|refine blk_drewN ?_ _|refine blk_drew ?_|refine blk_alloc ?_ _));exact BK113.out)):gb115≠gb113));clear HO_3;clear BK113;clear HB;have HO_3:=n0_;have BK113:=n1_;have HB:=n2_;have BK115:=n3_;have GW115:=n4_;have GE115:=n5_;have NB113_115:=n6_;have NB115_113:=n7_;clear n0_ n1_ n2_ n3_ n4_ n5_ n6_ n7_;clear hb hbox hg;have hnb9:=NB115_113.out;have hnc9:=NB113_115.out;have hcz10_0:w8.cell? ⟨gb115,0,none⟩=some (.int .i64 0):=(blk_cell BK115.out 0).trans rfl;have hcz10_1:w8.cell? ⟨gb115,1,none⟩=some (.int .i64 0):=(blk_cell BK115.out 1).trans rfl;have hcz10_2:w8.cell? ⟨gb115,2,none⟩=some (.int .i64 0):=(blk_cell BK115.out 2).trans rfl;have hcz10_3:w8.cell? ⟨gb115,3,none⟩=some (.int .i64 0):=(blk_cell BK115.out 3).trans rfl;have hfz10_0:=blk_frozen BK115.out 0;have hfz10_1:=blk_frozen BK115.out 1;have hfz10_2:=blk_frozen BK115.out 2;have hfz10_3:=blk_frozen BK115.out 3)|((with_reducible refine gate_builtin (b:=.append) (xs:=#[.tmp 17,.tmp 23]) rfl ?_);at_builtin;refine Kd.R_append k72 (w0:=w) w.heap.size rfl (.tmp 17) (.tmp 23) 69 72 (.agg #[(.int .i64 0),(.int .i64 0),(.int .i64 0)]) 24 rfl Tryz.underlying69 info72 rfl (by decide) (by omega) u3 x3_1 (⟨(rd_T36 l0_4 x13_1).f0,(rd_T36 l0_4 x13_1).f1,0⟩:S72) [.int .i64 ((rd_T36 l0_4 x13_1).f0),.int .i64 ((rd_T36 l0_4 x13_1).f1),.int .i64 0] (fun _=>True) (fun _=>False) rfl (by first|(go_simp;done)|(go_simp;rfl)) ?aP (fun _ hk=>hk.elim) ?aF ?aO ?aB ?aS ?aL ?_;(case aP=>exact k72_mkM _ _ _ (⟨(rd_T36 l0_4 x13_1).f0,(rd_T36 l0_4 x13_1).f1,0⟩:S72));(case aB=>exact(by repeat (first|(with_reducible first|exact HB.out|apply below_alloc|apply pw_below_drewN|apply below_drew1|refine below_set ?_ GE113.out|refine below_set ?_ GE115.out)|exact HB.out)));(case aF=>exact(fun _ _=>trivial));(case aO=>exact(by(with_reducible repeat (first|apply Kd.R_alloc|apply Kd.R_drewN|apply Kd.R_drew));exact Kd.R_mono (Kd.R_far (p:=⟨gb115,3,none⟩) (Kd.R_far (p:=⟨gb115,2,none⟩) (Kd.R_far (p:=⟨gb115,1,none⟩) (Kd.R_far (p:=⟨gb115,0,none⟩) (Kd.R_types HO_3.out BK115.out (by decide)) (fun _ hk=>hk.2) (.int .i64 ((rd_T36 l0_4 x13_1).f0))) (fun _ hk=>hk.2) (.int .i64 ((rd_T36 l0_4 x13_1).f1))) (fun _ hk=>hk.2) (.int .i64 ((rd_T36 l0_4 x13_1).f2))) (fun _ hk=>hk.2) (.int .i64 ((rd_T36 l0_4 x13_1).f3))) (fun _ hk=>trivial)));(case aS=>exact(below_size (by repeat (first|(with_reducible first|exact HB.out|apply below_alloc|apply pw_below_drewN|apply below_drew1|refine below_set ?_ GE113.out|refine below_set ?_ GE115.out)|exact HB.out))));(case aL=>have:=LMc7.out;omega);intro v117 w11 ho hb hg hat;rw [←Ny116.out] at ho;have n0_:=Aside0.mk (blk_grown (g:=gb113) (o:=.cells #[.int .i64 a0_0,.int .i64 a0_1,.slice A0_2 l0_2.length c0_2,.slice A0_3 l0_3.length c0_3,.slice (some ad114) l0_4.length c0_4,.slice A0_5 l0_5.length c0_5,.slice A0_6 l0_6.length c0_6] 30 (0,0)) (by(with_reducible repeat (first|refine blk_drewN ?_ _|refine blk_drew ?_|refine blk_alloc ?_ _));refine blk_far ?_ NB113_115.out _;(with_reducible repeat (first|refine blk_drewN ?_ _|refine blk_drew ?_|refine blk_alloc ?_ _));refine blk_far ?_ NB113_115.out _;(with_reducible repeat (first|refine blk_drewN ?_ _|refine blk_drew ?_|refine blk_alloc ?_ _));refine blk_far ?_ NB113_115.out _;(with_reducible repeat (first|refine blk_drewN ?_ _|refine blk_drew ?_|refine blk_alloc ?_ _));refine blk_far ?_ NB113_115.out _;(with_reducible repeat (first|refine blk_drewN ?_ _|refine blk_drew ?_|refine blk_alloc ?_ _));exact BK113.out) hg (Kd.R_ne HO_3.out BK113.out (by decide)));have n1_:=Aside0.mk (blk_grown (g:=gb115) (o:=.cells #[.int .i64 ((rd_T36 l0_4 x13_1).f0),.int .i64 ((rd_T36 l0_4 x13_1).f1),.int .i64 ((rd_T36 l0_4 x13_1).f2),.int .i64 ((rd_T36 l0_4 x13_1).f3)] 36 (0,0)) (by(with_reducible repeat (first|refine blk_drewN ?_ _|refine blk_drew ?_|refine blk_alloc ?_ _));refine blk_put (cs:=#[.int .i64 ((rd_T36 l0_4 x13_1).f0),.int .i64 ((rd_T36 l0_4 x13_1).f1),.int .i64 ((rd_T36 l0_4 x13_1).f2),.int .i64 0]) ?_ 3 _ rfl;(with_reducible repeat (first|refine blk_drewN ?_ _|refine blk_drew ?_|refine blk_alloc ?_ _));refine blk_put (cs:=#[.int .i64 ((rd_T36 l0_4 x13_1).f0),.int .i64 ((rd_T36 l0_4 x13_1).f1),.int .i64 0,.int .i64 0]) ?_ 2 _ rfl;(with_reducible repeat (first|refine blk_drewN ?_ _|refine blk_drew ?_|refine blk_alloc ?_ _));refine blk_put (cs:=#[.int .i64 ((rd_T36 l0_4 x13_1).f0),.int .i64 0,.int .i64 0,.int .i64 0]) ?_ 1 _ rfl;(with_reducible repeat (first|refine blk_drewN ?_ _|refine blk_drew ?_|refine blk_alloc ?_ _));refine blk_put (cs:=#[.int .i64 0,.int .i64 0,.int .i64 0,.int .i64 0]) ?_ 0 _ rfl;(with_reducible repeat (first|refine blk_drewN ?_ _|refine blk_drew ?_|refine blk_alloc ?_ _));exact BK115.out) hg (Kd.R_ne HO_3.out BK115.out (by decide)));have n2_:=Aside0.mk (hb);have n3_:=Aside0.mk (ho);clear BK113;clear BK115;clear HB;clear HO_3;have BK113:=n0_;have BK115:=n1_;have HB:=n2_;have HO118:=n3_;clear n0_ n1_ n2_ n3_;clear ho hb hg hat))
      go_roundg k1
      case measure=>have:=HK1.out;omega
      case rel=>exact⟨(y116),(wrap64 (x13_1+1)),(by first|rfl|(simp;done)|(simp [*];done)),H',⟨by have:=HK1.out;omega⟩,⟨by(with_reducible repeat (first|apply Kd.R_alloc|apply Kd.R_drewN|apply Kd.R_drew));exact HO118.out⟩,⟨by(with_reducible repeat (first|refine blk_drewN ?_ _|refine blk_drew ?_|refine blk_alloc ?_ _));exact BK113.out⟩,⟨by repeat (first|(with_reducible first|exact HB.out|apply below_alloc|apply pw_below_drewN|apply below_drew1|refine below_set ?_ GE113.out|refine below_set ?_ GE115.out)|exact HB.out)⟩⟩
     rw [if_neg c7] at H
     exact absurd H (by simp)
    rw [if_neg c6] at H
    exact absurd H (by simp)
   rw [if_neg c5] at H
   exact absurd H (by simp)
  rw [if_neg c4] at H
  have c4b0:decide (x13_1 < (l0_4.length:Int))=false:=decide_eq_false c4
  clear c4
  have H':=Aside0.mk H
  clear H
  have hcz12_0:wr.cell? ⟨gb113,0,none⟩=some (.int .i64 a0_0):=(blk_cell BK113.out 0).trans rfl
  have hcz12_1:wr.cell? ⟨gb113,1,none⟩=some (.int .i64 a0_1):=(blk_cell BK113.out 1).trans rfl
  have hcz12_2:wr.cell? ⟨gb113,2,none⟩=some (.slice A0_2 l0_2.length c0_2):=(blk_cell BK113.out 2).trans rfl
  have hcz12_3:wr.cell? ⟨gb113,3,none⟩=some (.slice A0_3 l0_3.length c0_3):=(blk_cell BK113.out 3).trans rfl
  have hcz12_4:wr.cell? ⟨gb113,4,none⟩=some (.slice A0_4 l0_4.length c0_4):=(blk_cell BK113.out 4).trans rfl
  have hcz12_5:wr.cell? ⟨gb113,5,none⟩=some (.slice A0_5 l0_5.length c0_5):=(blk_cell BK113.out 5).trans rfl
  have hcz12_6:wr.cell? ⟨gb113,6,none⟩=some (.slice A0_6 l0_6.length c0_6):=(blk_cell BK113.out 6).trans rfl
  have hfz12_0:=blk_frozen BK113.out 0
  have hfz12_1:=blk_frozen BK113.out 1
  have hfz12_2:=blk_frozen BK113.out 2
  have hfz12_3:=blk_frozen BK113.out 3
  have hfz12_4:=blk_frozen BK113.out 4
  have hfz12_5:=blk_frozen BK113.out 5
  have hfz12_6:=blk_frozen BK113.out 6
  go_wp2
  go_loopg [3,29] k1 (fun kq v3 v29 w'=>∃(x3_2:List (S72)) (x29_2:Int),v29=.int .i64 x29_2∧Aside0 (auto_ways.l1 kq x3_2 l0_5 (l0_5.length:Int) x29_2 a0_0 a0_1 l0_2 l0_3 l0_4 l0_5 l0_6=some r)∧Aside0 (kq≤k1)∧Aside0 (Kd.R k72 72 w' w.heap.size (fun _=>True) v3 x3_2)∧Aside0 (w'.heap[gb113]? = some (.cells #[.int .i64 a0_0,.int .i64 a0_1,(.slice A0_2 l0_2.length c0_2),(.slice A0_3 l0_3.length c0_3),(.slice A0_4 l0_4.length c0_4),(.slice A0_5 l0_5.length c0_5),(.slice A0_6 l0_6.length c0_6)] 30 (0,0)))∧Aside0 (Below w.heap.size w w'))
  case atStart=>exact⟨(x3_1),(0),(by first|rfl|(simp;done)|(simp [*];done)),H',⟨Nat.le_refl _⟩,⟨by(with_reducible repeat (first|apply Kd.R_alloc|apply Kd.R_drewN|apply Kd.R_drew));exact HO_3.out⟩,⟨by(with_reducible repeat (first|refine blk_drewN ?_ _|refine blk_drew ?_|refine blk_alloc ?_ _));exact BK113.out⟩,⟨by repeat (first|(with_reducible first|exact HB.out|apply below_alloc|apply pw_below_drewN|apply below_drew1|refine below_set ?_ GE113.out)|exact HB.out)⟩⟩
  case' round=>skip
  clear H'
  try clear p1
  try clear q1
  try clear hx1
  try clear p2
  try clear c3
  try clear c4
  try clear c4b0
  try clear c5
  try clear c5b0
  try clear c6
  try clear c6b0
  try clear p6
  try clear c7
  try clear c9
  try clear p11
  try clear q11
  try clear hx11
  try clear hcz10_0
  try clear hcz10_1
  try clear hcz10_2
  try clear hcz10_3
  try clear hcz12_0
  try clear hcz12_1
  try clear hcz12_2
  try clear hcz12_3
  try clear hcz12_4
  try clear hcz12_5
  try clear hcz12_6
  try clear hcz3_0
  try clear hcz3_1
  try clear hcz3_2
  try clear hcz3_3
  try clear hcz3_4
  try clear hcz3_5
  try clear hcz3_6
  try clear hfz10_0
  try clear hfz10_1
  try clear hfz10_2
  try clear hfz10_3
  try clear hfz12_0
  try clear hfz12_1
  try clear hfz12_2
  try clear hfz12_3
  try clear hfz12_4
  try clear hfz12_5
  try clear hfz12_6
  try clear hfz3_0
  try clear hfz3_1
  try clear hfz3_2
  try clear hfz3_3
  try clear hfz3_4
  try clear hfz3_5
  try clear hfz3_6
  try clear hx114_0
  try clear hx114_1
  try clear hx114_2
  try clear hx114_3
  try clear p114
  try clear p2
  try clear q114
  obtain⟨x3_2,x29_2,rfl,HA,HK2,HO_3,BK113,HB⟩:=hrel
  cases gk with
  | zero=>exact absurd HA.out (by simp [auto_ways.l1])
  | succ k2=>
   have H:=HA.out
   clear HA
   simp only [auto_ways.l1] at H
   by_cases c13:x29_2 < (l0_5.length:Int)
   ·rw [if_pos c13] at H
    have c13b0:decide (x29_2 < (l0_5.length:Int))=true:=decide_eq_true c13
    clear c13
    by_cases c14:0≤x29_2
    ·rw [if_pos c14] at H
     have c14b0:decide (0≤x29_2)=true:=decide_eq_true c14
     clear c14
     by_cases c15:x29_2 < (l0_5.length:Int)
     ·rw [if_pos c15] at H
      have c15b0:decide (x29_2 < (l0_5.length:Int))=true:=decide_eq_true c15
      clear c15
      by_cases c16:x3_2.length < 5864062014805
      ·rw [if_pos c16] at H
       have LMc16:=Aside0.mk c16
       clear c16
       obtain⟨y121,hy121⟩:∃y_:List (S72),y_=(x3_2 ++ [(⟨(rd_T38 l0_5 x29_2).f0,(rd_T38 l0_5 x29_2).f1,(rd_T38 l0_5 x29_2).f2⟩:S72)]):=⟨_,rfl⟩
       replace H:(auto_ways.l1 k2 y121 l0_5 (l0_5.length:Int) (wrap64 (x29_2+1)) a0_0 a0_1 l0_2 l0_3 l0_4 l0_5 l0_6)=some r:=by first|(rw [hy121];with_reducible exact H)|(have H2_:=(Option.bind_some _ _).symm.trans H;rw [hy121];with_reducible exact H2_)|(have H2_:=(Option.bind_some _ _).symm.trans H;with_reducible exact H2_)|with_reducible exact H|(rw [hy121];exact H)|exact H
       have Ny121:=Aside0.mk hy121
       clear hy121
       have H':=Aside0.mk H
       clear H
       have p119:0≤(x29_2:Int):=of_decide_eq_true (by first|(with_reducible assumption)|assumption)
       have q119:x29_2 < (l0_5.length:Int):=of_decide_eq_true (by first|(with_reducible assumption)|assumption)
       obtain⟨ad119,e119,hx119_0,hx119_1,hx119_2,hx119_3⟩:=at_T38 HR0_5.out x29_2 p119 q119
       cases e119
       replace hx119_0:=(HB.out.cell (World.block_lt_of_cell? w _ hx119_0)).trans hx119_0
       replace hx119_1:=(HB.out.cell (World.block_lt_of_cell? w _ hx119_1)).trans hx119_1
       replace hx119_2:=(HB.out.cell (World.block_lt_of_cell? w _ hx119_2)).trans hx119_2
       replace hx119_3:=(HB.out.cell (World.block_lt_of_cell? w _ hx119_3)).trans hx119_3
       replace p119:=eq_true p119
       replace q119:=eq_true q119
       go_wp2_with (first|((with_reducible refine gate_dst (N:=7) rfl ?_);refine box_event ?hg (N:=7) ?hd (cs:=#[.int .i64 0,.int .i64 0,.int .i64 0,.int .i64 0]) (t:=38) ?hr ?_;(case hd=>rfl);(case hg=>rfl);(case hr=>first|(go_simp;done)|(go_simp;rfl));intro gb120 hg w17 hbox hb;have n0_:=Aside0.mk (Kd.R_below (by(with_reducible repeat (first|apply Kd.R_alloc|apply Kd.R_drewN|apply Kd.R_drew));exact HO_3.out) hb);have n1_:=Aside0.mk (blk_below (g:=gb113) (o:=.cells #[.int .i64 a0_0,.int .i64 a0_1,.slice A0_2 l0_2.length c0_2,.slice A0_3 l0_3.length c0_3,.slice A0_4 l0_4.length c0_4,.slice (some ad119) l0_5.length c0_5,.slice A0_6 l0_6.length c0_6] 30 (0,0)) (by(with_reducible repeat (first|refine blk_drewN ?_ _|refine blk_drew ?_|refine blk_alloc ?_ _));exact BK113.out) hb);have n2_:=Aside0.mk (below_step (by repeat (first|(with_reducible first|exact HB.out|apply below_alloc|apply pw_below_drewN|apply below_drew1|refine below_set ?_ GE113.out)|exact HB.out)) hb);have n3_:=Aside0.mk (hbox);have n4_:=Aside0.mk ((by rw [hg];exact(below_size (by repeat (first|(with_reducible first|exact HB.out|apply below_alloc|apply pw_below_drewN|apply below_drew1|refine below_set ?_ GE113.out)|exact HB.out))):w.heap.size≤gb120));have n5_:=Aside0.mk ((by rw [hg];exact(below_size (by repeat (first|(with_reducible first|exact HB.out|apply below_alloc|apply pw_below_drewN|apply below_drew1|refine below_set ?_ GE113.out)|exact HB.out))):w.heap.size≤gb120));have n6_:=Aside0.mk ((by rw [hg];exact Nat.ne_of_lt (blk_lt (g:=gb113) (o:=.cells #[.int .i64 a0_0,.int .i64 a0_1,.slice A0_2 l0_2.length c0_2,.slice A0_3 l0_3.length c0_3,.slice A0_4 l0_4.length c0_4,.slice (some ad119) l0_5.length c0_5,.slice A0_6 l0_6.length c0_6] 30 (0,0)) (by(with_reducible repeat (first|refine blk_drewN ?_ _|refine blk_drew ?_|refine blk_alloc ?_ _));exact BK113.out)):gb113≠gb120));have n7_:=Aside0.mk ((by rw [hg];exact Nat.ne_of_gt (blk_lt (g:=gb113) (o:=.cells #[.int .i64 a0_0,.int .i64 a0_1,.slice A0_2 l0_2.length c0_2,.slice A0_3 l0_3.length c0_3,.slice A0_4 l0_4.length c0_4,.slice (some ad119) l0_5.length c0_5,.slice A0_6 l0_6.length c0_6] 30 (0,0)) (by(with_reducible repeat (first|refine blk_drewN ?_ _|refine blk_drew ?_|refine blk_alloc ?_ _));exact BK113.out)):gb120≠gb113));clear HO_3;clear BK113;clear HB;have HO_3:=n0_;have BK113:=n1_;have HB:=n2_;have BK120:=n3_;have GW120:=n4_;have GE120:=n5_;have NB113_120:=n6_;have NB120_113:=n7_;clear n0_ n1_ n2_ n3_ n4_ n5_ n6_ n7_;clear hb hbox hg;have hnb18:=NB120_113.out;have hnc18:=NB113_120.out;have hcz19_0:w17.cell? ⟨gb120,0,none⟩=some (.int .i64 0):=(blk_cell BK120.out 0).trans rfl;have hcz19_1:w17.cell? ⟨gb120,1,none⟩=some (.int .i64 0):=(blk_cell BK120.out 1).trans rfl;have hcz19_2:w17.cell? ⟨gb120,2,none⟩=some (.int .i64 0):=(blk_cell BK120.out 2).trans rfl;have hcz19_3:w17.cell? ⟨gb120,3,none⟩=some (.int .i64 0):=(blk_cell BK120.out 3).trans rfl;have hfz19_0:=blk_frozen BK120.out 0;have hfz19_1:=blk_frozen BK120.out 1;have hfz19_2:=blk_frozen BK120.out 2;have hfz19_3:=blk_frozen BK120.out 3)|((with_reducible refine gate_builtin (b:=.append) (xs:=#[.tmp 33,.tmp 41]) rfl ?_);at_builtin;refine Kd.R_append k72 (w0:=w) w.heap.size rfl (.tmp 33) (.tmp 41) 69 72 (.agg #[(.int .i64 0),(.int .i64 0),(.int .i64 0)]) 24 rfl Tryz.underlying69 info72 rfl (by decide) (by omega) u3 x3_2 (⟨(rd_T38 l0_5 x29_2).f0,(rd_T38 l0_5 x29_2).f1,(rd_T38 l0_5 x29_2).f2⟩:S72) [.int .i64 ((rd_T38 l0_5 x29_2).f0),.int .i64 ((rd_T38 l0_5 x29_2).f1),.int .i64 ((rd_T38 l0_5 x29_2).f2)] (fun _=>True) (fun _=>False) rfl (by first|(go_simp;done)|(go_simp;rfl)) ?aP (fun _ hk=>hk.elim) ?aF ?aO ?aB ?aS ?aL ?_;(case aP=>exact k72_mkM _ _ _ (⟨(rd_T38 l0_5 x29_2).f0,(rd_T38 l0_5 x29_2).f1,(rd_T38 l0_5 x29_2).f2⟩:S72));(case aB=>exact(by repeat (first|(with_reducible first|exact HB.out|apply below_alloc|apply pw_below_drewN|apply below_drew1|refine below_set ?_ GE113.out|refine below_set ?_ GE120.out)|exact HB.out)));(case aF=>exact(fun _ _=>trivial));(case aO=>exact(by(with_reducible repeat (first|apply Kd.R_alloc|apply Kd.R_drewN|apply Kd.R_drew));exact Kd.R_mono (Kd.R_far (p:=⟨gb120,3,none⟩) (Kd.R_far (p:=⟨gb120,2,none⟩) (Kd.R_far (p:=⟨gb120,1,none⟩) (Kd.R_far (p:=⟨gb120,0,none⟩) (Kd.R_types HO_3.out BK120.out (by decide)) (fun _ hk=>hk.2) (.int .i64 ((rd_T38 l0_5 x29_2).f0))) (fun _ hk=>hk.2) (.int .i64 ((rd_T38 l0_5 x29_2).f1))) (fun _ hk=>hk.2) (.int .i64 ((rd_T38 l0_5 x29_2).f2))) (fun _ hk=>hk.2) (.int .i64 ((rd_T38 l0_5 x29_2).f3))) (fun _ hk=>trivial)));(case aS=>exact(below_size (by repeat (first|(with_reducible first|exact HB.out|apply below_alloc|apply pw_below_drewN|apply below_drew1|refine below_set ?_ GE113.out|refine below_set ?_ GE120.out)|exact HB.out))));(case aL=>have:=LMc16.out;omega);intro v122 w20 ho hb hg hat;rw [←Ny121.out] at ho;have n0_:=Aside0.mk (blk_grown (g:=gb113) (o:=.cells #[.int .i64 a0_0,.int .i64 a0_1,.slice A0_2 l0_2.length c0_2,.slice A0_3 l0_3.length c0_3,.slice A0_4 l0_4.length c0_4,.slice (some ad119) l0_5.length c0_5,.slice A0_6 l0_6.length c0_6] 30 (0,0)) (by(with_reducible repeat (first|refine blk_drewN ?_ _|refine blk_drew ?_|refine blk_alloc ?_ _));refine blk_far ?_ NB113_120.out _;(with_reducible repeat (first|refine blk_drewN ?_ _|refine blk_drew ?_|refine blk_alloc ?_ _));refine blk_far ?_ NB113_120.out _;(with_reducible repeat (first|refine blk_drewN ?_ _|refine blk_drew ?_|refine blk_alloc ?_ _));refine blk_far ?_ NB113_120.out _;(with_reducible repeat (first|refine blk_drewN ?_ _|refine blk_drew ?_|refine blk_alloc ?_ _));refine blk_far ?_ NB113_120.out _;(with_reducible repeat (first|refine blk_drewN ?_ _|refine blk_drew ?_|refine blk_alloc ?_ _));exact BK113.out) hg (Kd.R_ne HO_3.out BK113.out (by decide)));have n1_:=Aside0.mk (blk_grown (g:=gb120) (o:=.cells #[.int .i64 ((rd_T38 l0_5 x29_2).f0),.int .i64 ((rd_T38 l0_5 x29_2).f1),.int .i64 ((rd_T38 l0_5 x29_2).f2),.int .i64 ((rd_T38 l0_5 x29_2).f3)] 38 (0,0)) (by(with_reducible repeat (first|refine blk_drewN ?_ _|refine blk_drew ?_|refine blk_alloc ?_ _));refine blk_put (cs:=#[.int .i64 ((rd_T38 l0_5 x29_2).f0),.int .i64 ((rd_T38 l0_5 x29_2).f1),.int .i64 ((rd_T38 l0_5 x29_2).f2),.int .i64 0]) ?_ 3 _ rfl;(with_reducible repeat (first|refine blk_drewN ?_ _|refine blk_drew ?_|refine blk_alloc ?_ _));refine blk_put (cs:=#[.int .i64 ((rd_T38 l0_5 x29_2).f0),.int .i64 ((rd_T38 l0_5 x29_2).f1),.int .i64 0,.int .i64 0]) ?_ 2 _ rfl;(with_reducible repeat (first|refine blk_drewN ?_ _|refine blk_drew ?_|refine blk_alloc ?_ _));refine blk_put (cs:=#[.int .i64 ((rd_T38 l0_5 x29_2).f0),.int .i64 0,.int .i64 0,.int .i64 0]) ?_ 1 _ rfl;(with_reducible repeat (first|refine blk_drewN ?_ _|refine blk_drew ?_|refine blk_alloc ?_ _));refine blk_put (cs:=#[.int .i64 0,.int .i64 0,.int .i64 0,.int .i64 0]) ?_ 0 _ rfl;(with_reducible repeat (first|refine blk_drewN ?_ _|refine blk_drew ?_|refine blk_alloc ?_ _));exact BK120.out) hg (Kd.R_ne HO_3.out BK120.out (by decide)));have n2_:=Aside0.mk (hb);have n3_:=Aside0.mk (ho);clear BK113;clear BK120;clear HB;clear HO_3;have BK113:=n0_;have BK120:=n1_;have HB:=n2_;have HO123:=n3_;clear n0_ n1_ n2_ n3_;clear ho hb hg hat))
       go_roundg k2
       case measure=>have:=HK1.out;have:=HK2.out;omega
       case rel=>exact⟨(y121),(wrap64 (x29_2+1)),(by first|rfl|(simp;done)|(simp [*];done)),H',⟨by have:=HK1.out;have:=HK2.out;omega⟩,⟨by(with_reducible repeat (first|apply Kd.R_alloc|apply Kd.R_drewN|apply Kd.R_drew));exact HO123.out⟩,⟨by(with_reducible repeat (first|refine blk_drewN ?_ _|refine blk_drew ?_|refine blk_alloc ?_ _));exact BK113.out⟩,⟨by repeat (first|(with_reducible first|exact HB.out|apply below_alloc|apply pw_below_drewN|apply below_drew1|refine below_set ?_ GE113.out|refine below_set ?_ GE120.out)|exact HB.out)⟩⟩
      rw [if_neg c16] at H
      exact absurd H (by simp)
     rw [if_neg c15] at H
     exact absurd H (by simp)
    rw [if_neg c14] at H
    exact absurd H (by simp)
   rw [if_neg c13] at H
   have c13b0:decide (x29_2 < (l0_5.length:Int))=false:=decide_eq_false c13
   clear c13
   have H':=Aside0.mk H
   clear H
   have hcz21_0:wr.cell? ⟨gb113,0,none⟩=some (.int .i64 a0_0):=(blk_cell BK113.out 0).trans rfl
   have hcz21_1:wr.cell? ⟨gb113,1,none⟩=some (.int .i64 a0_1):=(blk_cell BK113.out 1).trans rfl
   have hcz21_2:wr.cell? ⟨gb113,2,none⟩=some (.slice A0_2 l0_2.length c0_2):=(blk_cell BK113.out 2).trans rfl
   have hcz21_3:wr.cell? ⟨gb113,3,none⟩=some (.slice A0_3 l0_3.length c0_3):=(blk_cell BK113.out 3).trans rfl
   have hcz21_4:wr.cell? ⟨gb113,4,none⟩=some (.slice A0_4 l0_4.length c0_4):=(blk_cell BK113.out 4).trans rfl
   have hcz21_5:wr.cell? ⟨gb113,5,none⟩=some (.slice A0_5 l0_5.length c0_5):=(blk_cell BK113.out 5).trans rfl
   have hcz21_6:wr.cell? ⟨gb113,6,none⟩=some (.slice A0_6 l0_6.length c0_6):=(blk_cell BK113.out 6).trans rfl
   have hfz21_0:=blk_frozen BK113.out 0
   have hfz21_1:=blk_frozen BK113.out 1
   have hfz21_2:=blk_frozen BK113.out 2
   have hfz21_3:=blk_frozen BK113.out 3
   have hfz21_4:=blk_frozen BK113.out 4
   have hfz21_5:=blk_frozen BK113.out 5
   have hfz21_6:=blk_frozen BK113.out 6
   go_wp2
   go_loopg [3,47] k2 (fun kq v3 v47 w'=>∃(x3_3:List (S72)) (x47_3:Int),v47=.int .i64 x47_3∧Aside0 (auto_ways.l2 kq x3_3 l0_6 (l0_6.length:Int) x47_3=some r)∧Aside0 (kq≤k2)∧Aside0 (Kd.R k72 72 w' w.heap.size (fun _=>True) v3 x3_3)∧Aside0 (w'.heap[gb113]? = some (.cells #[.int .i64 a0_0,.int .i64 a0_1,(.slice A0_2 l0_2.length c0_2),(.slice A0_3 l0_3.length c0_3),(.slice A0_4 l0_4.length c0_4),(.slice A0_5 l0_5.length c0_5),(.slice A0_6 l0_6.length c0_6)] 30 (0,0)))∧Aside0 (Below w.heap.size w w'))
   case atStart=>exact⟨(x3_2),(0),(by first|rfl|(simp;done)|(simp [*];done)),H',⟨Nat.le_refl _⟩,⟨by(with_reducible repeat (first|apply Kd.R_alloc|apply Kd.R_drewN|apply Kd.R_drew));exact HO_3.out⟩,⟨by(with_reducible repeat (first|refine blk_drewN ?_ _|refine blk_drew ?_|refine blk_alloc ?_ _));exact BK113.out⟩,⟨by repeat (first|(with_reducible first|exact HB.out|apply below_alloc|apply pw_below_drewN|apply below_drew1|refine below_set ?_ GE113.out)|exact HB.out)⟩⟩
   case' round=>skip
   clear H'
   try clear c1
   try clear p1
   try clear q1
   try clear hx1
   try clear p2
   try clear c3
   try clear c4
   try clear c4b0
   try clear c5
   try clear c5b0
   try clear c6
   try clear c6b0
   try clear p6
   try clear c7
   try clear c9
   try clear p11
   try clear q11
   try clear hx11
   try clear c13
   try clear c13b0
   try clear c14
   try clear c14b0
   try clear c15
   try clear c15b0
   try clear c16
   try clear c18
   try clear hcz10_0
   try clear hcz10_1
   try clear hcz10_2
   try clear hcz10_3
   try clear hcz12_0
   try clear hcz12_1
   try clear hcz12_2
   try clear hcz12_3
   try clear hcz12_4
   try clear hcz12_5
   try clear hcz12_6
   try clear hcz19_0
   try clear hcz19_1
   try clear hcz19_2
   try clear hcz19_3
   try clear hcz21_0
   try clear hcz21_1
   try clear hcz21_2
   try clear hcz21_3
   try clear hcz21_4
   try clear hcz21_5
   try clear hcz21_6
   try clear hcz3_0
   try clear hcz3_1
   try clear hcz3_2
   try clear hcz3_3
   try clear hcz3_4
   try clear hcz3_5
   try clear hcz3_6
   try clear hfz10_0
   try clear hfz10_1
   try clear hfz10_2
   try clear hfz10_3
   try clear hfz12_0
   try clear hfz12_1
   try clear hfz12_2
   try clear hfz12_3
   try clear hfz12_4
   try clear hfz12_5
   try clear hfz12_6
   try clear hfz19_0
   try clear hfz19_1
   try clear hfz19_2
   try clear hfz19_3
   try clear hfz21_0
   try clear hfz21_1
   try clear hfz21_2
   try clear hfz21_3
   try clear hfz21_4
   try clear hfz21_5
   try clear hfz21_6
   try clear hfz3_0
   try clear hfz3_1
   try clear hfz3_2
   try clear hfz3_3
   try clear hfz3_4
   try clear hfz3_5
   try clear hfz3_6
   try clear hx114_0
   try clear hx114_1
   try clear hx114_2
   try clear hx114_3
   try clear hx119_0
   try clear hx119_1
   try clear hx119_2
   try clear hx119_3
   try clear p1
   try clear p11
   try clear p114
   try clear p119
   try clear p2
   try clear p6
   try clear q1
   try clear q11
   try clear q114
   try clear q119
   obtain⟨x3_3,x47_3,rfl,HA,HK3,HO_3,BK113,HB⟩:=hrel
   cases gk with
   | zero=>exact absurd HA.out (by simp [auto_ways.l2])
   | succ k3=>
    have H:=HA.out
    clear HA
    simp only [auto_ways.l2] at H
    by_cases c22:x47_3 < (l0_6.length:Int)
    ·rw [if_pos c22] at H
     have c22b0:decide (x47_3 < (l0_6.length:Int))=true:=decide_eq_true c22
     clear c22
     by_cases c23:0≤x47_3
     ·rw [if_pos c23] at H
      have c23b0:decide (0≤x47_3)=true:=decide_eq_true c23
      clear c23
      by_cases c24:x47_3 < (l0_6.length:Int)
      ·rw [if_pos c24] at H
       have c24b0:decide (x47_3 < (l0_6.length:Int))=true:=decide_eq_true c24
       clear c24
       by_cases c25:x3_3.length < 5864062014805
       ·rw [if_pos c25] at H
        have LMc25:=Aside0.mk c25
        clear c25
        obtain⟨y126,hy126⟩:∃y_:List (S72),y_=(x3_3 ++ [(⟨(rd_T40 l0_6 x47_3).f0,(rd_T40 l0_6 x47_3).f1,0⟩:S72)]):=⟨_,rfl⟩
        replace H:(auto_ways.l2 k3 y126 l0_6 (l0_6.length:Int) (wrap64 (x47_3+1)))=some r:=by first|(rw [hy126];with_reducible exact H)|(have H2_:=(Option.bind_some _ _).symm.trans H;rw [hy126];with_reducible exact H2_)|(have H2_:=(Option.bind_some _ _).symm.trans H;with_reducible exact H2_)|with_reducible exact H|(rw [hy126];exact H)|exact H
        have Ny126:=Aside0.mk hy126
        clear hy126
        have H':=Aside0.mk H
        clear H
        have p124:0≤(x47_3:Int):=of_decide_eq_true (by first|(with_reducible assumption)|assumption)
        have q124:x47_3 < (l0_6.length:Int):=of_decide_eq_true (by first|(with_reducible assumption)|assumption)
        obtain⟨ad124,e124,hx124_0,hx124_1,hx124_2⟩:=at_T40 HR0_6.out x47_3 p124 q124
        cases e124
        replace hx124_0:=(HB.out.cell (World.block_lt_of_cell? w _ hx124_0)).trans hx124_0
        replace hx124_1:=(HB.out.cell (World.block_lt_of_cell? w _ hx124_1)).trans hx124_1
        replace hx124_2:=(HB.out.cell (World.block_lt_of_cell? w _ hx124_2)).trans hx124_2
        replace p124:=eq_true p124
        replace q124:=eq_true q124
        go_wp2_with (first|((with_reducible refine gate_dst (N:=9) rfl ?_);refine box_event ?hg (N:=9) ?hd (cs:=#[.int .i64 0,.int .i64 0,.int .i64 0]) (t:=40) ?hr ?_;(case hd=>rfl);(case hg=>rfl);(case hr=>first|(go_simp;done)|(go_simp;rfl));intro gb125 hg w26 hbox hb;have n0_:=Aside0.mk (Kd.R_below (by(with_reducible repeat (first|apply Kd.R_alloc|apply Kd.R_drewN|apply Kd.R_drew));exact HO_3.out) hb);have n1_:=Aside0.mk (blk_below (g:=gb113) (o:=.cells #[.int .i64 a0_0,.int .i64 a0_1,.slice A0_2 l0_2.length c0_2,.slice A0_3 l0_3.length c0_3,.slice A0_4 l0_4.length c0_4,.slice A0_5 l0_5.length c0_5,.slice (some ad124) l0_6.length c0_6] 30 (0,0)) (by(with_reducible repeat (first|refine blk_drewN ?_ _|refine blk_drew ?_|refine blk_alloc ?_ _));exact BK113.out) hb);have n2_:=Aside0.mk (below_step (by repeat (first|(with_reducible first|exact HB.out|apply below_alloc|apply pw_below_drewN|apply below_drew1|refine below_set ?_ GE113.out)|exact HB.out)) hb);have n3_:=Aside0.mk (hbox);have n4_:=Aside0.mk ((by rw [hg];exact(below_size (by repeat (first|(with_reducible first|exact HB.out|apply below_alloc|apply pw_below_drewN|apply below_drew1|refine below_set ?_ GE113.out)|exact HB.out))):w.heap.size≤gb125));have n5_:=Aside0.mk ((by rw [hg];exact(below_size (by repeat (first|(with_reducible first|exact HB.out|apply below_alloc|apply pw_below_drewN|apply below_drew1|refine below_set ?_ GE113.out)|exact HB.out))):w.heap.size≤gb125));have n6_:=Aside0.mk ((by rw [hg];exact Nat.ne_of_lt (blk_lt (g:=gb113) (o:=.cells #[.int .i64 a0_0,.int .i64 a0_1,.slice A0_2 l0_2.length c0_2,.slice A0_3 l0_3.length c0_3,.slice A0_4 l0_4.length c0_4,.slice A0_5 l0_5.length c0_5,.slice (some ad124) l0_6.length c0_6] 30 (0,0)) (by(with_reducible repeat (first|refine blk_drewN ?_ _|refine blk_drew ?_|refine blk_alloc ?_ _));exact BK113.out)):gb113≠gb125));have n7_:=Aside0.mk ((by rw [hg];exact Nat.ne_of_gt (blk_lt (g:=gb113) (o:=.cells #[.int .i64 a0_0,.int .i64 a0_1,.slice A0_2 l0_2.length c0_2,.slice A0_3 l0_3.length c0_3,.slice A0_4 l0_4.length c0_4,.slice A0_5 l0_5.length c0_5,.slice (some ad124) l0_6.length c0_6] 30 (0,0)) (by(with_reducible repeat (first|refine blk_drewN ?_ _|refine blk_drew ?_|refine blk_alloc ?_ _));exact BK113.out)):gb125≠gb113));clear HO_3;clear BK113;clear HB;have HO_3:=n0_;have BK113:=n1_;have HB:=n2_;have BK125:=n3_;have GW125:=n4_;have GE125:=n5_;have NB113_125:=n6_;have NB125_113:=n7_;clear n0_ n1_ n2_ n3_ n4_ n5_ n6_ n7_;clear hb hbox hg;have hnb27:=NB125_113.out;have hnc27:=NB113_125.out;have hcz28_0:w26.cell? ⟨gb125,0,none⟩=some (.int .i64 0):=(blk_cell BK125.out 0).trans rfl;have hcz28_1:w26.cell? ⟨gb125,1,none⟩=some (.int .i64 0):=(blk_cell BK125.out 1).trans rfl;have hcz28_2:w26.cell? ⟨gb125,2,none⟩=some (.int .i64 0):=(blk_cell BK125.out 2).trans rfl;have hfz28_0:=blk_frozen BK125.out 0;have hfz28_1:=blk_frozen BK125.out 1;have hfz28_2:=blk_frozen BK125.out 2)|((with_reducible refine gate_builtin (b:=.append) (xs:=#[.tmp 51,.tmp 57]) rfl ?_);at_builtin;refine Kd.R_append k72 (w0:=w) w.heap.size rfl (.tmp 51) (.tmp 57) 69 72 (.agg #[(.int .i64 0),(.int .i64 0),(.int .i64 0)]) 24 rfl Tryz.underlying69 info72 rfl (by decide) (by omega) u3 x3_3 (⟨(rd_T40 l0_6 x47_3).f0,(rd_T40 l0_6 x47_3).f1,0⟩:S72) [.int .i64 ((rd_T40 l0_6 x47_3).f0),.int .i64 ((rd_T40 l0_6 x47_3).f1),.int .i64 0] (fun _=>True) (fun _=>False) rfl (by first|(go_simp;done)|(go_simp;rfl)) ?aP (fun _ hk=>hk.elim) ?aF ?aO ?aB ?aS ?aL ?_;(case aP=>exact k72_mkM _ _ _ (⟨(rd_T40 l0_6 x47_3).f0,(rd_T40 l0_6 x47_3).f1,0⟩:S72));(case aB=>exact(by repeat (first|(with_reducible first|exact HB.out|apply below_alloc|apply pw_below_drewN|apply below_drew1|refine below_set ?_ GE113.out|refine below_set ?_ GE125.out)|exact HB.out)));(case aF=>exact(fun _ _=>trivial));(case aO=>exact(by(with_reducible repeat (first|apply Kd.R_alloc|apply Kd.R_drewN|apply Kd.R_drew));exact Kd.R_mono (Kd.R_far (p:=⟨gb125,2,none⟩) (Kd.R_far (p:=⟨gb125,1,none⟩) (Kd.R_far (p:=⟨gb125,0,none⟩) (Kd.R_types HO_3.out BK125.out (by decide)) (fun _ hk=>hk.2) (.int .i64 ((rd_T40 l0_6 x47_3).f0))) (fun _ hk=>hk.2) (.int .i64 ((rd_T40 l0_6 x47_3).f1))) (fun _ hk=>hk.2) (.int .i64 ((rd_T40 l0_6 x47_3).f2))) (fun _ hk=>trivial)));(case aS=>exact(below_size (by repeat (first|(with_reducible first|exact HB.out|apply below_alloc|apply pw_below_drewN|apply below_drew1|refine below_set ?_ GE113.out|refine below_set ?_ GE125.out)|exact HB.out))));(case aL=>have:=LMc25.out;omega);intro v127 w29 ho hb hg hat;rw [←Ny126.out] at ho;have n0_:=Aside0.mk (blk_grown (g:=gb113) (o:=.cells #[.int .i64 a0_0,.int .i64 a0_1,.slice A0_2 l0_2.length c0_2,.slice A0_3 l0_3.length c0_3,.slice A0_4 l0_4.length c0_4,.slice A0_5 l0_5.length c0_5,.slice (some ad124) l0_6.length c0_6] 30 (0,0)) (by(with_reducible repeat (first|refine blk_drewN ?_ _|refine blk_drew ?_|refine blk_alloc ?_ _));refine blk_far ?_ NB113_125.out _;(with_reducible repeat (first|refine blk_drewN ?_ _|refine blk_drew ?_|refine blk_alloc ?_ _));refine blk_far ?_ NB113_125.out _;(with_reducible repeat (first|refine blk_drewN ?_ _|refine blk_drew ?_|refine blk_alloc ?_ _));refine blk_far ?_ NB113_125.out _;(with_reducible repeat (first|refine blk_drewN ?_ _|refine blk_drew ?_|refine blk_alloc ?_ _));exact BK113.out) hg (Kd.R_ne HO_3.out BK113.out (by decide)));have n1_:=Aside0.mk (blk_grown (g:=gb125) (o:=.cells #[.int .i64 ((rd_T40 l0_6 x47_3).f0),.int .i64 ((rd_T40 l0_6 x47_3).f1),.int .i64 ((rd_T40 l0_6 x47_3).f2)] 40 (0,0)) (by(with_reducible repeat (first|refine blk_drewN ?_ _|refine blk_drew ?_|refine blk_alloc ?_ _));refine blk_put (cs:=#[.int .i64 ((rd_T40 l0_6 x47_3).f0),.int .i64 ((rd_T40 l0_6 x47_3).f1),.int .i64 0]) ?_ 2 _ rfl;(with_reducible repeat (first|refine blk_drewN ?_ _|refine blk_drew ?_|refine blk_alloc ?_ _));refine blk_put (cs:=#[.int .i64 ((rd_T40 l0_6 x47_3).f0),.int .i64 0,.int .i64 0]) ?_ 1 _ rfl;(with_reducible repeat (first|refine blk_drewN ?_ _|refine blk_drew ?_|refine blk_alloc ?_ _));refine blk_put (cs:=#[.int .i64 0,.int .i64 0,.int .i64 0]) ?_ 0 _ rfl;(with_reducible repeat (first|refine blk_drewN ?_ _|refine blk_drew ?_|refine blk_alloc ?_ _));exact BK125.out) hg (Kd.R_ne HO_3.out BK125.out (by decide)));have n2_:=Aside0.mk (hb);have n3_:=Aside0.mk (ho);clear BK113;clear BK125;clear HB;clear HO_3;have BK113:=n0_;have BK125:=n1_;have HB:=n2_;have HO128:=n3_;clear n0_ n1_ n2_ n3_;clear ho hb hg hat))
        go_roundg k3
        case measure=>have:=HK1.out;have:=HK2.out;have:=HK3.out;omega
        case rel=>exact⟨(y126),(wrap64 (x47_3+1)),(by first|rfl|(simp;done)|(simp [*];done)),H',⟨by have:=HK1.out;have:=HK2.out;have:=HK3.out;omega⟩,⟨by(with_reducible repeat (first|apply Kd.R_alloc|apply Kd.R_drewN|apply Kd.R_drew));exact HO128.out⟩,⟨by(with_reducible repeat (first|refine blk_drewN ?_ _|refine blk_drew ?_|refine blk_alloc ?_ _));exact BK113.out⟩,⟨by repeat (first|(with_reducible first|exact HB.out|apply below_alloc|apply pw_below_drewN|apply below_drew1|refine below_set ?_ GE113.out|refine below_set ?_ GE125.out)|exact HB.out)⟩⟩
       rw [if_neg c25] at H
       exact absurd H (by simp)
      rw [if_neg c24] at H
      exact absurd H (by simp)
     rw [if_neg c23] at H
     exact absurd H (by simp)
    rw [if_neg c22] at H
    have c22b0:decide (x47_3 < (l0_6.length:Int))=false:=decide_eq_false c22
    clear c22
    obtain rfl:=Option.some.inj H
    go_wp2
    go_ret
    exact⟨_,by first|rfl|(simp [errW_none,errW_some]<;>rfl)|(simp [*,errW_none,errW_some]<;>rfl),by(with_reducible repeat (first|apply Kd.R_alloc|apply Kd.R_drewN|apply Kd.R_drew));exact HO_3.out,by repeat (first|(with_reducible first|exact HB.out|apply below_alloc|apply pw_below_drewN|apply below_drew1|refine below_set ?_ GE113.out)|exact HB.out)⟩
end Go.Proofs.YtejpijgfpbcibaaGreat.P
