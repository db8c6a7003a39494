/- Words and walks of this claim: PCanopylaw1Syms. -/
import Derived.Test.YtejpijgfpbcibaaGreatRMFar
import Derived.Test.YtejpijgfpbcibaaGreatRP0Etc
set_option linter.unusedVariables false
set_option linter.unusedSimpArgs false
set_option linter.unnecessarySimpa false
namespace Go.Proofs.YtejpijgfpbcibaaGreat.P
open Go.RowKit Go.Proofs.YtejpijgfpbcibaaGreatW.PrintWords Go.Proofs.YtejpijgfpbcibaaGreatW.PrintLast Go.Proofs.YtejpijgfpbcibaaGreatW.PrintMore
attribute [local go_sem] max2_int min2_int max_two min_two max_three min_three max_four min_four   -- for this text's walks alone
def canopylaw1_Syms.f (a0:Int) (l1:List Int):Option ((List (S51))):=(some (([(⟨(⟨#[97]⟩:ByteArray),1⟩:S51),(⟨(⟨#[97]⟩:ByteArray),2⟩:S51),(⟨(⟨#[98]⟩:ByteArray),3⟩:S51),(⟨(⟨#[99]⟩:ByteArray),1⟩:S51),(⟨(⟨#[99]⟩:ByteArray),2⟩:S51),(⟨(⟨#[100]⟩:ByteArray),3⟩:S51),(⟨(⟨#[120]⟩:ByteArray),2⟩:S51)]:List (S51)):List (S51))).bind fun y184=>((canopylaw1_within.f a0 5).bind fun t187=>((canopylaw1_within.f a0 7).bind fun t188=>(if t188=1 then (if 2 < (y184.length:Int) then (if 1 < (y184.length:Int) then (if 0 < (y184.length:Int) then (some (([(⟨(rd_T51 y184 2).f0,(rd_T51 y184 2).f1⟩:S51),(⟨(rd_T51 y184 1).f0,(rd_T51 y184 1).f1⟩:S51),(⟨(rd_T51 y184 0).f0,(rd_T51 y184 0).f1⟩:S51)]:List (S51)))) else (none)) else (none)) else (none)) else ((canopylaw1_within.f a0 11).bind fun t195=>(if t195=2 then (if (l1.length:Int) > 0 then (if 0 < (l1.length:Int) then ((canopylaw1_within.f (rd l1 0) 7).bind fun t197=>(if 0≤t197 then (if t197 < (y184.length:Int) then (some (([(⟨(rd_T51 y184 t197).f0,(rd_T51 y184 t197).f1⟩:S51)]:List (S51)))) else (none)) else (none))) else (none)) else (if 0≤(wrap64 (3+t187)) then (if (wrap64 (3+t187))≤(y184.length:Int) then (some (y184.take ((wrap64 (3+t187)):Int).toNat)) else (none)) else (none))) else (if 0≤(wrap64 (3+t187)) then (if (wrap64 (3+t187))≤(y184.length:Int) then (some (y184.take ((wrap64 (3+t187)):Int).toNat)) else (none)) else (none)))))))
def canopylaw1_Syms.T4:Bool × List (List Nat × List Nat):=(true,[([],[]),([0],[0]),([1],[1]),([],[]),([3],[3]),([4],[4]),([],[]),([6],[6]),([7],[7]),([2,5,8],[2,5,8]),([9,0,1,2,3,4,5,6,7,8,9],[9])])
def canopylaw1_Syms.B4:List Nat:=[0,1,3,0,8,24,0,64,192,511,1023]
theorem canopylaw1_Syms.tab4:rtab .any (opsOf Tryz.f13 4)=canopylaw1_Syms.T4:=by kernel_rfl
theorem canopylaw1_Syms.bits4:waitsOk canopylaw1_Syms.T4.2 canopylaw1_Syms.B4=true:=by kernel_rfl
set_option maxHeartbeats 8000000 in
set_option maxRecDepth 100000 in
theorem canopylaw1_Syms.calls (a0:Int) (A1:Option Addr) (c1:Nat) (l1:List Int) (r:List (S51)) (w:World) (hr1:Kd.C (Kd.int .i64) w A1 l1.length l1) (hc1:l1.length≤c1) (h:canopylaw1_Syms.f a0 l1=some r) :
 Calls Tryz.prog 13 #[.int .i64 a0,.slice A1 l1.length c1] w fun e w'=>∃v0_:Value,e=.returned (v0_)∧Kd.R k51 51 w' w.heap.size (fun _=>True) v0_ r∧Below w.heap.size w w':=by
 have hu51:=Tryz.underlying51
 have HR1:=Aside0.mk hr1
 have HC1:=Aside0.mk hc1
 clear hr1 hc1
 have HB:=Aside0.mk (Below.refl w.heap.size w)
 have H:((some (([(⟨(⟨#[97]⟩:ByteArray),1⟩:S51),(⟨(⟨#[97]⟩:ByteArray),2⟩:S51),(⟨(⟨#[98]⟩:ByteArray),3⟩:S51),(⟨(⟨#[99]⟩:ByteArray),1⟩:S51),(⟨(⟨#[99]⟩:ByteArray),2⟩:S51),(⟨(⟨#[100]⟩:ByteArray),3⟩:S51),(⟨(⟨#[120]⟩:ByteArray),2⟩:S51)]:List (S51)):List (S51))).bind fun y184=>((canopylaw1_within.f a0 5).bind fun t187=>((canopylaw1_within.f a0 7).bind fun t188=>(if t188=1 then (if 2 < (y184.length:Int) then (if 1 < (y184.length:Int) then (if 0 < (y184.length:Int) then (some (([(⟨(rd_T51 y184 2).f0,(rd_T51 y184 2).f1⟩:S51),(⟨(rd_T51 y184 1).f0,(rd_T51 y184 1).f1⟩:S51),(⟨(rd_T51 y184 0).f0,(rd_T51 y184 0).f1⟩:S51)]:List (S51)))) else (none)) else (none)) else (none)) else ((canopylaw1_within.f a0 11).bind fun t195=>(if t195=2 then (if (l1.length:Int) > 0 then (if 0 < (l1.length:Int) then ((canopylaw1_within.f (rd l1 0) 7).bind fun t197=>(if 0≤t197 then (if t197 < (y184.length:Int) then (some (([(⟨(rd_T51 y184 t197).f0,(rd_T51 y184 t197).f1⟩:S51)]:List (S51)))) else (none)) else (none))) else (none)) else (if 0≤(wrap64 (3+t187)) then (if (wrap64 (3+t187))≤(y184.length:Int) then (some (y184.take ((wrap64 (3+t187)):Int).toNat)) else (none)) else (none))) else (if 0≤(wrap64 (3+t187)) then (if (wrap64 (3+t187))≤(y184.length:Int) then (some (y184.take ((wrap64 (3+t187)):Int).toNat)) else (none)) else (none))))))))=some r:=h
 clear h
 obtain⟨y184,hy184⟩:∃y_:List (S51),y_=(([(⟨(⟨#[97]⟩:ByteArray),1⟩:S51),(⟨(⟨#[97]⟩:ByteArray),2⟩:S51),(⟨(⟨#[98]⟩:ByteArray),3⟩:S51),(⟨(⟨#[99]⟩:ByteArray),1⟩:S51),(⟨(⟨#[99]⟩:ByteArray),2⟩:S51),(⟨(⟨#[100]⟩:ByteArray),3⟩:S51),(⟨(⟨#[120]⟩:ByteArray),2⟩:S51)]:List (S51))):=⟨_,rfl⟩
 replace H:((canopylaw1_within.f a0 5).bind fun t187=>((canopylaw1_within.f a0 7).bind fun t188=>(if t188=1 then (if 2 < (y184.length:Int) then (if 1 < (y184.length:Int) then (if 0 < (y184.length:Int) then (some (([(⟨(rd_T51 y184 2).f0,(rd_T51 y184 2).f1⟩:S51),(⟨(rd_T51 y184 1).f0,(rd_T51 y184 1).f1⟩:S51),(⟨(rd_T51 y184 0).f0,(rd_T51 y184 0).f1⟩:S51)]:List (S51)))) else (none)) else (none)) else (none)) else ((canopylaw1_within.f a0 11).bind fun t195=>(if t195=2 then (if (l1.length:Int) > 0 then (if 0 < (l1.length:Int) then ((canopylaw1_within.f (rd l1 0) 7).bind fun t197=>(if 0≤t197 then (if t197 < (y184.length:Int) then (some (([(⟨(rd_T51 y184 t197).f0,(rd_T51 y184 t197).f1⟩:S51)]:List (S51)))) else (none)) else (none))) else (none)) else (if 0≤(wrap64 (3+t187)) then (if (wrap64 (3+t187))≤(y184.length:Int) then (some (y184.take ((wrap64 (3+t187)):Int).toNat)) else (none)) else (none))) else (if 0≤(wrap64 (3+t187)) then (if (wrap64 (3+t187))≤(y184.length:Int) then (some (y184.take ((wrap64 (3+t187)):Int).toNat)) else (none)) else (none)))))))=some r:=by first|(rw [hy184];with_reducible exact H)|(have H2_:=(Option.bind_some _ _).symm.trans H;rw [hy184];with_reducible exact H2_)|(have H2_:=(Option.bind_some _ _).symm.trans H;with_reducible exact H2_)|with_reducible exact H|(rw [hy184];exact H)|exact H
 have Ny184:=Aside0.mk hy184
 clear hy184
 replace H:=Option.bind_eq_some_iff.mp H
 obtain⟨t187,A30,H⟩:=H
 replace H:((canopylaw1_within.f a0 7).bind fun t188=>(if t188=1 then (if 2 < (y184.length:Int) then (if 1 < (y184.length:Int) then (if 0 < (y184.length:Int) then (some (([(⟨(rd_T51 y184 2).f0,(rd_T51 y184 2).f1⟩:S51),(⟨(rd_T51 y184 1).f0,(rd_T51 y184 1).f1⟩:S51),(⟨(rd_T51 y184 0).f0,(rd_T51 y184 0).f1⟩:S51)]:List (S51)))) else (none)) else (none)) else (none)) else ((canopylaw1_within.f a0 11).bind fun t195=>(if t195=2 then (if (l1.length:Int) > 0 then (if 0 < (l1.length:Int) then ((canopylaw1_within.f (rd l1 0) 7).bind fun t197=>(if 0≤t197 then (if t197 < (y184.length:Int) then (some (([(⟨(rd_T51 y184 t197).f0,(rd_T51 y184 t197).f1⟩:S51)]:List (S51)))) else (none)) else (none))) else (none)) else (if 0≤(wrap64 (3+t187)) then (if (wrap64 (3+t187))≤(y184.length:Int) then (some (y184.take ((wrap64 (3+t187)):Int).toNat)) else (none)) else (none))) else (if 0≤(wrap64 (3+t187)) then (if (wrap64 (3+t187))≤(y184.length:Int) then (some (y184.take ((wrap64 (3+t187)):Int).toNat)) else (none)) else (none))))))=some r:=H
 have A3:=Aside0.mk A30
 clear A30
 replace H:=Option.bind_eq_some_iff.mp H
 obtain⟨t188,A40,H⟩:=H
 replace H:(if t188=1 then (if 2 < (y184.length:Int) then (if 1 < (y184.length:Int) then (if 0 < (y184.length:Int) then (some (([(⟨(rd_T51 y184 2).f0,(rd_T51 y184 2).f1⟩:S51),(⟨(rd_T51 y184 1).f0,(rd_T51 y184 1).f1⟩:S51),(⟨(rd_T51 y184 0).f0,(rd_T51 y184 0).f1⟩:S51)]:List (S51)))) else (none)) else (none)) else (none)) else ((canopylaw1_within.f a0 11).bind fun t195=>(if t195=2 then (if (l1.length:Int) > 0 then (if 0 < (l1.length:Int) then ((canopylaw1_within.f (rd l1 0) 7).bind fun t197=>(if 0≤t197 then (if t197 < (y184.length:Int) then (some (([(⟨(rd_T51 y184 t197).f0,(rd_T51 y184 t197).f1⟩:S51)]:List (S51)))) else (none)) else (none))) else (none)) else (if 0≤(wrap64 (3+t187)) then (if (wrap64 (3+t187))≤(y184.length:Int) then (some (y184.take ((wrap64 (3+t187)):Int).toNat)) else (none)) else (none))) else (if 0≤(wrap64 (3+t187)) then (if (wrap64 (3+t187))≤(y184.length:Int) then (some (y184.take ((wrap64 (3+t187)):Int).toNat)) else (none)) else (none)))))=some r:=H
 have A4:=Aside0.mk A40
 clear A40
 by_cases c5:t188=1
 ·rw [if_pos c5] at H
  have c5b0:(t188 == 1)=true:=beq_iff_eq.mpr c5
  have c5b1:(t188 != 1)=false:=bne_eq_false_iff_eq.mpr c5
  clear c5
  by_cases c6:2 < (y184.length:Int)
  ·rw [if_pos c6] at H
   have c6b0:decide (2 < (y184.length:Int))=true:=decide_eq_true c6
   have c6b1:decide (2 < y184.length)=true:=decide_eq_true (by omega)
   clear c6
   by_cases c7:1 < (y184.length:Int)
   ·rw [if_pos c7] at H
    have c7b0:decide (1 < (y184.length:Int))=true:=decide_eq_true c7
    have c7b1:decide (1 < y184.length)=true:=decide_eq_true (by omega)
    clear c7
    by_cases c8:0 < (y184.length:Int)
    ·rw [if_pos c8] at H
     have c8b0:decide (0 < (y184.length:Int))=true:=decide_eq_true c8
     have c8b1:decide (0 < y184.length)=true:=decide_eq_true (by omega)
     clear c8
     obtain⟨y192,hy192⟩:∃y_:List (S51),y_=(([(⟨(rd_T51 y184 2).f0,(rd_T51 y184 2).f1⟩:S51),(⟨(rd_T51 y184 1).f0,(rd_T51 y184 1).f1⟩:S51),(⟨(rd_T51 y184 0).f0,(rd_T51 y184 0).f1⟩:S51)]:List (S51))):=⟨_,rfl⟩
     replace H:(some y192)=some r:=by first|(rw [hy192];with_reducible exact H)|(have H2_:=(Option.bind_some _ _).symm.trans H;rw [hy192];with_reducible exact H2_)|(have H2_:=(Option.bind_some _ _).symm.trans H;with_reducible exact H2_)|with_reducible exact H|(rw [hy192];exact H)|exact H
     have Ny192:=Aside0.mk hy192
     clear hy192
     obtain rfl:=Option.some.inj H
     go_enter Tryz.func13,Tryz.ntmps13
     try go_wp2_with (first|((with_reducible refine gate_dst (N:=14) rfl ?_);(try (refine gate_guard (by rfl) ?_;dsimp only));refine Kd.R_lit k51 _ 51 ?hg (N:=14) ?hd (xs:=([(⟨(⟨#[97]⟩:ByteArray),1⟩:S51),(⟨(⟨#[97]⟩:ByteArray),2⟩:S51),(⟨(⟨#[98]⟩:ByteArray),3⟩:S51),(⟨(⟨#[99]⟩:ByteArray),1⟩:S51),(⟨(⟨#[99]⟩:ByteArray),2⟩:S51),(⟨(⟨#[100]⟩:ByteArray),3⟩:S51),(⟨(⟨#[120]⟩:ByteArray),2⟩:S51)]:List (S51))) (inner:=[.string (⟨#[97]⟩:ByteArray),.int .i64 1,.string (⟨#[97]⟩:ByteArray),.int .i64 2,.string (⟨#[98]⟩:ByteArray),.int .i64 3,.string (⟨#[99]⟩:ByteArray),.int .i64 1,.string (⟨#[99]⟩:ByteArray),.int .i64 2,.string (⟨#[100]⟩:ByteArray),.int .i64 3,.string (⟨#[120]⟩:ByteArray),.int .i64 2]) (ok:=fun _=>True) (okp:=fun _=>True) ?hr ?hp (fun _ hk=>hk) trivial (Below.refl _ _) (Nat.le_refl _) (by simp) ?_;(case hd=>rfl);(case hg=>rfl);(case hr=>first|(go_simp;done)|(go_simp;rfl));(case hp=>exact(Reps.c2 (show Kd.M k51 _ _ _ (⟨(⟨#[97]⟩:ByteArray),1⟩:S51) [.string (⟨#[97]⟩:ByteArray),.int .i64 1] from(k51_mkM _ _ _ (⟨(⟨#[97]⟩:ByteArray),1⟩:S51))) (Reps.c2 (show Kd.M k51 _ _ _ (⟨(⟨#[97]⟩:ByteArray),2⟩:S51) [.string (⟨#[97]⟩:ByteArray),.int .i64 2] from(k51_mkM _ _ _ (⟨(⟨#[97]⟩:ByteArray),2⟩:S51))) (Reps.c2 (show Kd.M k51 _ _ _ (⟨(⟨#[98]⟩:ByteArray),3⟩:S51) [.string (⟨#[98]⟩:ByteArray),.int .i64 3] from(k51_mkM _ _ _ (⟨(⟨#[98]⟩:ByteArray),3⟩:S51))) (Reps.c2 (show Kd.M k51 _ _ _ (⟨(⟨#[99]⟩:ByteArray),1⟩:S51) [.string (⟨#[99]⟩:ByteArray),.int .i64 1] from(k51_mkM _ _ _ (⟨(⟨#[99]⟩:ByteArray),1⟩:S51))) (Reps.c2 (show Kd.M k51 _ _ _ (⟨(⟨#[99]⟩:ByteArray),2⟩:S51) [.string (⟨#[99]⟩:ByteArray),.int .i64 2] from(k51_mkM _ _ _ (⟨(⟨#[99]⟩:ByteArray),2⟩:S51))) (Reps.c2 (show Kd.M k51 _ _ _ (⟨(⟨#[100]⟩:ByteArray),3⟩:S51) [.string (⟨#[100]⟩:ByteArray),.int .i64 3] from(k51_mkM _ _ _ (⟨(⟨#[100]⟩:ByteArray),3⟩:S51))) (Reps.c2 (show Kd.M k51 _ _ _ (⟨(⟨#[120]⟩:ByteArray),2⟩:S51) [.string (⟨#[120]⟩:ByteArray),.int .i64 2] from(k51_mkM _ _ _ (⟨(⟨#[120]⟩:ByteArray),2⟩:S51))) (Reps.none _ _)))))))));intro v185 w9 ho10 hb hg_ hnew_;clear hg_ hnew_;(first|rw [←Ny184.out] at ho10|(simp only [Int.reduceToNat] at ho10;rw [←Ny184.out] at ho10));have n0_:=Aside0.mk (Kd.R_lower ho10 (below_size (by repeat (first|(with_reducible first|exact HB.out|apply below_alloc|apply pw_below_drewN|apply below_drew1)|exact HB.out))));have n1_:=Aside0.mk (below_step (by repeat (first|(with_reducible first|exact HB.out|apply below_alloc|apply pw_below_drewN|apply below_drew1)|exact HB.out)) hb);clear HB;have HO186:=n0_;have HB:=n1_;clear n0_ n1_;clear hb ho10)|((with_reducible refine gate_callee (f:=29) rfl ?_);refine goesL_ (some 16) rfl rfl Tryz.func29 (by kernel_rfl) rfl #[.int .i64 a0,.int .i64 5] rfl (by(try simp only [List.map_toArray,List.map_cons,List.map_nil]);first|done|rfl|(simp only [List.length_drop,List.length_take];rfl)) ?_;(with_reducible refine(canopylaw1_within.calls a0 5 t187 _ A3.out).mono ?_);rintro e w' ⟨rfl,⟨nd,rfl⟩⟩;refine⟨_,rfl,?_⟩)|((with_reducible refine gate_callee (f:=29) rfl ?_);refine goesL_ (some 19) rfl rfl Tryz.func29 (by kernel_rfl) rfl #[.int .i64 a0,.int .i64 7] rfl (by(try simp only [List.map_toArray,List.map_cons,List.map_nil]);first|done|rfl|(simp only [List.length_drop,List.length_take];rfl)) ?_;(with_reducible refine(canopylaw1_within.calls a0 7 t188 _ A4.out).mono ?_);rintro e w' ⟨rfl,⟨nd,rfl⟩⟩;refine⟨_,rfl,?_⟩))
     (try (rw [drewN_self w9];generalize hq_:World.drewN w9 _=w9;have n0_:Aside0 (Kd.R k51 51 w9 w.heap.size (fun _=>True) v185 y184):=⟨by rw [←hq_];exact(by(with_reducible repeat (first|apply Kd.R_alloc|apply Kd.R_drewN|apply Kd.R_drew));exact HO186.out)⟩;have n1_:Aside0 (Below w.heap.size w w9):=⟨by rw [←hq_];exact(by repeat (first|(with_reducible first|exact HB.out|apply below_alloc|apply pw_below_drewN|apply below_drew1)|exact HB.out))⟩;clear HO186 HB hq_;have HO186:=n0_;have HB:=n1_;clear n0_ n1_))
     have n0_:=Aside0.mk (Kd.R_drew HO186.out)
     have n1_:=Aside0.mk (below_drew1 HB.out)
     clear HO186
     clear HB
     have HO186:=n0_
     have HB:=n1_
     clear n0_ n1_
     obtain⟨Ao12,co12,eo12⟩:=Kd.R_slice HO186.out
     (first|subst eo12|(injection eo12 with f1_ f2_ f3_;have f4_:=f1_.symm;have f5_:=f3_.symm;clear f1_ f2_ f3_;subst f4_;subst f5_))
     have p189:0≤(2:Int):=(by omega)
     have q189:2 < (y184.length:Int):=of_decide_eq_true (by first|(with_reducible assumption)|assumption)
     obtain⟨ad189,e189,hx189_0,hx189_1⟩:=at_T51 (Kd.R_reads' HO186.out).2.2 2 p189 q189
     cases e189
     (try simp only [show (2:Int).toNat=2 from rfl,Nat.reduceMul,Nat.reduceEqDiff,Go.Addr.add,↓reduceIte] at hx189_0)
     (try simp only [show (2:Int).toNat=2 from rfl,Nat.reduceMul,Nat.reduceEqDiff,Go.Addr.add,↓reduceIte] at hx189_1)
     have qi189:(2 < y184.length)=True:=eq_true (by omega)
     (try rw [show ((2:Int)).toNat=2 from rfl] at hx189_0)
     (try rw [show 2*2=4 from rfl] at hx189_0)
     (try rw [show ((2:Int)).toNat=2 from rfl] at hx189_1)
     (try rw [show 2*2=4 from rfl] at hx189_1)
     replace p189:=eq_true p189
     replace q189:=eq_true q189
     have p190:0≤(1:Int):=(by omega)
     have q190:1 < (y184.length:Int):=of_decide_eq_true (by first|(with_reducible assumption)|assumption)
     obtain⟨ad190,e190,hx190_0,hx190_1⟩:=at_T51 (Kd.R_reads' HO186.out).2.2 1 p190 q190
     obtain rfl:ad189=ad190:=(by injection e190)
     (try simp only [show (1:Int).toNat=1 from rfl,Nat.reduceMul,Nat.reduceEqDiff,Go.Addr.add,↓reduceIte] at hx190_0)
     (try simp only [show (1:Int).toNat=1 from rfl,Nat.reduceMul,Nat.reduceEqDiff,Go.Addr.add,↓reduceIte] at hx190_1)
     have qi190:(1 < y184.length)=True:=eq_true (by omega)
     (try rw [show ((1:Int)).toNat=1 from rfl] at hx190_0)
     (try rw [show 1*2=2 from rfl] at hx190_0)
     (try rw [show ((1:Int)).toNat=1 from rfl] at hx190_1)
     (try rw [show 1*2=2 from rfl] at hx190_1)
     replace p190:=eq_true p190
     replace q190:=eq_true q190
     have p191:0≤(0:Int):=(by omega)
     have q191:0 < (y184.length:Int):=of_decide_eq_true (by first|(with_reducible assumption)|assumption)
     obtain⟨ad191,e191,hx191_0,hx191_1⟩:=at_T51 (Kd.R_reads' HO186.out).2.2 0 p191 q191
     obtain rfl:ad189=ad191:=(by injection e191)
     have qi191:(0 < y184.length)=True:=eq_true (by omega)
     (try rw [show ((0:Int)).toNat=0 from rfl] at hx191_0)
     (try rw [show 0*2=0 from rfl] at hx191_0)
     (try rw [Addr.add_zero'] at hx191_0)
     (try rw [show ((0:Int)).toNat=0 from rfl] at hx191_1)
     (try rw [show 0*2=0 from rfl] at hx191_1)
     (try rw [Addr.add_zero'] at hx191_1)
     replace p191:=eq_true p191
     replace q191:=eq_true q191
     refine start_ (n:=11) (S:=fun w'=>w'.cell? ⟨ad189.block,ad189.off+4,none⟩=some (.string ((rd_T51 y184 2).f0))∧w'.cell? ⟨ad189.block,ad189.off+4+1,none⟩=some (.int .i64 ((rd_T51 y184 2).f1))∧w'.cell? ⟨ad189.block,ad189.off+2,none⟩=some (.string ((rd_T51 y184 1).f0))∧w'.cell? ⟨ad189.block,ad189.off+2+1,none⟩=some (.int .i64 ((rd_T51 y184 1).f1))∧w'.cell? ad189=some (.string ((rd_T51 y184 0).f0))∧w'.cell? ⟨ad189.block,ad189.off+1,none⟩=some (.int .i64 ((rd_T51 y184 0).f1))) (ds:=[]) #[false,false,false,false,false,false,false,false,false,false,false] (by kernel_rfl) rfl rfl ⟨hx189_0,hx189_1,hx190_0,hx190_1,hx191_0,hx191_1⟩ (fun hHeld=>?_);refine with_tabW canopylaw1_Syms.tab4 canopylaw1_Syms.bits4 (fun HT_ HW_=>?_)
     generalize w9.drew=w11 at HO186 HB hx189_0 hx189_1 hx190_0 hx190_1 hx191_0 hx191_1 hHeld ⊢
     refine pure_ (i:=0) (N:=some 21) (v:=?_) (a':=?_) #[true,false,false,false,false,false,false,false,false,false,false] rfl rfl (any_of HT_.out (by kernel_rfl)) (fun _ _ _ h=>h) (Or.inl ⟨by rfl,?_⟩) ?_ ?_
     rotate_left
     ·intro w'
      go_simp
      with_reducible rfl
     rotate_left
     ·simp only [Act.put,M.sq3,i64_w,i32_w]
      rfl
     refine pure_ (i:=1) (N:=some 22) (v:=?_) (a':=?_) #[true,true,false,false,false,false,false,false,false,false,false] rfl rfl (any_of HT_.out (by kernel_rfl)) (fun _ _ _ h=>h) (Or.inl ⟨by rfl,?_⟩) ?_ ?_
     rotate_left
     ·intro w'
      go_simp
      with_reducible rfl
     rotate_left
     ·simp only [Act.put,M.sq3,i64_w,i32_w]
      rfl
     refine pure_ (i:=3) (N:=some 24) (v:=?_) (a':=?_) #[true,true,false,true,false,false,false,false,false,false,false] rfl rfl (any_of HT_.out (by kernel_rfl)) (fun _ _ _ h=>h) (Or.inl ⟨by rfl,?_⟩) ?_ ?_
     rotate_left
     ·intro w'
      go_simp
      with_reducible rfl
     rotate_left
     ·simp only [Act.put,M.sq3,i64_w,i32_w]
      rfl
     refine pure_ (i:=4) (N:=some 25) (v:=?_) (a':=?_) #[true,true,false,true,true,false,false,false,false,false,false] rfl rfl (any_of HT_.out (by kernel_rfl)) (fun _ _ _ h=>h) (Or.inl ⟨by rfl,?_⟩) ?_ ?_
     rotate_left
     ·intro w'
      go_simp
      with_reducible rfl
     rotate_left
     ·simp only [Act.put,M.sq3,i64_w,i32_w]
      rfl
     refine pure_ (i:=6) (N:=some 27) (v:=?_) (a':=?_) #[true,true,false,true,true,false,true,false,false,false,false] rfl rfl (any_of HT_.out (by kernel_rfl)) (fun _ _ _ h=>h) (Or.inl ⟨by rfl,?_⟩) ?_ ?_
     rotate_left
     ·intro w'
      go_simp
      with_reducible rfl
     rotate_left
     ·simp only [Act.put,M.sq3,i64_w,i32_w]
      rfl
     refine pure_ (i:=7) (N:=some 28) (v:=?_) (a':=?_) #[true,true,false,true,true,false,true,true,false,false,false] rfl rfl (any_of HT_.out (by kernel_rfl)) (fun _ _ _ h=>h) (Or.inl ⟨by rfl,?_⟩) ?_ ?_
     rotate_left
     ·intro w'
      go_simp
      with_reducible rfl
     rotate_left
     ·simp only [Act.put,M.sq3,i64_w,i32_w]
      rfl
     refine take_ (i:=2) (N:=some 23) (v:=?_) (a':=?_) #[true,true,true,true,true,false,true,true,false,false,false] rfl rfl (take_ofW HT_.out HW_.out (by kernel_rfl)) (fun _ _ _ h=>h) (Or.inl ⟨by rfl,?_⟩) hHeld ?_ ?_
     rotate_left
     ·rintro w' ⟨s0,s1,s2,s3,s4,s5⟩
      go_simp
      with_reducible rfl
     rotate_left
     ·simp only [Act.put,M.sq3,i64_w,i32_w]
      rfl
     refine take_ (i:=5) (N:=some 26) (v:=?_) (a':=?_) #[true,true,true,true,true,true,true,true,false,false,false] rfl rfl (take_ofW HT_.out HW_.out (by kernel_rfl)) (fun _ _ _ h=>h) (Or.inl ⟨by rfl,?_⟩) hHeld ?_ ?_
     rotate_left
     ·rintro w' ⟨s0,s1,s2,s3,s4,s5⟩
      go_simp
      with_reducible rfl
     rotate_left
     ·simp only [Act.put,M.sq3,i64_w,i32_w]
      rfl
     refine take_ (i:=8) (N:=some 29) (v:=?_) (a':=?_) #[true,true,true,true,true,true,true,true,true,false,false] rfl rfl (take_ofW HT_.out HW_.out (by kernel_rfl)) (fun _ _ _ h=>h) (Or.inl ⟨by rfl,?_⟩) hHeld ?_ ?_
     rotate_left
     ·rintro w' ⟨s0,s1,s2,s3,s4,s5⟩
      go_simp
      with_reducible rfl
     rotate_left
     ·simp only [Act.put,M.sq3,i64_w,i32_w]
      rfl
     refine one_ (i:=9) (N:=some 30) #[true,true,true,true,true,true,true,true,true,true,false] rfl rfl (one_of HT_.out (by kernel_rfl)) (by decide) (fun K hK=>?_)
     refine Kd.R_lit_step k51 _ 51 ?hg (N:=30) ?hd (xs:=([(⟨(rd_T51 y184 2).f0,(rd_T51 y184 2).f1⟩:S51),(⟨(rd_T51 y184 1).f0,(rd_T51 y184 1).f1⟩:S51),(⟨(rd_T51 y184 0).f0,(rd_T51 y184 0).f1⟩:S51)]:List (S51))) (inner:=[.string ((rd_T51 y184 2).f0),.int .i64 ((rd_T51 y184 2).f1),.string ((rd_T51 y184 1).f0),.int .i64 ((rd_T51 y184 1).f1),.string ((rd_T51 y184 0).f0),.int .i64 ((rd_T51 y184 0).f1)]) (ok:=fun _=>True) (okp:=fun _=>True) ?hr ?hp (fun _ hk=>hk) trivial (Below.refl _ _) (Nat.le_refl _) (by simp) ?_;(case hd=>rfl);(case hg=>rfl);(case hr=>first|(go_simp;done)|(go_simp;rfl));(case hp=>exact(Reps.c2 (show Kd.M k51 _ _ _ (⟨(rd_T51 y184 2).f0,(rd_T51 y184 2).f1⟩:S51) [.string ((rd_T51 y184 2).f0),.int .i64 ((rd_T51 y184 2).f1)] from(k51_mkM _ _ _ (⟨(rd_T51 y184 2).f0,(rd_T51 y184 2).f1⟩:S51))) (Reps.c2 (show Kd.M k51 _ _ _ (⟨(rd_T51 y184 1).f0,(rd_T51 y184 1).f1⟩:S51) [.string ((rd_T51 y184 1).f0),.int .i64 ((rd_T51 y184 1).f1)] from(k51_mkM _ _ _ (⟨(rd_T51 y184 1).f0,(rd_T51 y184 1).f1⟩:S51))) (Reps.c2 (show Kd.M k51 _ _ _ (⟨(rd_T51 y184 0).f0,(rd_T51 y184 0).f1⟩:S51) [.string ((rd_T51 y184 0).f0),.int .i64 ((rd_T51 y184 0).f1)] from(k51_mkM _ _ _ (⟨(rd_T51 y184 0).f0,(rd_T51 y184 0).f1⟩:S51))) (Reps.none _ _)))))
     intro v193 w13 ho14 hb hg_ hnew_
     have HS0_:=(hb.cell (World.block_lt_of_cell? _ _ (hHeld.1))).trans (hHeld.1)
     have HS1_:=(hb.cell (World.block_lt_of_cell? _ _ (hHeld.2.1))).trans (hHeld.2.1)
     have HS2_:=(hb.cell (World.block_lt_of_cell? _ _ (hHeld.2.2.1))).trans (hHeld.2.2.1)
     have HS3_:=(hb.cell (World.block_lt_of_cell? _ _ (hHeld.2.2.2.1))).trans (hHeld.2.2.2.1)
     have HS4_:=(hb.cell (World.block_lt_of_cell? _ _ (hHeld.2.2.2.2.1))).trans (hHeld.2.2.2.2.1)
     have HS5_:=(hb.cell (World.block_lt_of_cell? _ _ (hHeld.2.2.2.2.2))).trans (hHeld.2.2.2.2.2)
     clear hg_ hnew_
     (first|rw [←Ny192.out] at ho14|(simp only [Int.reduceToNat] at ho14;rw [←Ny192.out] at ho14))
     have n0_:=Aside0.mk (Kd.R_elder' (by(with_reducible repeat (first|apply Kd.R_alloc|apply Kd.R_drewN|apply Kd.R_drew));exact HO186.out) (Kd.R_base ho14) hb)
     have n1_:=Aside0.mk (Kd.R_lower (Kd.R_new' ho14 (Kd.R_lt (by(with_reducible repeat (first|apply Kd.R_alloc|apply Kd.R_drewN|apply Kd.R_drew));exact HO186.out))) (below_size (by repeat (first|(with_reducible first|exact HB.out|apply below_alloc|apply pw_below_drewN|apply below_drew1)|exact HB.out))))
     have n2_:=Aside0.mk (below_step (by repeat (first|(with_reducible first|exact HB.out|apply below_alloc|apply pw_below_drewN|apply below_drew1)|exact HB.out)) hb)
     clear HO186
     clear HB
     have HO186:=n0_
     have HO194:=n1_
     have HB:=n2_
     clear n0_ n1_ n2_
     clear hb ho14
     refine hK.out _ _ ⟨HS0_,HS1_,HS2_,HS3_,HS4_,HS5_⟩ (fun hHeld=>?_)
     clear hK K
     refine norm_ (a':=?_) ?_ ?_
     rotate_left
     ·show Act.put _ (some 30) _=_
      simp only [Act.put,M.sq3,i64_w,i32_w]
      rfl
     refine pure_ (i:=10) (N:=some 4) (v:=?_) (a':=?_) #[true,true,true,true,true,true,true,true,true,true,true] rfl rfl (any_of HT_.out (by kernel_rfl)) (fun _ _ _ h=>h) (Or.inl ⟨by rfl,?_⟩) ?_ ?_
     rotate_left
     ·intro w'
      go_simp
      with_reducible rfl
     rotate_left
     ·simp only [Act.put,M.sq3,i64_w,i32_w]
      rfl
     refine done_ (done_of HT_.out (by kernel_rfl)) ?_
     try go_wp2
     go_ret
     exact⟨_,by first|rfl|(simp [errW_none,errW_some]<;>rfl)|(simp [*,errW_none,errW_some]<;>rfl),by(with_reducible repeat (first|apply Kd.R_alloc|apply Kd.R_drewN|apply Kd.R_drew));exact Kd.R_mono HO194.out (fun _ hk=>trivial),by repeat (first|(with_reducible first|exact HB.out|apply below_alloc|apply pw_below_drewN|apply below_drew1)|exact HB.out)⟩
    rw [if_neg c8] at H
    exact absurd H (by simp)
   rw [if_neg c7] at H
   exact absurd H (by simp)
  rw [if_neg c6] at H
  exact absurd H (by simp)
 rw [if_neg c5] at H
 have c5b0:(t188 == 1)=false:=beq_eq_false_iff_ne.mpr c5
 have c5b1:(t188 != 1)=true:=bne_iff_ne.mpr c5
 replace H:=Option.bind_eq_some_iff.mp H
 obtain⟨t195,A150,H⟩:=H
 replace H:(if t195=2 then (if (l1.length:Int) > 0 then (if 0 < (l1.length:Int) then ((canopylaw1_within.f (rd l1 0) 7).bind fun t197=>(if 0≤t197 then (if t197 < (y184.length:Int) then (some (([(⟨(rd_T51 y184 t197).f0,(rd_T51 y184 t197).f1⟩:S51)]:List (S51)))) else (none)) else (none))) else (none)) else (if 0≤(wrap64 (3+t187)) then (if (wrap64 (3+t187))≤(y184.length:Int) then (some (y184.take ((wrap64 (3+t187)):Int).toNat)) else (none)) else (none))) else (if 0≤(wrap64 (3+t187)) then (if (wrap64 (3+t187))≤(y184.length:Int) then (some (y184.take ((wrap64 (3+t187)):Int).toNat)) else (none)) else (none)))=some r:=H
 have A15:=Aside0.mk A150
 clear A150
 by_cases c16:t195=2
 ·rw [if_pos c16] at H
  have c16b0:(t195 == 2)=true:=beq_iff_eq.mpr c16
  have c16b1:(t195 != 2)=false:=bne_eq_false_iff_eq.mpr c16
  clear c16
  by_cases c17:(l1.length:Int) > 0
  ·rw [if_pos c17] at H
   have c17b0:decide (0 < (l1.length:Int))=true:=decide_eq_true c17
   have c17b1:decide (0 < l1.length)=true:=decide_eq_true (by omega)
   clear c17
   by_cases c18:0 < (l1.length:Int)
   ·rw [if_pos c18] at H
    have c18b0:decide (0 < (l1.length:Int))=true:=decide_eq_true c18
    have c18b1:decide (0 < l1.length)=true:=decide_eq_true (by omega)
    clear c18
    replace H:=Option.bind_eq_some_iff.mp H
    obtain⟨t197,A190,H⟩:=H
    replace H:(if 0≤t197 then (if t197 < (y184.length:Int) then (some (([(⟨(rd_T51 y184 t197).f0,(rd_T51 y184 t197).f1⟩:S51)]:List (S51)))) else (none)) else (none))=some r:=H
    have A19:=Aside0.mk A190
    clear A190
    by_cases c20:0≤t197
    ·rw [if_pos c20] at H
     have c20b0:decide (0≤t197)=true:=decide_eq_true c20
     clear c20
     by_cases c21:t197 < (y184.length:Int)
     ·rw [if_pos c21] at H
      have c21b0:decide (t197 < (y184.length:Int))=true:=decide_eq_true c21
      clear c21
      obtain⟨y199,hy199⟩:∃y_:List (S51),y_=(([(⟨(rd_T51 y184 t197).f0,(rd_T51 y184 t197).f1⟩:S51)]:List (S51))):=⟨_,rfl⟩
      replace H:(some y199)=some r:=by first|(rw [hy199];with_reducible exact H)|(have H2_:=(Option.bind_some _ _).symm.trans H;rw [hy199];with_reducible exact H2_)|(have H2_:=(Option.bind_some _ _).symm.trans H;with_reducible exact H2_)|with_reducible exact H|(rw [hy199];exact H)|exact H
      have Ny199:=Aside0.mk hy199
      clear hy199
      obtain rfl:=Option.some.inj H
      go_enter Tryz.func13,Tryz.ntmps13
      go_wp2_with (first|((with_reducible refine gate_dst (N:=14) rfl ?_);(try (refine gate_guard (by rfl) ?_;dsimp only));refine Kd.R_lit k51 _ 51 ?hg (N:=14) ?hd (xs:=([(⟨(⟨#[97]⟩:ByteArray),1⟩:S51),(⟨(⟨#[97]⟩:ByteArray),2⟩:S51),(⟨(⟨#[98]⟩:ByteArray),3⟩:S51),(⟨(⟨#[99]⟩:ByteArray),1⟩:S51),(⟨(⟨#[99]⟩:ByteArray),2⟩:S51),(⟨(⟨#[100]⟩:ByteArray),3⟩:S51),(⟨(⟨#[120]⟩:ByteArray),2⟩:S51)]:List (S51))) (inner:=[.string (⟨#[97]⟩:ByteArray),.int .i64 1,.string (⟨#[97]⟩:ByteArray),.int .i64 2,.string (⟨#[98]⟩:ByteArray),.int .i64 3,.string (⟨#[99]⟩:ByteArray),.int .i64 1,.string (⟨#[99]⟩:ByteArray),.int .i64 2,.string (⟨#[100]⟩:ByteArray),.int .i64 3,.string (⟨#[120]⟩:ByteArray),.int .i64 2]) (ok:=fun _=>True) (okp:=fun _=>True) ?hr ?hp (fun _ hk=>hk) trivial (Below.refl _ _) (Nat.le_refl _) (by simp) ?_;(case hd=>rfl);(case hg=>rfl);(case hr=>first|(go_simp;done)|(go_simp;rfl));(case hp=>exact(Reps.c2 (show Kd.M k51 _ _ _ (⟨(⟨#[97]⟩:ByteArray),1⟩:S51) [.string (⟨#[97]⟩:ByteArray),.int .i64 1] from(k51_mkM _ _ _ (⟨(⟨#[97]⟩:ByteArray),1⟩:S51))) (Reps.c2 (show Kd.M k51 _ _ _ (⟨(⟨#[97]⟩:ByteArray),2⟩:S51) [.string (⟨#[97]⟩:ByteArray),.int .i64 2] from(k51_mkM _ _ _ (⟨(⟨#[97]⟩:ByteArray),2⟩:S51))) (Reps.c2 (show Kd.M k51 _ _ _ (⟨(⟨#[98]⟩:ByteArray),3⟩:S51) [.string (⟨#[98]⟩:ByteArray),.int .i64 3] from(k51_mkM _ _ _ (⟨(⟨#[98]⟩:ByteArray),3⟩:S51))) (Reps.c2 (show Kd.M k51 _ _ _ (⟨(⟨#[99]⟩:ByteArray),1⟩:S51) [.string (⟨#[99]⟩:ByteArray),.int .i64 1] from(k51_mkM _ _ _ (⟨(⟨#[99]⟩:ByteArray),1⟩:S51))) (Reps.c2 (show Kd.M k51 _ _ _ (⟨(⟨#[99]⟩:ByteArray),2⟩:S51) [.string (⟨#[99]⟩:ByteArray),.int .i64 2] from(k51_mkM _ _ _ (⟨(⟨#[99]⟩:ByteArray),2⟩:S51))) (Reps.c2 (show Kd.M k51 _ _ _ (⟨(⟨#[100]⟩:ByteArray),3⟩:S51) [.string (⟨#[100]⟩:ByteArray),.int .i64 3] from(k51_mkM _ _ _ (⟨(⟨#[100]⟩:ByteArray),3⟩:S51))) (Reps.c2 (show Kd.M k51 _ _ _ (⟨(⟨#[120]⟩:ByteArray),2⟩:S51) [.string (⟨#[120]⟩:ByteArray),.int .i64 2] from(k51_mkM _ _ _ (⟨(⟨#[120]⟩:ByteArray),2⟩:S51))) (Reps.none _ _)))))))));intro v185 w22 ho23 hb hg_ hnew_;clear hg_ hnew_;(first|rw [←Ny184.out] at ho23|(simp only [Int.reduceToNat] at ho23;rw [←Ny184.out] at ho23));have n0_:=Aside0.mk (Kd.R_lower ho23 (below_size (by repeat (first|(with_reducible first|exact HB.out|apply below_alloc|apply pw_below_drewN|apply below_drew1)|exact HB.out))));have n1_:=Aside0.mk (below_step (by repeat (first|(with_reducible first|exact HB.out|apply below_alloc|apply pw_below_drewN|apply below_drew1)|exact HB.out)) hb);clear HB;have HO186:=n0_;have HB:=n1_;clear n0_ n1_;clear hb ho23)|((with_reducible refine gate_callee (f:=29) rfl ?_);refine goesL_ (some 16) rfl rfl Tryz.func29 (by kernel_rfl) rfl #[.int .i64 a0,.int .i64 5] rfl (by(try simp only [List.map_toArray,List.map_cons,List.map_nil]);first|done|rfl|(simp only [List.length_drop,List.length_take];rfl)) ?_;(with_reducible refine(canopylaw1_within.calls a0 5 t187 _ A3.out).mono ?_);rintro e w' ⟨rfl,⟨nd,rfl⟩⟩;refine⟨_,rfl,?_⟩)|((with_reducible refine gate_callee (f:=29) rfl ?_);refine goesL_ (some 19) rfl rfl Tryz.func29 (by kernel_rfl) rfl #[.int .i64 a0,.int .i64 7] rfl (by(try simp only [List.map_toArray,List.map_cons,List.map_nil]);first|done|rfl|(simp only [List.length_drop,List.length_take];rfl)) ?_;(with_reducible refine(canopylaw1_within.calls a0 7 t188 _ A4.out).mono ?_);rintro e w' ⟨rfl,⟨nd,rfl⟩⟩;refine⟨_,rfl,?_⟩)|((with_reducible refine gate_callee (f:=29) rfl ?_);refine goesL_ (some 32) rfl rfl Tryz.func29 (by kernel_rfl) rfl #[.int .i64 a0,.int .i64 11] rfl (by(try simp only [List.map_toArray,List.map_cons,List.map_nil]);first|done|rfl|(simp only [List.length_drop,List.length_take];rfl)) ?_;(with_reducible refine(canopylaw1_within.calls a0 11 t195 _ A15.out).mono ?_);rintro e w' ⟨rfl,⟨nd,rfl⟩⟩;refine⟨_,rfl,?_⟩;have p196:0≤(0:Int):=(by omega);have q196:0 < (l1.length:Int):=of_decide_eq_true (by first|(with_reducible assumption)|assumption);obtain⟨ad196,e196,hx196_0⟩:=Kd.at_int HR1.out 0 p196 q196;cases e196;have qi196:(0 < l1.length)=True:=eq_true (by omega);(try rw [show ((0:Int)).toNat=0 from rfl] at hx196_0);(try rw [Addr.add_zero'] at hx196_0);replace hx196_0:=(HB.out.cell (World.block_lt_of_cell? w _ hx196_0)).trans hx196_0;replace p196:=eq_true p196;replace q196:=eq_true q196)|((with_reducible refine gate_callee (f:=29) rfl ?_);refine goesL_ (some 43) rfl rfl Tryz.func29 (by kernel_rfl) rfl #[.int .i64 (rd l1 0),.int .i64 7] rfl (by(try simp only [List.map_toArray,List.map_cons,List.map_nil]);first|done|rfl|(simp only [List.length_drop,List.length_take];rfl)) ?_;(with_reducible refine(canopylaw1_within.calls (rd l1 0) 7 t197 _ A19.out).mono ?_);rintro e w' ⟨rfl,⟨nd,rfl⟩⟩;refine⟨_,rfl,?_⟩;obtain⟨Ao24,co24,eo24⟩:=Kd.R_slice HO186.out;subst eo24;have p198:0≤(t197:Int):=of_decide_eq_true (by first|(with_reducible assumption)|assumption);have q198:t197 < (y184.length:Int):=of_decide_eq_true (by first|(with_reducible assumption)|assumption);obtain⟨ad198,e198,hx198_0,hx198_1⟩:=at_T51 (Kd.R_reads' HO186.out).2.2 t197 p198 q198;cases e198;replace p198:=eq_true p198;replace q198:=eq_true q198)|((with_reducible refine gate_dst (N:=46) rfl ?_);(try (refine gate_guard (by rfl) ?_;dsimp only));refine Kd.R_lit k51 _ 51 ?hg (N:=46) ?hd (xs:=([(⟨(rd_T51 y184 t197).f0,(rd_T51 y184 t197).f1⟩:S51)]:List (S51))) (inner:=[.string ((rd_T51 y184 t197).f0),.int .i64 ((rd_T51 y184 t197).f1)]) (ok:=fun _=>True) (okp:=fun _=>True) ?hr ?hp (fun _ hk=>hk) trivial (Below.refl _ _) (Nat.le_refl _) (by simp) ?_;(case hd=>rfl);(case hg=>rfl);(case hr=>first|(go_simp;done)|(go_simp;rfl));(case hp=>exact(Reps.c2 (show Kd.M k51 _ _ _ (⟨(rd_T51 y184 t197).f0,(rd_T51 y184 t197).f1⟩:S51) [.string ((rd_T51 y184 t197).f0),.int .i64 ((rd_T51 y184 t197).f1)] from(k51_mkM _ _ _ (⟨(rd_T51 y184 t197).f0,(rd_T51 y184 t197).f1⟩:S51))) (Reps.none _ _)));intro v200 w25 ho26 hb hg_ hnew_;clear hg_ hnew_;(first|rw [←Ny199.out] at ho26|(simp only [Int.reduceToNat] at ho26;rw [←Ny199.out] at ho26));have n0_:=Aside0.mk (Kd.R_elder' (by(with_reducible repeat (first|apply Kd.R_alloc|apply Kd.R_drewN|apply Kd.R_drew));exact HO186.out) (Kd.R_base ho26) hb);have n1_:=Aside0.mk (Kd.R_lower (Kd.R_new' ho26 (Kd.R_lt (by(with_reducible repeat (first|apply Kd.R_alloc|apply Kd.R_drewN|apply Kd.R_drew));exact HO186.out))) (below_size (by repeat (first|(with_reducible first|exact HB.out|apply below_alloc|apply pw_below_drewN|apply below_drew1)|exact HB.out))));have n2_:=Aside0.mk (below_step (by repeat (first|(with_reducible first|exact HB.out|apply below_alloc|apply pw_below_drewN|apply below_drew1)|exact HB.out)) hb);clear HO186;clear HB;have HO186:=n0_;have HO201:=n1_;have HB:=n2_;clear n0_ n1_ n2_;clear hb ho26))
      go_ret
      exact⟨_,by first|rfl|(simp [errW_none,errW_some]<;>rfl)|(simp [*,errW_none,errW_some]<;>rfl),by(with_reducible repeat (first|apply Kd.R_alloc|apply Kd.R_drewN|apply Kd.R_drew));exact Kd.R_mono HO201.out (fun _ hk=>trivial),by repeat (first|(with_reducible first|exact HB.out|apply below_alloc|apply pw_below_drewN|apply below_drew1)|exact HB.out)⟩
     rw [if_neg c21] at H
     exact absurd H (by simp)
    rw [if_neg c20] at H
    exact absurd H (by simp)
   rw [if_neg c18] at H
   exact absurd H (by simp)
  rw [if_neg c17] at H
  have c17b0:decide (0 < (l1.length:Int))=false:=decide_eq_false c17
  have c17b1:decide (0 < l1.length)=false:=decide_eq_false (by omega)
  clear c17
  obtain⟨ji27,hji27⟩:∃j_:Int,(wrap64 (3+t187))=j_:=⟨_,rfl⟩
  replace H:(if 0≤(ji27) then (if (ji27)≤(y184.length:Int) then (some (y184.take ((ji27):Int).toNat)) else (none)) else (none))=some r:=by first|(rw [hji27] at H;exact H)|(simp only [hji27] at H ⊢;exact H)
  (try rw [hji27] at A3)
  (try rw [hji27] at A4)
  (try rw [hji27] at A15)
  have hji27w:(IntKind.i64.wrap (3+t187))=ji27:=(i64_w _).trans hji27
  by_cases c28:0≤(ji27)
  ·rw [if_pos c28] at H
   have c28b0:=eq_true c28
   have c28b1:decide (0≤(ji27))=true:=decide_eq_true c28
   clear c28
   by_cases c29:(ji27)≤(y184.length:Int)
   ·rw [if_pos c29] at H
    have c29b0:=eq_true c29
    have c29b1:decide ((ji27)≤(y184.length:Int))=true:=decide_eq_true c29
    clear c29
    obtain⟨y202,hy202⟩:∃y_:List (S51),y_=(y184.take ((ji27):Int).toNat):=⟨_,rfl⟩
    replace H:(some y202)=some r:=by first|(rw [hy202];with_reducible exact H)|(have H2_:=(Option.bind_some _ _).symm.trans H;rw [hy202];with_reducible exact H2_)|(have H2_:=(Option.bind_some _ _).symm.trans H;with_reducible exact H2_)|with_reducible exact H|(rw [hy202];exact H)|exact H
    have Ny202:=Aside0.mk hy202
    clear hy202
    obtain rfl:=Option.some.inj H
    go_enter Tryz.func13,Tryz.ntmps13
    go_wp2_with (first|((with_reducible refine gate_dst (N:=14) rfl ?_);(try (refine gate_guard (by rfl) ?_;dsimp only));refine Kd.R_lit k51 _ 51 ?hg (N:=14) ?hd (xs:=([(⟨(⟨#[97]⟩:ByteArray),1⟩:S51),(⟨(⟨#[97]⟩:ByteArray),2⟩:S51),(⟨(⟨#[98]⟩:ByteArray),3⟩:S51),(⟨(⟨#[99]⟩:ByteArray),1⟩:S51),(⟨(⟨#[99]⟩:ByteArray),2⟩:S51),(⟨(⟨#[100]⟩:ByteArray),3⟩:S51),(⟨(⟨#[120]⟩:ByteArray),2⟩:S51)]:List (S51))) (inner:=[.string (⟨#[97]⟩:ByteArray),.int .i64 1,.string (⟨#[97]⟩:ByteArray),.int .i64 2,.string (⟨#[98]⟩:ByteArray),.int .i64 3,.string (⟨#[99]⟩:ByteArray),.int .i64 1,.string (⟨#[99]⟩:ByteArray),.int .i64 2,.string (⟨#[100]⟩:ByteArray),.int .i64 3,.string (⟨#[120]⟩:ByteArray),.int .i64 2]) (ok:=fun _=>True) (okp:=fun _=>True) ?hr ?hp (fun _ hk=>hk) trivial (Below.refl _ _) (Nat.le_refl _) (by simp) ?_;(case hd=>rfl);(case hg=>rfl);(case hr=>first|(go_simp;done)|(go_simp;rfl));(case hp=>exact(Reps.c2 (show Kd.M k51 _ _ _ (⟨(⟨#[97]⟩:ByteArray),1⟩:S51) [.string (⟨#[97]⟩:ByteArray),.int .i64 1] from(k51_mkM _ _ _ (⟨(⟨#[97]⟩:ByteArray),1⟩:S51))) (Reps.c2 (show Kd.M k51 _ _ _ (⟨(⟨#[97]⟩:ByteArray),2⟩:S51) [.string (⟨#[97]⟩:ByteArray),.int .i64 2] from(k51_mkM _ _ _ (⟨(⟨#[97]⟩:ByteArray),2⟩:S51))) (Reps.c2 (show Kd.M k51 _ _ _ (⟨(⟨#[98]⟩:ByteArray),3⟩:S51) [.string (⟨#[98]⟩:ByteArray),.int .i64 3] from(k51_mkM _ _ _ (⟨(⟨#[98]⟩:ByteArray),3⟩:S51))) (Reps.c2 (show Kd.M k51 _ _ _ (⟨(⟨#[99]⟩:ByteArray),1⟩:S51) [.string (⟨#[99]⟩:ByteArray),.int .i64 1] from(k51_mkM _ _ _ (⟨(⟨#[99]⟩:ByteArray),1⟩:S51))) (Reps.c2 (show Kd.M k51 _ _ _ (⟨(⟨#[99]⟩:ByteArray),2⟩:S51) [.string (⟨#[99]⟩:ByteArray),.int .i64 2] from(k51_mkM _ _ _ (⟨(⟨#[99]⟩:ByteArray),2⟩:S51))) (Reps.c2 (show Kd.M k51 _ _ _ (⟨(⟨#[100]⟩:ByteArray),3⟩:S51) [.string (⟨#[100]⟩:ByteArray),.int .i64 3] from(k51_mkM _ _ _ (⟨(⟨#[100]⟩:ByteArray),3⟩:S51))) (Reps.c2 (show Kd.M k51 _ _ _ (⟨(⟨#[120]⟩:ByteArray),2⟩:S51) [.string (⟨#[120]⟩:ByteArray),.int .i64 2] from(k51_mkM _ _ _ (⟨(⟨#[120]⟩:ByteArray),2⟩:S51))) (Reps.none _ _)))))))));intro v185 w30 ho31 hb hg_ hnew_;clear hg_ hnew_;(first|rw [←Ny184.out] at ho31|(simp only [Int.reduceToNat] at ho31;rw [←Ny184.out] at ho31));have n0_:=Aside0.mk (Kd.R_lower ho31 (below_size (by repeat (first|(with_reducible first|exact HB.out|apply below_alloc|apply pw_below_drewN|apply below_drew1)|exact HB.out))));have n1_:=Aside0.mk (below_step (by repeat (first|(with_reducible first|exact HB.out|apply below_alloc|apply pw_below_drewN|apply below_drew1)|exact HB.out)) hb);clear HB;have HO186:=n0_;have HB:=n1_;clear n0_ n1_;clear hb ho31)|((with_reducible refine gate_callee (f:=29) rfl ?_);refine goesL_ (some 16) rfl rfl Tryz.func29 (by kernel_rfl) rfl #[.int .i64 a0,.int .i64 5] rfl (by(try simp only [List.map_toArray,List.map_cons,List.map_nil]);first|done|rfl|(simp only [List.length_drop,List.length_take];rfl)) ?_;(with_reducible refine(canopylaw1_within.calls a0 5 t187 _ A3.out).mono ?_);rintro e w' ⟨rfl,⟨nd,rfl⟩⟩;refine⟨_,rfl,?_⟩)|((with_reducible refine gate_callee (f:=29) rfl ?_);refine goesL_ (some 19) rfl rfl Tryz.func29 (by kernel_rfl) rfl #[.int .i64 a0,.int .i64 7] rfl (by(try simp only [List.map_toArray,List.map_cons,List.map_nil]);first|done|rfl|(simp only [List.length_drop,List.length_take];rfl)) ?_;(with_reducible refine(canopylaw1_within.calls a0 7 t188 _ A4.out).mono ?_);rintro e w' ⟨rfl,⟨nd,rfl⟩⟩;refine⟨_,rfl,?_⟩)|((with_reducible refine gate_callee (f:=29) rfl ?_);refine goesL_ (some 32) rfl rfl Tryz.func29 (by kernel_rfl) rfl #[.int .i64 a0,.int .i64 11] rfl (by(try simp only [List.map_toArray,List.map_cons,List.map_nil]);first|done|rfl|(simp only [List.length_drop,List.length_take];rfl)) ?_;(with_reducible refine(canopylaw1_within.calls a0 11 t195 _ A15.out).mono ?_);rintro e w' ⟨rfl,⟨nd,rfl⟩⟩;refine⟨_,rfl,?_⟩;obtain⟨Ao32,co32,eo32⟩:=Kd.R_slice HO186.out;subst eo32;have q33:((ji27):Int)≤((y184.length:Int):Int):=of_decide_eq_true (by first|(with_reducible assumption)|assumption);obtain⟨i033,hi033,_,hsz33,_⟩:=info_parts info51;have hcut33:=cut_to (P:=Tryz.prog) 24 51 .i64 Tryz.underlying24 hi033 Ao32 y184.length co32 (ji27) (of_decide_eq_true (by first|(with_reducible assumption)|assumption)) q33 (Kd.R_reads' HO186.out).2.1;have hr33:=Kd.R_take (m:=((ji27):Int).toNat) HO186.out (by omega);have hy33:y202.length=((ji27):Int).toNat:=(by rw [Ny202.out,List.length_take];omega);rw [←Ny202.out] at hr33;rw [←hy33] at hr33 hcut33;clear hy33 hi033 hsz33 HO186;have HO204:=Aside0.mk hr33;clear hr33;replace q33:=eq_true q33))
    go_ret
    exact⟨_,by first|rfl|(simp [errW_none,errW_some]<;>rfl)|(simp only [←hji27];first|rfl|(simp [errW_none,errW_some]<;>rfl))|(simp [*,errW_none,errW_some]<;>rfl),by(with_reducible repeat (first|apply Kd.R_alloc|apply Kd.R_drewN|apply Kd.R_drew));exact HO204.out,by repeat (first|(with_reducible first|exact HB.out|apply below_alloc|apply pw_below_drewN|apply below_drew1)|exact HB.out)⟩
   rw [if_neg c29] at H
   exact absurd H (by simp)
  rw [if_neg c28] at H
  exact absurd H (by simp)
 rw [if_neg c16] at H
 have c16b0:(t195 == 2)=false:=beq_eq_false_iff_ne.mpr c16
 have c16b1:(t195 != 2)=true:=bne_iff_ne.mpr c16
 obtain⟨ji34,hji34⟩:∃j_:Int,(wrap64 (3+t187))=j_:=⟨_,rfl⟩
 replace H:(if 0≤(ji34) then (if (ji34)≤(y184.length:Int) then (some (y184.take ((ji34):Int).toNat)) else (none)) else (none))=some r:=by first|(rw [hji34] at H;exact H)|(simp only [hji34] at H ⊢;exact H)
 (try rw [hji34] at A3)
 (try rw [hji34] at A4)
 (try rw [hji34] at A15)
 have hji34w:(IntKind.i64.wrap (3+t187))=ji34:=(i64_w _).trans hji34
 by_cases c35:0≤(ji34)
 ·rw [if_pos c35] at H
  have c35b0:=eq_true c35
  have c35b1:decide (0≤(ji34))=true:=decide_eq_true c35
  clear c35
  by_cases c36:(ji34)≤(y184.length:Int)
  ·rw [if_pos c36] at H
   have c36b0:=eq_true c36
   have c36b1:decide ((ji34)≤(y184.length:Int))=true:=decide_eq_true c36
   clear c36
   obtain⟨y205,hy205⟩:∃y_:List (S51),y_=(y184.take ((ji34):Int).toNat):=⟨_,rfl⟩
   replace H:(some y205)=some r:=by first|(rw [hy205];with_reducible exact H)|(have H2_:=(Option.bind_some _ _).symm.trans H;rw [hy205];with_reducible exact H2_)|(have H2_:=(Option.bind_some _ _).symm.trans H;with_reducible exact H2_)|with_reducible exact H|(rw [hy205];exact H)|exact H
   have Ny205:=Aside0.mk hy205
   clear hy205
   obtain rfl:=Option.some.inj H
   go_enter Tryz.func13,Tryz.ntmps13
   go_wp2_with (first|((with_reducible refine gate_dst (N:=14) rfl ?_);(try (refine gate_guard (by rfl) ?_;dsimp only));refine Kd.R_lit k51 _ 51 ?hg (N:=14) ?hd (xs:=([(⟨(⟨#[97]⟩:ByteArray),1⟩:S51),(⟨(⟨#[97]⟩:ByteArray),2⟩:S51),(⟨(⟨#[98]⟩:ByteArray),3⟩:S51),(⟨(⟨#[99]⟩:ByteArray),1⟩:S51),(⟨(⟨#[99]⟩:ByteArray),2⟩:S51),(⟨(⟨#[100]⟩:ByteArray),3⟩:S51),(⟨(⟨#[120]⟩:ByteArray),2⟩:S51)]:List (S51))) (inner:=[.string (⟨#[97]⟩:ByteArray),.int .i64 1,.string (⟨#[97]⟩:ByteArray),.int .i64 2,.string (⟨#[98]⟩:ByteArray),.int .i64 3,.string (⟨#[99]⟩:ByteArray),.int .i64 1,.string (⟨#[99]⟩:ByteArray),.int .i64 2,.string (⟨#[100]⟩:ByteArray),.int .i64 3,.string (⟨#[120]⟩:ByteArray),.int .i64 2]) (ok:=fun _=>True) (okp:=fun _=>True) ?hr ?hp (fun _ hk=>hk) trivial (Below.refl _ _) (Nat.le_refl _) (by simp) ?_;(case hd=>rfl);(case hg=>rfl);(case hr=>first|(go_simp;done)|(go_simp;rfl));(case hp=>exact(Reps.c2 (show Kd.M k51 _ _ _ (⟨(⟨#[97]⟩:ByteArray),1⟩:S51) [.string (⟨#[97]⟩:ByteArray),.int .i64 1] from(k51_mkM _ _ _ (⟨(⟨#[97]⟩:ByteArray),1⟩:S51))) (Reps.c2 (show Kd.M k51 _ _ _ (⟨(⟨#[97]⟩:ByteArray),2⟩:S51) [.string (⟨#[97]⟩:ByteArray),.int .i64 2] from(k51_mkM _ _ _ (⟨(⟨#[97]⟩:ByteArray),2⟩:S51))) (Reps.c2 (show Kd.M k51 _ _ _ (⟨(⟨#[98]⟩:ByteArray),3⟩:S51) [.string (⟨#[98]⟩:ByteArray),.int .i64 3] from(k51_mkM _ _ _ (⟨(⟨#[98]⟩:ByteArray),3⟩:S51))) (Reps.c2 (show Kd.M k51 _ _ _ (⟨(⟨#[99]⟩:ByteArray),1⟩:S51) [.string (⟨#[99]⟩:ByteArray),.int .i64 1] from(k51_mkM _ _ _ (⟨(⟨#[99]⟩:ByteArray),1⟩:S51))) (Reps.c2 (show Kd.M k51 _ _ _ (⟨(⟨#[99]⟩:ByteArray),2⟩:S51) [.string (⟨#[99]⟩:ByteArray),.int .i64 2] from(k51_mkM _ _ _ (⟨(⟨#[99]⟩:ByteArray),2⟩:S51))) (Reps.c2 (show Kd.M k51 _ _ _ (⟨(⟨#[100]⟩:ByteArray),3⟩:S51) [.string (⟨#[100]⟩:ByteArray),.int .i64 3] from(k51_mkM _ _ _ (⟨(⟨#[100]⟩:ByteArray),3⟩:S51))) (Reps.c2 (show Kd.M k51 _ _ _ (⟨(⟨#[120]⟩:ByteArray),2⟩:S51) [.string (⟨#[120]⟩:ByteArray),.int .i64 2] from(k51_mkM _ _ _ (⟨(⟨#[120]⟩:ByteArray),2⟩:S51))) (Reps.none _ _)))))))));intro v185 w37 ho38 hb hg_ hnew_;clear hg_ hnew_;(first|rw [←Ny184.out] at ho38|(simp only [Int.reduceToNat] at ho38;rw [←Ny184.out] at ho38));have n0_:=Aside0.mk (Kd.R_lower ho38 (below_size (by repeat (first|(with_reducible first|exact HB.out|apply below_alloc|apply pw_below_drewN|apply below_drew1)|exact HB.out))));have n1_:=Aside0.mk (below_step (by repeat (first|(with_reducible first|exact HB.out|apply below_alloc|apply pw_below_drewN|apply below_drew1)|exact HB.out)) hb);clear HB;have HO186:=n0_;have HB:=n1_;clear n0_ n1_;clear hb ho38)|((with_reducible refine gate_callee (f:=29) rfl ?_);refine goesL_ (some 16) rfl rfl Tryz.func29 (by kernel_rfl) rfl #[.int .i64 a0,.int .i64 5] rfl (by(try simp only [List.map_toArray,List.map_cons,List.map_nil]);first|done|rfl|(simp only [List.length_drop,List.length_take];rfl)) ?_;(with_reducible refine(canopylaw1_within.calls a0 5 t187 _ A3.out).mono ?_);rintro e w' ⟨rfl,⟨nd,rfl⟩⟩;refine⟨_,rfl,?_⟩)|((with_reducible refine gate_callee (f:=29) rfl ?_);refine goesL_ (some 19) rfl rfl Tryz.func29 (by kernel_rfl) rfl #[.int .i64 a0,.int .i64 7] rfl (by(try simp only [List.map_toArray,List.map_cons,List.map_nil]);first|done|rfl|(simp only [List.length_drop,List.length_take];rfl)) ?_;(with_reducible refine(canopylaw1_within.calls a0 7 t188 _ A4.out).mono ?_);rintro e w' ⟨rfl,⟨nd,rfl⟩⟩;refine⟨_,rfl,?_⟩)|((with_reducible refine gate_callee (f:=29) rfl ?_);refine goesL_ (some 32) rfl rfl Tryz.func29 (by kernel_rfl) rfl #[.int .i64 a0,.int .i64 11] rfl (by(try simp only [List.map_toArray,List.map_cons,List.map_nil]);first|done|rfl|(simp only [List.length_drop,List.length_take];rfl)) ?_;(with_reducible refine(canopylaw1_within.calls a0 11 t195 _ A15.out).mono ?_);rintro e w' ⟨rfl,⟨nd,rfl⟩⟩;refine⟨_,rfl,?_⟩;obtain⟨Ao39,co39,eo39⟩:=Kd.R_slice HO186.out;subst eo39;have q40:((ji34):Int)≤((y184.length:Int):Int):=of_decide_eq_true (by first|(with_reducible assumption)|assumption);obtain⟨i040,hi040,_,hsz40,_⟩:=info_parts info51;have hcut40:=cut_to (P:=Tryz.prog) 24 51 .i64 Tryz.underlying24 hi040 Ao39 y184.length co39 (ji34) (of_decide_eq_true (by first|(with_reducible assumption)|assumption)) q40 (Kd.R_reads' HO186.out).2.1;have hr40:=Kd.R_take (m:=((ji34):Int).toNat) HO186.out (by omega);have hy40:y205.length=((ji34):Int).toNat:=(by rw [Ny205.out,List.length_take];omega);rw [←Ny205.out] at hr40;rw [←hy40] at hr40 hcut40;clear hy40 hi040 hsz40 HO186;have HO207:=Aside0.mk hr40;clear hr40;replace q40:=eq_true q40))
   go_ret
   exact⟨_,by first|rfl|(simp [errW_none,errW_some]<;>rfl)|(simp only [←hji34];first|rfl|(simp [errW_none,errW_some]<;>rfl))|(simp [*,errW_none,errW_some]<;>rfl),by(with_reducible repeat (first|apply Kd.R_alloc|apply Kd.R_drewN|apply Kd.R_drew));exact HO207.out,by repeat (first|(with_reducible first|exact HB.out|apply below_alloc|apply pw_below_drewN|apply below_drew1)|exact HB.out)⟩
  rw [if_neg c36] at H
  exact absurd H (by simp)
 rw [if_neg c35] at H
 exact absurd H (by simp)
end Go.Proofs.YtejpijgfpbcibaaGreat.P
