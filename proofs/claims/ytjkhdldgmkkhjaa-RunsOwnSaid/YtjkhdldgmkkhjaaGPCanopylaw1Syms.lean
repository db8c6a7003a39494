/- Words and walks of this claim: PCanopylaw1Syms. -/
import Derived.Test.YtjkhdldgmkkhjaaGMFar
import Derived.Test.YtjkhdldgmkkhjaaGP0Etc
set_option linter.unusedVariables false
set_option linter.unusedSimpArgs false
set_option linter.unnecessarySimpa false
namespace Go.Proofs.Ytjkhdldgmkkhjaa.P
open Go.RowKit Go.Proofs.YtjkhdldgmkkhjaaW.PrintWords Go.Proofs.YtjkhdldgmkkhjaaW.PrintLast Go.Proofs.YtjkhdldgmkkhjaaW.PrintMore
attribute [local go_sem] max2_int min2_int max_two min_two max_three min_three max_four min_four   -- for this text's walks alone
def canopylaw1_Syms.f (a0:Int) (l1:List Int):Option ((List (S46))):=(some (([(⟨(⟨#[97]⟩:ByteArray),1⟩:S46),(⟨(⟨#[97]⟩:ByteArray),2⟩:S46),(⟨(⟨#[98]⟩:ByteArray),3⟩:S46),(⟨(⟨#[99]⟩:ByteArray),1⟩:S46),(⟨(⟨#[99]⟩:ByteArray),2⟩:S46),(⟨(⟨#[100]⟩:ByteArray),3⟩:S46),(⟨(⟨#[120]⟩:ByteArray),2⟩:S46)]:List (S46)):List (S46))).bind fun y118=>((canopylaw1_within.f a0 5).bind fun t121=>((canopylaw1_within.f a0 7).bind fun t122=>(if t122=1 then (if 2 < (y118.length:Int) then (if 1 < (y118.length:Int) then (if 0 < (y118.length:Int) then (some (([(⟨(rd_T46 y118 2).f0,(rd_T46 y118 2).f1⟩:S46),(⟨(rd_T46 y118 1).f0,(rd_T46 y118 1).f1⟩:S46),(⟨(rd_T46 y118 0).f0,(rd_T46 y118 0).f1⟩:S46)]:List (S46)))) else (none)) else (none)) else (none)) else ((canopylaw1_within.f a0 11).bind fun t129=>(if t129=2 then (if (l1.length:Int) > 0 then (if 0 < (l1.length:Int) then ((canopylaw1_within.f (rd l1 0) 7).bind fun t131=>(if 0≤t131 then (if t131 < (y118.length:Int) then (some (([(⟨(rd_T46 y118 t131).f0,(rd_T46 y118 t131).f1⟩:S46)]:List (S46)))) else (none)) else (none))) else (none)) else (if 0≤(wrap64 (3+t121)) then (if (wrap64 (3+t121))≤(y118.length:Int) then (some (y118.take ((wrap64 (3+t121)):Int).toNat)) else (none)) else (none))) else (if 0≤(wrap64 (3+t121)) then (if (wrap64 (3+t121))≤(y118.length:Int) then (some (y118.take ((wrap64 (3+t121)):Int).toNat)) else (none)) else (none)))))))
def canopylaw1_Syms.T4:Bool × List (List Nat × List Nat):=(true,[([],[]),([0],[0]),([1],[1]),([],[]),([3],[3]),([4],[4]),([],[]),([6],[6]),([7],[7]),([2,5,8],[2,5,8]),([9,0,1,2,3,4,5,6,7,8,9],[9])])
def canopylaw1_Syms.B4:List Nat:=[0,1,3,0,8,24,0,64,192,511,1023]
theorem canopylaw1_Syms.tab4:rtab .any (opsOf Try.f13 4)=canopylaw1_Syms.T4:=by kernel_rfl
theorem canopylaw1_Syms.bits4:waitsOk canopylaw1_Syms.T4.2 canopylaw1_Syms.B4=true:=by kernel_rfl
set_option maxHeartbeats 8000000 in
set_option maxRecDepth 100000 in
theorem canopylaw1_Syms.calls (a0:Int) (A1:Option Addr) (c1:Nat) (l1:List Int) (r:List (S46)) (w:World) (hr1:Kd.C (Kd.int .i64) w A1 l1.length l1) (hc1:l1.length≤c1) (h:canopylaw1_Syms.f a0 l1=some r) :
 Calls Try.prog 13 #[.int .i64 a0,.slice A1 l1.length c1] w fun e w'=>∃v0_:Value,e=.returned (v0_)∧Kd.R k46 46 w' w.heap.size (fun _=>True) v0_ r∧Below w.heap.size w w':=by
 have hu46:=Try.underlying46
 have HR1:=Aside0.mk hr1
 have HC1:=Aside0.mk hc1
 clear hr1 hc1
 have HB:=Aside0.mk (Below.refl w.heap.size w)
 have H:((some (([(⟨(⟨#[97]⟩:ByteArray),1⟩:S46),(⟨(⟨#[97]⟩:ByteArray),2⟩:S46),(⟨(⟨#[98]⟩:ByteArray),3⟩:S46),(⟨(⟨#[99]⟩:ByteArray),1⟩:S46),(⟨(⟨#[99]⟩:ByteArray),2⟩:S46),(⟨(⟨#[100]⟩:ByteArray),3⟩:S46),(⟨(⟨#[120]⟩:ByteArray),2⟩:S46)]:List (S46)):List (S46))).bind fun y118=>((canopylaw1_within.f a0 5).bind fun t121=>((canopylaw1_within.f a0 7).bind fun t122=>(if t122=1 then (if 2 < (y118.length:Int) then (if 1 < (y118.length:Int) then (if 0 < (y118.length:Int) then (some (([(⟨(rd_T46 y118 2).f0,(rd_T46 y118 2).f1⟩:S46),(⟨(rd_T46 y118 1).f0,(rd_T46 y118 1).f1⟩:S46),(⟨(rd_T46 y118 0).f0,(rd_T46 y118 0).f1⟩:S46)]:List (S46)))) else (none)) else (none)) else (none)) else ((canopylaw1_within.f a0 11).bind fun t129=>(if t129=2 then (if (l1.length:Int) > 0 then (if 0 < (l1.length:Int) then ((canopylaw1_within.f (rd l1 0) 7).bind fun t131=>(if 0≤t131 then (if t131 < (y118.length:Int) then (some (([(⟨(rd_T46 y118 t131).f0,(rd_T46 y118 t131).f1⟩:S46)]:List (S46)))) else (none)) else (none))) else (none)) else (if 0≤(wrap64 (3+t121)) then (if (wrap64 (3+t121))≤(y118.length:Int) then (some (y118.take ((wrap64 (3+t121)):Int).toNat)) else (none)) else (none))) else (if 0≤(wrap64 (3+t121)) then (if (wrap64 (3+t121))≤(y118.length:Int) then (some (y118.take ((wrap64 (3+t121)):Int).toNat)) else (none)) else (none))))))))=some r:=h
 clear h
 obtain⟨y118,hy118⟩:∃y_:List (S46),y_=(([(⟨(⟨#[97]⟩:ByteArray),1⟩:S46),(⟨(⟨#[97]⟩:ByteArray),2⟩:S46),(⟨(⟨#[98]⟩:ByteArray),3⟩:S46),(⟨(⟨#[99]⟩:ByteArray),1⟩:S46),(⟨(⟨#[99]⟩:ByteArray),2⟩:S46),(⟨(⟨#[100]⟩:ByteArray),3⟩:S46),(⟨(⟨#[120]⟩:ByteArray),2⟩:S46)]:List (S46))):=⟨_,rfl⟩
 replace H:((canopylaw1_within.f a0 5).bind fun t121=>((canopylaw1_within.f a0 7).bind fun t122=>(if t122=1 then (if 2 < (y118.length:Int) then (if 1 < (y118.length:Int) then (if 0 < (y118.length:Int) then (some (([(⟨(rd_T46 y118 2).f0,(rd_T46 y118 2).f1⟩:S46),(⟨(rd_T46 y118 1).f0,(rd_T46 y118 1).f1⟩:S46),(⟨(rd_T46 y118 0).f0,(rd_T46 y118 0).f1⟩:S46)]:List (S46)))) else (none)) else (none)) else (none)) else ((canopylaw1_within.f a0 11).bind fun t129=>(if t129=2 then (if (l1.length:Int) > 0 then (if 0 < (l1.length:Int) then ((canopylaw1_within.f (rd l1 0) 7).bind fun t131=>(if 0≤t131 then (if t131 < (y118.length:Int) then (some (([(⟨(rd_T46 y118 t131).f0,(rd_T46 y118 t131).f1⟩:S46)]:List (S46)))) else (none)) else (none))) else (none)) else (if 0≤(wrap64 (3+t121)) then (if (wrap64 (3+t121))≤(y118.length:Int) then (some (y118.take ((wrap64 (3+t121)):Int).toNat)) else (none)) else (none))) else (if 0≤(wrap64 (3+t121)) then (if (wrap64 (3+t121))≤(y118.length:Int) then (some (y118.take ((wrap64 (3+t121)):Int).toNat)) else (none)) else (none)))))))=some r:=by first|(rw [hy118];with_reducible exact H)|(have H2_:=(Option.bind_some _ _).symm.trans H;rw [hy118];with_reducible exact H2_)|(have H2_:=(Option.bind_some _ _).symm.trans H;with_reducible exact H2_)|with_reducible exact H|(rw [hy118];exact H)|exact H
 have Ny118:=Aside0.mk hy118
 clear hy118
 replace H:=Option.bind_eq_some_iff.mp H
 obtain⟨t121,A30,H⟩:=H
 replace H:((canopylaw1_within.f a0 7).bind fun t122=>(if t122=1 then (if 2 < (y118.length:Int) then (if 1 < (y118.length:Int) then (if 0 < (y118.length:Int) then (some (([(⟨(rd_T46 y118 2).f0,(rd_T46 y118 2).f1⟩:S46),(⟨(rd_T46 y118 1).f0,(rd_T46 y118 1).f1⟩:S46),(⟨(rd_T46 y118 0).f0,(rd_T46 y118 0).f1⟩:S46)]:List (S46)))) else (none)) else (none)) else (none)) else ((canopylaw1_within.f a0 11).bind fun t129=>(if t129=2 then (if (l1.length:Int) > 0 then (if 0 < (l1.length:Int) then ((canopylaw1_within.f (rd l1 0) 7).bind fun t131=>(if 0≤t131 then (if t131 < (y118.length:Int) then (some (([(⟨(rd_T46 y118 t131).f0,(rd_T46 y118 t131).f1⟩:S46)]:List (S46)))) else (none)) else (none))) else (none)) else (if 0≤(wrap64 (3+t121)) then (if (wrap64 (3+t121))≤(y118.length:Int) then (some (y118.take ((wrap64 (3+t121)):Int).toNat)) else (none)) else (none))) else (if 0≤(wrap64 (3+t121)) then (if (wrap64 (3+t121))≤(y118.length:Int) then (some (y118.take ((wrap64 (3+t121)):Int).toNat)) else (none)) else (none))))))=some r:=H
 have A3:=Aside0.mk A30
 clear A30
 replace H:=Option.bind_eq_some_iff.mp H
 obtain⟨t122,A40,H⟩:=H
 replace H:(if t122=1 then (if 2 < (y118.length:Int) then (if 1 < (y118.length:Int) then (if 0 < (y118.length:Int) then (some (([(⟨(rd_T46 y118 2).f0,(rd_T46 y118 2).f1⟩:S46),(⟨(rd_T46 y118 1).f0,(rd_T46 y118 1).f1⟩:S46),(⟨(rd_T46 y118 0).f0,(rd_T46 y118 0).f1⟩:S46)]:List (S46)))) else (none)) else (none)) else (none)) else ((canopylaw1_within.f a0 11).bind fun t129=>(if t129=2 then (if (l1.length:Int) > 0 then (if 0 < (l1.length:Int) then ((canopylaw1_within.f (rd l1 0) 7).bind fun t131=>(if 0≤t131 then (if t131 < (y118.length:Int) then (some (([(⟨(rd_T46 y118 t131).f0,(rd_T46 y118 t131).f1⟩:S46)]:List (S46)))) else (none)) else (none))) else (none)) else (if 0≤(wrap64 (3+t121)) then (if (wrap64 (3+t121))≤(y118.length:Int) then (some (y118.take ((wrap64 (3+t121)):Int).toNat)) else (none)) else (none))) else (if 0≤(wrap64 (3+t121)) then (if (wrap64 (3+t121))≤(y118.length:Int) then (some (y118.take ((wrap64 (3+t121)):Int).toNat)) else (none)) else (none)))))=some r:=H
 have A4:=Aside0.mk A40
 clear A40
 by_cases c5:t122=1
 ·rw [if_pos c5] at H
  have c5b0:(t122 == 1)=true:=beq_iff_eq.mpr c5
  have c5b1:(t122 != 1)=false:=bne_eq_false_iff_eq.mpr c5
  clear c5
  by_cases c6:2 < (y118.length:Int)
  ·rw [if_pos c6] at H
   have c6b0:decide (2 < (y118.length:Int))=true:=decide_eq_true c6
   have c6b1:decide (2 < y118.length)=true:=decide_eq_true (by omega)
   clear c6
   by_cases c7:1 < (y118.length:Int)
   ·rw [if_pos c7] at H
    have c7b0:decide (1 < (y118.length:Int))=true:=decide_eq_true c7
    have c7b1:decide (1 < y118.length)=true:=decide_eq_true (by omega)
    clear c7
    by_cases c8:0 < (y118.length:Int)
    ·rw [if_pos c8] at H
     have c8b0:decide (0 < (y118.length:Int))=true:=decide_eq_true c8
     have c8b1:decide (0 < y118.length)=true:=decide_eq_true (by omega)
     clear c8
     obtain⟨y126,hy126⟩:∃y_:List (S46),y_=(([(⟨(rd_T46 y118 2).f0,(rd_T46 y118 2).f1⟩:S46),(⟨(rd_T46 y118 1).f0,(rd_T46 y118 1).f1⟩:S46),(⟨(rd_T46 y118 0).f0,(rd_T46 y118 0).f1⟩:S46)]:List (S46))):=⟨_,rfl⟩
     replace H:(some y126)=some r:=by first|(rw [hy126];with_reducible exact H)|(have H2_:=(Option.bind_some _ _).symm.trans H;rw [hy126];with_reducible exact H2_)|(have H2_:=(Option.bind_some _ _).symm.trans H;with_reducible exact H2_)|with_reducible exact H|(rw [hy126];exact H)|exact H
     have Ny126:=Aside0.mk hy126
     clear hy126
     obtain rfl:=Option.some.inj H
     go_enter Try.func13,Try.ntmps13
     try go_wp2_with (first|((with_reducible refine gate_dst (N:=14) rfl ?_);(try (refine gate_guard (by rfl) ?_;dsimp only));refine Kd.R_lit k46 _ 46 ?hg (N:=14) ?hd (xs:=([(⟨(⟨#[97]⟩:ByteArray),1⟩:S46),(⟨(⟨#[97]⟩:ByteArray),2⟩:S46),(⟨(⟨#[98]⟩:ByteArray),3⟩:S46),(⟨(⟨#[99]⟩:ByteArray),1⟩:S46),(⟨(⟨#[99]⟩:ByteArray),2⟩:S46),(⟨(⟨#[100]⟩:ByteArray),3⟩:S46),(⟨(⟨#[120]⟩:ByteArray),2⟩:S46)]:List (S46))) (inner:=[.string (⟨#[97]⟩:ByteArray),.int .i64 1,.string (⟨#[97]⟩:ByteArray),.int .i64 2,.string (⟨#[98]⟩:ByteArray),.int .i64 3,.string (⟨#[99]⟩:ByteArray),.int .i64 1,.string (⟨#[99]⟩:ByteArray),.int .i64 2,.string (⟨#[100]⟩:ByteArray),.int .i64 3,.string (⟨#[120]⟩:ByteArray),.int .i64 2]) (ok:=fun _=>True) (okp:=fun _=>True) ?hr ?hp (fun _ hk=>hk) trivial (Below.refl _ _) (Nat.le_refl _) (by simp) ?_;(case hd=>rfl);(case hg=>rfl);(case hr=>first|(go_simp;done)|(go_simp;rfl));(case hp=>exact(Reps.c2 (show Kd.M k46 _ _ _ (⟨(⟨#[97]⟩:ByteArray),1⟩:S46) [.string (⟨#[97]⟩:ByteArray),.int .i64 1] from(k46_mkM _ _ _ (⟨(⟨#[97]⟩:ByteArray),1⟩:S46))) (Reps.c2 (show Kd.M k46 _ _ _ (⟨(⟨#[97]⟩:ByteArray),2⟩:S46) [.string (⟨#[97]⟩:ByteArray),.int .i64 2] from(k46_mkM _ _ _ (⟨(⟨#[97]⟩:ByteArray),2⟩:S46))) (Reps.c2 (show Kd.M k46 _ _ _ (⟨(⟨#[98]⟩:ByteArray),3⟩:S46) [.string (⟨#[98]⟩:ByteArray),.int .i64 3] from(k46_mkM _ _ _ (⟨(⟨#[98]⟩:ByteArray),3⟩:S46))) (Reps.c2 (show Kd.M k46 _ _ _ (⟨(⟨#[99]⟩:ByteArray),1⟩:S46) [.string (⟨#[99]⟩:ByteArray),.int .i64 1] from(k46_mkM _ _ _ (⟨(⟨#[99]⟩:ByteArray),1⟩:S46))) (Reps.c2 (show Kd.M k46 _ _ _ (⟨(⟨#[99]⟩:ByteArray),2⟩:S46) [.string (⟨#[99]⟩:ByteArray),.int .i64 2] from(k46_mkM _ _ _ (⟨(⟨#[99]⟩:ByteArray),2⟩:S46))) (Reps.c2 (show Kd.M k46 _ _ _ (⟨(⟨#[100]⟩:ByteArray),3⟩:S46) [.string (⟨#[100]⟩:ByteArray),.int .i64 3] from(k46_mkM _ _ _ (⟨(⟨#[100]⟩:ByteArray),3⟩:S46))) (Reps.c2 (show Kd.M k46 _ _ _ (⟨(⟨#[120]⟩:ByteArray),2⟩:S46) [.string (⟨#[120]⟩:ByteArray),.int .i64 2] from(k46_mkM _ _ _ (⟨(⟨#[120]⟩:ByteArray),2⟩:S46))) (Reps.none _ _)))))))));intro v119 w9 ho10 hb hg_ hnew_;clear hg_ hnew_;(first|rw [←Ny118.out] at ho10|(simp only [Int.reduceToNat] at ho10;rw [←Ny118.out] at ho10));have n0_:=Aside0.mk (Kd.R_lower ho10 (below_size (by repeat (first|(with_reducible first|exact HB.out|apply below_alloc|apply pw_below_drewN|apply below_drew1)|exact HB.out))));have n1_:=Aside0.mk (below_step (by repeat (first|(with_reducible first|exact HB.out|apply below_alloc|apply pw_below_drewN|apply below_drew1)|exact HB.out)) hb);clear HB;have HO120:=n0_;have HB:=n1_;clear n0_ n1_;clear hb ho10)|((with_reducible refine gate_callee (f:=30) rfl ?_);refine goesL_ (some 16) rfl rfl Try.func30 (by kernel_rfl) rfl #[.int .i64 a0,.int .i64 5] rfl (by(try simp only [List.map_toArray,List.map_cons,List.map_nil]);first|done|rfl|(simp only [List.length_drop,List.length_take];rfl)) ?_;(with_reducible refine(canopylaw1_within.calls a0 5 t121 _ A3.out).mono ?_);rintro e w' ⟨rfl,⟨nd,rfl⟩⟩;refine⟨_,rfl,?_⟩)|((with_reducible refine gate_callee (f:=30) rfl ?_);refine goesL_ (some 19) rfl rfl Try.func30 (by kernel_rfl) rfl #[.int .i64 a0,.int .i64 7] rfl (by(try simp only [List.map_toArray,List.map_cons,List.map_nil]);first|done|rfl|(simp only [List.length_drop,List.length_take];rfl)) ?_;(with_reducible refine(canopylaw1_within.calls a0 7 t122 _ A4.out).mono ?_);rintro e w' ⟨rfl,⟨nd,rfl⟩⟩;refine⟨_,rfl,?_⟩))
     (try (rw [drewN_self w9];generalize hq_:World.drewN w9 _=w9;have n0_:Aside0 (Kd.R k46 46 w9 w.heap.size (fun _=>True) v119 y118):=⟨by rw [←hq_];exact(by(with_reducible repeat (first|apply Kd.R_alloc|apply Kd.R_drewN|apply Kd.R_drew));exact HO120.out)⟩;have n1_:Aside0 (Below w.heap.size w w9):=⟨by rw [←hq_];exact(by repeat (first|(with_reducible first|exact HB.out|apply below_alloc|apply pw_below_drewN|apply below_drew1)|exact HB.out))⟩;clear HO120 HB hq_;have HO120:=n0_;have HB:=n1_;clear n0_ n1_))
     have n0_:=Aside0.mk (Kd.R_drew HO120.out)
     have n1_:=Aside0.mk (below_drew1 HB.out)
     clear HO120
     clear HB
     have HO120:=n0_
     have HB:=n1_
     clear n0_ n1_
     obtain⟨Ao12,co12,eo12⟩:=Kd.R_slice HO120.out
     (first|subst eo12|(injection eo12 with f1_ f2_ f3_;have f4_:=f1_.symm;have f5_:=f3_.symm;clear f1_ f2_ f3_;subst f4_;subst f5_))
     have p123:0≤(2:Int):=(by omega)
     have q123:2 < (y118.length:Int):=of_decide_eq_true (by first|(with_reducible assumption)|assumption)
     obtain⟨ad123,e123,hx123_0,hx123_1⟩:=at_T46 (Kd.R_reads' HO120.out).2.2 2 p123 q123
     cases e123
     (try simp only [show (2:Int).toNat=2 from rfl,Nat.reduceMul,Nat.reduceEqDiff,Go.Addr.add,↓reduceIte] at hx123_0)
     (try simp only [show (2:Int).toNat=2 from rfl,Nat.reduceMul,Nat.reduceEqDiff,Go.Addr.add,↓reduceIte] at hx123_1)
     have qi123:(2 < y118.length)=True:=eq_true (by omega)
     (try rw [show ((2:Int)).toNat=2 from rfl] at hx123_0)
     (try rw [show 2*2=4 from rfl] at hx123_0)
     (try rw [show ((2:Int)).toNat=2 from rfl] at hx123_1)
     (try rw [show 2*2=4 from rfl] at hx123_1)
     replace p123:=eq_true p123
     replace q123:=eq_true q123
     have p124:0≤(1:Int):=(by omega)
     have q124:1 < (y118.length:Int):=of_decide_eq_true (by first|(with_reducible assumption)|assumption)
     obtain⟨ad124,e124,hx124_0,hx124_1⟩:=at_T46 (Kd.R_reads' HO120.out).2.2 1 p124 q124
     obtain rfl:ad123=ad124:=(by injection e124)
     (try simp only [show (1:Int).toNat=1 from rfl,Nat.reduceMul,Nat.reduceEqDiff,Go.Addr.add,↓reduceIte] at hx124_0)
     (try simp only [show (1:Int).toNat=1 from rfl,Nat.reduceMul,Nat.reduceEqDiff,Go.Addr.add,↓reduceIte] at hx124_1)
     have qi124:(1 < y118.length)=True:=eq_true (by omega)
     (try rw [show ((1:Int)).toNat=1 from rfl] at hx124_0)
     (try rw [show 1*2=2 from rfl] at hx124_0)
     (try rw [show ((1:Int)).toNat=1 from rfl] at hx124_1)
     (try rw [show 1*2=2 from rfl] at hx124_1)
     replace p124:=eq_true p124
     replace q124:=eq_true q124
     have p125:0≤(0:Int):=(by omega)
     have q125:0 < (y118.length:Int):=of_decide_eq_true (by first|(with_reducible assumption)|assumption)
     obtain⟨ad125,e125,hx125_0,hx125_1⟩:=at_T46 (Kd.R_reads' HO120.out).2.2 0 p125 q125
     obtain rfl:ad123=ad125:=(by injection e125)
     have qi125:(0 < y118.length)=True:=eq_true (by omega)
     (try rw [show ((0:Int)).toNat=0 from rfl] at hx125_0)
     (try rw [show 0*2=0 from rfl] at hx125_0)
     (try rw [Addr.add_zero'] at hx125_0)
     (try rw [show ((0:Int)).toNat=0 from rfl] at hx125_1)
     (try rw [show 0*2=0 from rfl] at hx125_1)
     (try rw [Addr.add_zero'] at hx125_1)
     replace p125:=eq_true p125
     replace q125:=eq_true q125
     refine start_ (n:=11) (S:=fun w'=>w'.cell? ⟨ad123.block,ad123.off+4,none⟩=some (.string ((rd_T46 y118 2).f0))∧w'.cell? ⟨ad123.block,ad123.off+4+1,none⟩=some (.int .i64 ((rd_T46 y118 2).f1))∧w'.cell? ⟨ad123.block,ad123.off+2,none⟩=some (.string ((rd_T46 y118 1).f0))∧w'.cell? ⟨ad123.block,ad123.off+2+1,none⟩=some (.int .i64 ((rd_T46 y118 1).f1))∧w'.cell? ad123=some (.string ((rd_T46 y118 0).f0))∧w'.cell? ⟨ad123.block,ad123.off+1,none⟩=some (.int .i64 ((rd_T46 y118 0).f1))) (ds:=[]) #[false,false,false,false,false,false,false,false,false,false,false] (by kernel_rfl) rfl rfl ⟨hx123_0,hx123_1,hx124_0,hx124_1,hx125_0,hx125_1⟩ (fun hHeld=>?_);refine with_tabW canopylaw1_Syms.tab4 canopylaw1_Syms.bits4 (fun HT_ HW_=>?_)
     generalize w9.drew=w11 at HO120 HB hx123_0 hx123_1 hx124_0 hx124_1 hx125_0 hx125_1 hHeld ⊢
     refine pure_ (i:=0) (N:=some 21) (v:=?_) (a':=?_) #[true,false,false,false,false,false,false,false,false,false,false] rfl rfl (any_of HT_.out (by kernel_rfl)) (fun _ _ _ h=>h) (Or.inl ⟨by rfl,?_⟩) ?_ ?_
     rotate_left
     ·intro w'
      go_simp
      with_reducible rfl
     rotate_left
     ·simp only [Act.put, M.sq3, i64_w, i32_w]
      rfl
     refine pure_ (i:=1) (N:=some 22) (v:=?_) (a':=?_) #[true,true,false,false,false,false,false,false,false,false,false] rfl rfl (any_of HT_.out (by kernel_rfl)) (fun _ _ _ h=>h) (Or.inl ⟨by rfl,?_⟩) ?_ ?_
     rotate_left
     ·intro w'
      go_simp
      with_reducible rfl
     rotate_left
     ·simp only [Act.put, M.sq3, i64_w, i32_w]
      rfl
     refine pure_ (i:=3) (N:=some 24) (v:=?_) (a':=?_) #[true,true,false,true,false,false,false,false,false,false,false] rfl rfl (any_of HT_.out (by kernel_rfl)) (fun _ _ _ h=>h) (Or.inl ⟨by rfl,?_⟩) ?_ ?_
     rotate_left
     ·intro w'
      go_simp
      with_reducible rfl
     rotate_left
     ·simp only [Act.put, M.sq3, i64_w, i32_w]
      rfl
     refine pure_ (i:=4) (N:=some 25) (v:=?_) (a':=?_) #[true,true,false,true,true,false,false,false,false,false,false] rfl rfl (any_of HT_.out (by kernel_rfl)) (fun _ _ _ h=>h) (Or.inl ⟨by rfl,?_⟩) ?_ ?_
     rotate_left
     ·intro w'
      go_simp
      with_reducible rfl
     rotate_left
     ·simp only [Act.put, M.sq3, i64_w, i32_w]
      rfl
     refine pure_ (i:=6) (N:=some 27) (v:=?_) (a':=?_) #[true,true,false,true,true,false,true,false,false,false,false] rfl rfl (any_of HT_.out (by kernel_rfl)) (fun _ _ _ h=>h) (Or.inl ⟨by rfl,?_⟩) ?_ ?_
     rotate_left
     ·intro w'
      go_simp
      with_reducible rfl
     rotate_left
     ·simp only [Act.put, M.sq3, i64_w, i32_w]
      rfl
     refine pure_ (i:=7) (N:=some 28) (v:=?_) (a':=?_) #[true,true,false,true,true,false,true,true,false,false,false] rfl rfl (any_of HT_.out (by kernel_rfl)) (fun _ _ _ h=>h) (Or.inl ⟨by rfl,?_⟩) ?_ ?_
     rotate_left
     ·intro w'
      go_simp
      with_reducible rfl
     rotate_left
     ·simp only [Act.put, M.sq3, i64_w, i32_w]
      rfl
     refine take_ (i:=2) (N:=some 23) (v:=?_) (a':=?_) #[true,true,true,true,true,false,true,true,false,false,false] rfl rfl (take_ofW HT_.out HW_.out (by kernel_rfl)) (fun _ _ _ h=>h) (Or.inl ⟨by rfl,?_⟩) hHeld ?_ ?_
     rotate_left
     ·rintro w' ⟨s0, s1, s2, s3, s4, s5⟩
      go_simp
      with_reducible rfl
     rotate_left
     ·simp only [Act.put, M.sq3, i64_w, i32_w]
      rfl
     refine take_ (i:=5) (N:=some 26) (v:=?_) (a':=?_) #[true,true,true,true,true,true,true,true,false,false,false] rfl rfl (take_ofW HT_.out HW_.out (by kernel_rfl)) (fun _ _ _ h=>h) (Or.inl ⟨by rfl,?_⟩) hHeld ?_ ?_
     rotate_left
     ·rintro w' ⟨s0, s1, s2, s3, s4, s5⟩
      go_simp
      with_reducible rfl
     rotate_left
     ·simp only [Act.put, M.sq3, i64_w, i32_w]
      rfl
     refine take_ (i:=8) (N:=some 29) (v:=?_) (a':=?_) #[true,true,true,true,true,true,true,true,true,false,false] rfl rfl (take_ofW HT_.out HW_.out (by kernel_rfl)) (fun _ _ _ h=>h) (Or.inl ⟨by rfl,?_⟩) hHeld ?_ ?_
     rotate_left
     ·rintro w' ⟨s0, s1, s2, s3, s4, s5⟩
      go_simp
      with_reducible rfl
     rotate_left
     ·simp only [Act.put, M.sq3, i64_w, i32_w]
      rfl
     refine one_ (i:=9) (N:=some 30) #[true,true,true,true,true,true,true,true,true,true,false] rfl rfl (one_of HT_.out (by kernel_rfl)) (by decide) (fun K hK=>?_)
     refine Kd.R_lit_step k46 _ 46 ?hg (N:=30) ?hd (xs:=([(⟨(rd_T46 y118 2).f0,(rd_T46 y118 2).f1⟩:S46),(⟨(rd_T46 y118 1).f0,(rd_T46 y118 1).f1⟩:S46),(⟨(rd_T46 y118 0).f0,(rd_T46 y118 0).f1⟩:S46)]:List (S46))) (inner:=[.string ((rd_T46 y118 2).f0),.int .i64 ((rd_T46 y118 2).f1),.string ((rd_T46 y118 1).f0),.int .i64 ((rd_T46 y118 1).f1),.string ((rd_T46 y118 0).f0),.int .i64 ((rd_T46 y118 0).f1)]) (ok:=fun _=>True) (okp:=fun _=>True) ?hr ?hp (fun _ hk=>hk) trivial (Below.refl _ _) (Nat.le_refl _) (by simp) ?_;(case hd=>rfl);(case hg=>rfl);(case hr=>first|(go_simp;done)|(go_simp;rfl));(case hp=>exact(Reps.c2 (show Kd.M k46 _ _ _ (⟨(rd_T46 y118 2).f0,(rd_T46 y118 2).f1⟩:S46) [.string ((rd_T46 y118 2).f0),.int .i64 ((rd_T46 y118 2).f1)] from(k46_mkM _ _ _ (⟨(rd_T46 y118 2).f0,(rd_T46 y118 2).f1⟩:S46))) (Reps.c2 (show Kd.M k46 _ _ _ (⟨(rd_T46 y118 1).f0,(rd_T46 y118 1).f1⟩:S46) [.string ((rd_T46 y118 1).f0),.int .i64 ((rd_T46 y118 1).f1)] from(k46_mkM _ _ _ (⟨(rd_T46 y118 1).f0,(rd_T46 y118 1).f1⟩:S46))) (Reps.c2 (show Kd.M k46 _ _ _ (⟨(rd_T46 y118 0).f0,(rd_T46 y118 0).f1⟩:S46) [.string ((rd_T46 y118 0).f0),.int .i64 ((rd_T46 y118 0).f1)] from(k46_mkM _ _ _ (⟨(rd_T46 y118 0).f0,(rd_T46 y118 0).f1⟩:S46))) (Reps.none _ _)))))
     intro v127 w13 ho14 hb hg_ hnew_
     have HS0_:=(hb.cell (World.block_lt_of_cell? _ _ (hHeld.1))).trans (hHeld.1)
     have HS1_:=(hb.cell (World.block_lt_of_cell? _ _ (hHeld.2.1))).trans (hHeld.2.1)
     have HS2_:=(hb.cell (World.block_lt_of_cell? _ _ (hHeld.2.2.1))).trans (hHeld.2.2.1)
     have HS3_:=(hb.cell (World.block_lt_of_cell? _ _ (hHeld.2.2.2.1))).trans (hHeld.2.2.2.1)
     have HS4_:=(hb.cell (World.block_lt_of_cell? _ _ (hHeld.2.2.2.2.1))).trans (hHeld.2.2.2.2.1)
     have HS5_:=(hb.cell (World.block_lt_of_cell? _ _ (hHeld.2.2.2.2.2))).trans (hHeld.2.2.2.2.2)
     clear hg_ hnew_
     (first|rw [←Ny126.out] at ho14|(simp only [Int.reduceToNat] at ho14;rw [←Ny126.out] at ho14))
     have n0_:=Aside0.mk (Kd.R_elder' (by(with_reducible repeat (first|apply Kd.R_alloc|apply Kd.R_drewN|apply Kd.R_drew));exact HO120.out) (Kd.R_base ho14) hb)
     have n1_:=Aside0.mk (Kd.R_lower (Kd.R_new' ho14 (Kd.R_lt (by(with_reducible repeat (first|apply Kd.R_alloc|apply Kd.R_drewN|apply Kd.R_drew));exact HO120.out))) (below_size (by repeat (first|(with_reducible first|exact HB.out|apply below_alloc|apply pw_below_drewN|apply below_drew1)|exact HB.out))))
     have n2_:=Aside0.mk (below_step (by repeat (first|(with_reducible first|exact HB.out|apply below_alloc|apply pw_below_drewN|apply below_drew1)|exact HB.out)) hb)
     clear HO120
     clear HB
     have HO120:=n0_
     have HO128:=n1_
     have HB:=n2_
     clear n0_ n1_ n2_
     clear hb ho14
     refine hK.out _ _ ⟨HS0_,HS1_,HS2_,HS3_,HS4_,HS5_⟩ (fun hHeld=>?_)
     clear hK K
     refine norm_ (a':=?_) ?_ ?_
     rotate_left
     ·show Act.put _ (some 30) _ = _
      simp only [Act.put,M.sq3,i64_w,i32_w]
      rfl
     refine pure_ (i:=10) (N:=some 4) (v:=?_) (a':=?_) #[true,true,true,true,true,true,true,true,true,true,true] rfl rfl (any_of HT_.out (by kernel_rfl)) (fun _ _ _ h=>h) (Or.inl ⟨by rfl,?_⟩) ?_ ?_
     rotate_left
     ·intro w'
      go_simp
      with_reducible rfl
     rotate_left
     ·simp only [Act.put, M.sq3, i64_w, i32_w]
      rfl
     refine done_ (done_of HT_.out (by kernel_rfl)) ?_
     try go_wp2
     go_ret
     exact⟨_,by first|rfl|(simp [errW_none,errW_some]<;>rfl)|(simp [*,errW_none,errW_some]<;>rfl),by(with_reducible repeat (first|apply Kd.R_alloc|apply Kd.R_drewN|apply Kd.R_drew));exact Kd.R_mono HO128.out (fun _ hk=>trivial),by repeat (first|(with_reducible first|exact HB.out|apply below_alloc|apply pw_below_drewN|apply below_drew1)|exact HB.out)⟩
    rw [if_neg c8] at H
    exact absurd H (by simp)
   rw [if_neg c7] at H
   exact absurd H (by simp)
  rw [if_neg c6] at H
  exact absurd H (by simp)
 rw [if_neg c5] at H
 have c5b0:(t122 == 1)=false:=beq_eq_false_iff_ne.mpr c5
 have c5b1:(t122 != 1)=true:=bne_iff_ne.mpr c5
 replace H:=Option.bind_eq_some_iff.mp H
 obtain⟨t129,A150,H⟩:=H
 replace H:(if t129=2 then (if (l1.length:Int) > 0 then (if 0 < (l1.length:Int) then ((canopylaw1_within.f (rd l1 0) 7).bind fun t131=>(if 0≤t131 then (if t131 < (y118.length:Int) then (some (([(⟨(rd_T46 y118 t131).f0,(rd_T46 y118 t131).f1⟩:S46)]:List (S46)))) else (none)) else (none))) else (none)) else (if 0≤(wrap64 (3+t121)) then (if (wrap64 (3+t121))≤(y118.length:Int) then (some (y118.take ((wrap64 (3+t121)):Int).toNat)) else (none)) else (none))) else (if 0≤(wrap64 (3+t121)) then (if (wrap64 (3+t121))≤(y118.length:Int) then (some (y118.take ((wrap64 (3+t121)):Int).toNat)) else (none)) else (none)))=some r:=H
 have A15:=Aside0.mk A150
 clear A150
 by_cases c16:t129=2
 ·rw [if_pos c16] at H
  have c16b0:(t129 == 2)=true:=beq_iff_eq.mpr c16
  have c16b1:(t129 != 2)=false:=bne_eq_false_iff_eq.mpr c16
  clear c16
  by_cases c17:(l1.length:Int) > 0
  ·rw [if_pos c17] at H
   have c17b0:decide (0 < (l1.length:Int))=true:=decide_eq_true c17
   have c17b1:decide (0 < l1.length)=true:=decide_eq_true (by omega)
   clear c17
   by_cases c18:0 < (l1.length:Int)
   ·rw [if_pos c18] at H
    have c18b0:decide (0 < (l1.length:Int))=true:=decide_eq_true c18
    have c18b1:decide (0 < l1.length)=true:=decide_eq_true (by omega)
    clear c18
    replace H:=Option.bind_eq_some_iff.mp H
    obtain⟨t131,A190,H⟩:=H
    replace H:(if 0≤t131 then (if t131 < (y118.length:Int) then (some (([(⟨(rd_T46 y118 t131).f0,(rd_T46 y118 t131).f1⟩:S46)]:List (S46)))) else (none)) else (none))=some r:=H
    have A19:=Aside0.mk A190
    clear A190
    by_cases c20:0≤t131
    ·rw [if_pos c20] at H
     have c20b0:decide (0≤t131)=true:=decide_eq_true c20
     clear c20
     by_cases c21:t131 < (y118.length:Int)
     ·rw [if_pos c21] at H
      have c21b0:decide (t131 < (y118.length:Int))=true:=decide_eq_true c21
      clear c21
      obtain⟨y133,hy133⟩:∃y_:List (S46),y_=(([(⟨(rd_T46 y118 t131).f0,(rd_T46 y118 t131).f1⟩:S46)]:List (S46))):=⟨_,rfl⟩
      replace H:(some y133)=some r:=by first|(rw [hy133];with_reducible exact H)|(have H2_:=(Option.bind_some _ _).symm.trans H;rw [hy133];with_reducible exact H2_)|(have H2_:=(Option.bind_some _ _).symm.trans H;with_reducible exact H2_)|with_reducible exact H|(rw [hy133];exact H)|exact H
      have Ny133:=Aside0.mk hy133
      clear hy133
      obtain rfl:=Option.some.inj H
      go_enter Try.func13,Try.ntmps13
      go_wp2_with (first|((with_reducible refine gate_dst (N:=14) rfl ?_);(try (refine gate_guard (by rfl) ?_;dsimp only));refine Kd.R_lit k46 _ 46 ?hg (N:=14) ?hd (xs:=([(⟨(⟨#[97]⟩:ByteArray),1⟩:S46),(⟨(⟨#[97]⟩:ByteArray),2⟩:S46),(⟨(⟨#[98]⟩:ByteArray),3⟩:S46),(⟨(⟨#[99]⟩:ByteArray),1⟩:S46),(⟨(⟨#[99]⟩:ByteArray),2⟩:S46),(⟨(⟨#[100]⟩:ByteArray),3⟩:S46),(⟨(⟨#[120]⟩:ByteArray),2⟩:S46)]:List (S46))) (inner:=[.string (⟨#[97]⟩:ByteArray),.int .i64 1,.string (⟨#[97]⟩:ByteArray),.int .i64 2,.string (⟨#[98]⟩:ByteArray),.int .i64 3,.string (⟨#[99]⟩:ByteArray),.int .i64 1,.string (⟨#[99]⟩:ByteArray),.int .i64 2,.string (⟨#[100]⟩:ByteArray),.int .i64 3,.string (⟨#[120]⟩:ByteArray),.int .i64 2]) (ok:=fun _=>True) (okp:=fun _=>True) ?hr ?hp (fun _ hk=>hk) trivial (Below.refl _ _) (Nat.le_refl _) (by simp) ?_;(case hd=>rfl);(case hg=>rfl);(case hr=>first|(go_simp;done)|(go_simp;rfl));(case hp=>exact(Reps.c2 (show Kd.M k46 _ _ _ (⟨(⟨#[97]⟩:ByteArray),1⟩:S46) [.string (⟨#[97]⟩:ByteArray),.int .i64 1] from(k46_mkM _ _ _ (⟨(⟨#[97]⟩:ByteArray),1⟩:S46))) (Reps.c2 (show Kd.M k46 _ _ _ (⟨(⟨#[97]⟩:ByteArray),2⟩:S46) [.string (⟨#[97]⟩:ByteArray),.int .i64 2] from(k46_mkM _ _ _ (⟨(⟨#[97]⟩:ByteArray),2⟩:S46))) (Reps.c2 (show Kd.M k46 _ _ _ (⟨(⟨#[98]⟩:ByteArray),3⟩:S46) [.string (⟨#[98]⟩:ByteArray),.int .i64 3] from(k46_mkM _ _ _ (⟨(⟨#[98]⟩:ByteArray),3⟩:S46))) (Reps.c2 (show Kd.M k46 _ _ _ (⟨(⟨#[99]⟩:ByteArray),1⟩:S46) [.string (⟨#[99]⟩:ByteArray),.int .i64 1] from(k46_mkM _ _ _ (⟨(⟨#[99]⟩:ByteArray),1⟩:S46))) (Reps.c2 (show Kd.M k46 _ _ _ (⟨(⟨#[99]⟩:ByteArray),2⟩:S46) [.string (⟨#[99]⟩:ByteArray),.int .i64 2] from(k46_mkM _ _ _ (⟨(⟨#[99]⟩:ByteArray),2⟩:S46))) (Reps.c2 (show Kd.M k46 _ _ _ (⟨(⟨#[100]⟩:ByteArray),3⟩:S46) [.string (⟨#[100]⟩:ByteArray),.int .i64 3] from(k46_mkM _ _ _ (⟨(⟨#[100]⟩:ByteArray),3⟩:S46))) (Reps.c2 (show Kd.M k46 _ _ _ (⟨(⟨#[120]⟩:ByteArray),2⟩:S46) [.string (⟨#[120]⟩:ByteArray),.int .i64 2] from(k46_mkM _ _ _ (⟨(⟨#[120]⟩:ByteArray),2⟩:S46))) (Reps.none _ _)))))))));intro v119 w22 ho23 hb hg_ hnew_;clear hg_ hnew_;(first|rw [←Ny118.out] at ho23|(simp only [Int.reduceToNat] at ho23;rw [←Ny118.out] at ho23));have n0_:=Aside0.mk (Kd.R_lower ho23 (below_size (by repeat (first|(with_reducible first|exact HB.out|apply below_alloc|apply pw_below_drewN|apply below_drew1)|exact HB.out))));have n1_:=Aside0.mk (below_step (by repeat (first|(with_reducible first|exact HB.out|apply below_alloc|apply pw_below_drewN|apply below_drew1)|exact HB.out)) hb);clear HB;have HO120:=n0_;have HB:=n1_;clear n0_ n1_;clear hb ho23)|((with_reducible refine gate_callee (f:=30) rfl ?_);refine goesL_ (some 16) rfl rfl Try.func30 (by kernel_rfl) rfl #[.int .i64 a0,.int .i64 5] rfl (by(try simp only [List.map_toArray,List.map_cons,List.map_nil]);first|done|rfl|(simp only [List.length_drop,List.length_take];rfl)) ?_;(with_reducible refine(canopylaw1_within.calls a0 5 t121 _ A3.out).mono ?_);rintro e w' ⟨rfl,⟨nd,rfl⟩⟩;refine⟨_,rfl,?_⟩)|((with_reducible refine gate_callee (f:=30) rfl ?_);refine goesL_ (some 19) rfl rfl Try.func30 (by kernel_rfl) rfl #[.int .i64 a0,.int .i64 7] rfl (by(try simp only [List.map_toArray,List.map_cons,List.map_nil]);first|done|rfl|(simp only [List.length_drop,List.length_take];rfl)) ?_;(with_reducible refine(canopylaw1_within.calls a0 7 t122 _ A4.out).mono ?_);rintro e w' ⟨rfl,⟨nd,rfl⟩⟩;refine⟨_,rfl,?_⟩)|((with_reducible refine gate_callee (f:=30) rfl ?_);refine goesL_ (some 32) rfl rfl Try.func30 (by kernel_rfl) rfl #[.int .i64 a0,.int .i64 11] rfl (by(try simp only [List.map_toArray,List.map_cons,List.map_nil]);first|done|rfl|(simp only [List.length_drop,List.length_take];rfl)) ?_;(with_reducible refine(canopylaw1_within.calls a0 11 t129 _ A15.out).mono ?_);rintro e w' ⟨rfl,⟨nd,rfl⟩⟩;refine⟨_,rfl,?_⟩;have p130:0≤(0:Int):=(by omega);have q130:0 < (l1.length:Int):=of_decide_eq_true (by first|(with_reducible assumption)|assumption);obtain⟨ad130,e130,hx130_0⟩:=Kd.at_int HR1.out 0 p130 q130;cases e130;have qi130:(0 < l1.length)=True:=eq_true (by omega);(try rw [show ((0:Int)).toNat=0 from rfl] at hx130_0);(try rw [Addr.add_zero'] at hx130_0);replace hx130_0:=(HB.out.cell (World.block_lt_of_cell? w _ hx130_0)).trans hx130_0;replace p130:=eq_true p130;replace q130:=eq_true q130)|((with_reducible refine gate_callee (f:=30) rfl ?_);refine goesL_ (some 43) rfl rfl Try.func30 (by kernel_rfl) rfl #[.int .i64 (rd l1 0),.int .i64 7] rfl (by(try simp only [List.map_toArray,List.map_cons,List.map_nil]);first|done|rfl|(simp only [List.length_drop,List.length_take];rfl)) ?_;(with_reducible refine(canopylaw1_within.calls (rd l1 0) 7 t131 _ A19.out).mono ?_);rintro e w' ⟨rfl,⟨nd,rfl⟩⟩;refine⟨_,rfl,?_⟩;obtain⟨Ao24,co24,eo24⟩:=Kd.R_slice HO120.out;subst eo24;have p132:0≤(t131:Int):=of_decide_eq_true (by first|(with_reducible assumption)|assumption);have q132:t131 < (y118.length:Int):=of_decide_eq_true (by first|(with_reducible assumption)|assumption);obtain⟨ad132,e132,hx132_0,hx132_1⟩:=at_T46 (Kd.R_reads' HO120.out).2.2 t131 p132 q132;cases e132;replace p132:=eq_true p132;replace q132:=eq_true q132)|((with_reducible refine gate_dst (N:=46) rfl ?_);(try (refine gate_guard (by rfl) ?_;dsimp only));refine Kd.R_lit k46 _ 46 ?hg (N:=46) ?hd (xs:=([(⟨(rd_T46 y118 t131).f0,(rd_T46 y118 t131).f1⟩:S46)]:List (S46))) (inner:=[.string ((rd_T46 y118 t131).f0),.int .i64 ((rd_T46 y118 t131).f1)]) (ok:=fun _=>True) (okp:=fun _=>True) ?hr ?hp (fun _ hk=>hk) trivial (Below.refl _ _) (Nat.le_refl _) (by simp) ?_;(case hd=>rfl);(case hg=>rfl);(case hr=>first|(go_simp;done)|(go_simp;rfl));(case hp=>exact(Reps.c2 (show Kd.M k46 _ _ _ (⟨(rd_T46 y118 t131).f0,(rd_T46 y118 t131).f1⟩:S46) [.string ((rd_T46 y118 t131).f0),.int .i64 ((rd_T46 y118 t131).f1)] from(k46_mkM _ _ _ (⟨(rd_T46 y118 t131).f0,(rd_T46 y118 t131).f1⟩:S46))) (Reps.none _ _)));intro v134 w25 ho26 hb hg_ hnew_;clear hg_ hnew_;(first|rw [←Ny133.out] at ho26|(simp only [Int.reduceToNat] at ho26;rw [←Ny133.out] at ho26));have n0_:=Aside0.mk (Kd.R_elder' (by(with_reducible repeat (first|apply Kd.R_alloc|apply Kd.R_drewN|apply Kd.R_drew));exact HO120.out) (Kd.R_base ho26) hb);have n1_:=Aside0.mk (Kd.R_lower (Kd.R_new' ho26 (Kd.R_lt (by(with_reducible repeat (first|apply Kd.R_alloc|apply Kd.R_drewN|apply Kd.R_drew));exact HO120.out))) (below_size (by repeat (first|(with_reducible first|exact HB.out|apply below_alloc|apply pw_below_drewN|apply below_drew1)|exact HB.out))));have n2_:=Aside0.mk (below_step (by repeat (first|(with_reducible first|exact HB.out|apply below_alloc|apply pw_below_drewN|apply below_drew1)|exact HB.out)) hb);clear HO120;clear HB;have HO120:=n0_;have HO135:=n1_;have HB:=n2_;clear n0_ n1_ n2_;clear hb ho26))
      go_ret
      exact⟨_,by first|rfl|(simp [errW_none,errW_some]<;>rfl)|(simp [*,errW_none,errW_some]<;>rfl),by(with_reducible repeat (first|apply Kd.R_alloc|apply Kd.R_drewN|apply Kd.R_drew));exact Kd.R_mono HO135.out (fun _ hk=>trivial),by repeat (first|(with_reducible first|exact HB.out|apply below_alloc|apply pw_below_drewN|apply below_drew1)|exact HB.out)⟩
     rw [if_neg c21] at H
     exact absurd H (by simp)
    rw [if_neg c20] at H
    exact absurd H (by simp)
   rw [if_neg c18] at H
   exact absurd H (by simp)
  rw [if_neg c17] at H
  have c17b0:decide (0 < (l1.length:Int))=false:=decide_eq_false c17
  have c17b1:decide (0 < l1.length)=false:=decide_eq_false (by omega)
  clear c17
  obtain⟨ji27,hji27⟩:∃j_:Int,(wrap64 (3+t121))=j_:=⟨_,rfl⟩
  replace H:(if 0≤(ji27) then (if (ji27)≤(y118.length:Int) then (some (y118.take ((ji27):Int).toNat)) else (none)) else (none))=some r:=by first|(rw [hji27] at H;exact H)|(simp only [hji27] at H ⊢;exact H)
  (try rw [hji27] at A3)
  (try rw [hji27] at A4)
  (try rw [hji27] at A15)
  have hji27w:(IntKind.i64.wrap (3+t121))=ji27:=(i64_w _).trans hji27
  by_cases c28:0≤(ji27)
  ·rw [if_pos c28] at H
   have c28b0:=eq_true c28
   have c28b1:decide (0≤(ji27))=true:=decide_eq_true c28
   clear c28
   by_cases c29:(ji27)≤(y118.length:Int)
   ·rw [if_pos c29] at H
    have c29b0:=eq_true c29
    have c29b1:decide ((ji27)≤(y118.length:Int))=true:=decide_eq_true c29
    clear c29
    obtain⟨y136,hy136⟩:∃y_:List (S46),y_=(y118.take ((ji27):Int).toNat):=⟨_,rfl⟩
    replace H:(some y136)=some r:=by first|(rw [hy136];with_reducible exact H)|(have H2_:=(Option.bind_some _ _).symm.trans H;rw [hy136];with_reducible exact H2_)|(have H2_:=(Option.bind_some _ _).symm.trans H;with_reducible exact H2_)|with_reducible exact H|(rw [hy136];exact H)|exact H
    have Ny136:=Aside0.mk hy136
    clear hy136
    obtain rfl:=Option.some.inj H
    go_enter Try.func13,Try.ntmps13
    go_wp2_with (first|((with_reducible refine gate_dst (N:=14) rfl ?_);(try (refine gate_guard (by rfl) ?_;dsimp only));refine Kd.R_lit k46 _ 46 ?hg (N:=14) ?hd (xs:=([(⟨(⟨#[97]⟩:ByteArray),1⟩:S46),(⟨(⟨#[97]⟩:ByteArray),2⟩:S46),(⟨(⟨#[98]⟩:ByteArray),3⟩:S46),(⟨(⟨#[99]⟩:ByteArray),1⟩:S46),(⟨(⟨#[99]⟩:ByteArray),2⟩:S46),(⟨(⟨#[100]⟩:ByteArray),3⟩:S46),(⟨(⟨#[120]⟩:ByteArray),2⟩:S46)]:List (S46))) (inner:=[.string (⟨#[97]⟩:ByteArray),.int .i64 1,.string (⟨#[97]⟩:ByteArray),.int .i64 2,.string (⟨#[98]⟩:ByteArray),.int .i64 3,.string (⟨#[99]⟩:ByteArray),.int .i64 1,.string (⟨#[99]⟩:ByteArray),.int .i64 2,.string (⟨#[100]⟩:ByteArray),.int .i64 3,.string (⟨#[120]⟩:ByteArray),.int .i64 2]) (ok:=fun _=>True) (okp:=fun _=>True) ?hr ?hp (fun _ hk=>hk) trivial (Below.refl _ _) (Nat.le_refl _) (by simp) ?_;(case hd=>rfl);(case hg=>rfl);(case hr=>first|(go_simp;done)|(go_simp;rfl));(case hp=>exact(Reps.c2 (show Kd.M k46 _ _ _ (⟨(⟨#[97]⟩:ByteArray),1⟩:S46) [.string (⟨#[97]⟩:ByteArray),.int .i64 1] from(k46_mkM _ _ _ (⟨(⟨#[97]⟩:ByteArray),1⟩:S46))) (Reps.c2 (show Kd.M k46 _ _ _ (⟨(⟨#[97]⟩:ByteArray),2⟩:S46) [.string (⟨#[97]⟩:ByteArray),.int .i64 2] from(k46_mkM _ _ _ (⟨(⟨#[97]⟩:ByteArray),2⟩:S46))) (Reps.c2 (show Kd.M k46 _ _ _ (⟨(⟨#[98]⟩:ByteArray),3⟩:S46) [.string (⟨#[98]⟩:ByteArray),.int .i64 3] from(k46_mkM _ _ _ (⟨(⟨#[98]⟩:ByteArray),3⟩:S46))) (Reps.c2 (show Kd.M k46 _ _ _ (⟨(⟨#[99]⟩:ByteArray),1⟩:S46) [.string (⟨#[99]⟩:ByteArray),.int .i64 1] from(k46_mkM _ _ _ (⟨(⟨#[99]⟩:ByteArray),1⟩:S46))) (Reps.c2 (show Kd.M k46 _ _ _ (⟨(⟨#[99]⟩:ByteArray),2⟩:S46) [.string (⟨#[99]⟩:ByteArray),.int .i64 2] from(k46_mkM _ _ _ (⟨(⟨#[99]⟩:ByteArray),2⟩:S46))) (Reps.c2 (show Kd.M k46 _ _ _ (⟨(⟨#[100]⟩:ByteArray),3⟩:S46) [.string (⟨#[100]⟩:ByteArray),.int .i64 3] from(k46_mkM _ _ _ (⟨(⟨#[100]⟩:ByteArray),3⟩:S46))) (Reps.c2 (show Kd.M k46 _ _ _ (⟨(⟨#[120]⟩:ByteArray),2⟩:S46) [.string (⟨#[120]⟩:ByteArray),.int .i64 2] from(k46_mkM _ _ _ (⟨(⟨#[120]⟩:ByteArray),2⟩:S46))) (Reps.none _ _)))))))));intro v119 w30 ho31 hb hg_ hnew_;clear hg_ hnew_;(first|rw [←Ny118.out] at ho31|(simp only [Int.reduceToNat] at ho31;rw [←Ny118.out] at ho31));have n0_:=Aside0.mk (Kd.R_lower ho31 (below_size (by repeat (first|(with_reducible first|exact HB.out|apply below_alloc|apply pw_below_drewN|apply below_drew1)|exact HB.out))));have n1_:=Aside0.mk (below_step (by repeat (first|(with_reducible first|exact HB.out|apply below_alloc|apply pw_below_drewN|apply below_drew1)|exact HB.out)) hb);clear HB;have HO120:=n0_;have HB:=n1_;clear n0_ n1_;clear hb ho31)|((with_reducible refine gate_callee (f:=30) rfl ?_);refine goesL_ (some 16) rfl rfl Try.func30 (by kernel_rfl) rfl #[.int .i64 a0,.int .i64 5] rfl (by(try simp only [List.map_toArray,List.map_cons,List.map_nil]);first|done|rfl|(simp only [List.length_drop,List.length_take];rfl)) ?_;(with_reducible refine(canopylaw1_within.calls a0 5 t121 _ A3.out).mono ?_);rintro e w' ⟨rfl,⟨nd,rfl⟩⟩;refine⟨_,rfl,?_⟩)|((with_reducible refine gate_callee (f:=30) rfl ?_);refine goesL_ (some 19) rfl rfl Try.func30 (by kernel_rfl) rfl #[.int .i64 a0,.int .i64 7] rfl (by(try simp only [List.map_toArray,List.map_cons,List.map_nil]);first|done|rfl|(simp only [List.length_drop,List.length_take];rfl)) ?_;(with_reducible refine(canopylaw1_within.calls a0 7 t122 _ A4.out).mono ?_);rintro e w' ⟨rfl,⟨nd,rfl⟩⟩;refine⟨_,rfl,?_⟩)|((with_reducible refine gate_callee (f:=30) rfl ?_);refine goesL_ (some 32) rfl rfl Try.func30 (by kernel_rfl) rfl #[.int .i64 a0,.int .i64 11] rfl (by(try simp only [List.map_toArray,List.map_cons,List.map_nil]);first|done|rfl|(simp only [List.length_drop,List.length_take];rfl)) ?_;(with_reducible refine(canopylaw1_within.calls a0 11 t129 _ A15.out).mono ?_);rintro e w' ⟨rfl,⟨nd,rfl⟩⟩;refine⟨_,rfl,?_⟩;obtain⟨Ao32,co32,eo32⟩:=Kd.R_slice HO120.out;subst eo32;have q33:((ji27):Int)≤((y118.length:Int):Int):=of_decide_eq_true (by first|(with_reducible assumption)|assumption);obtain⟨i033,hi033,_,hsz33,_⟩:=info_parts info46;have hcut33:=cut_to (P:=Try.prog) 24 46 .i64 Try.underlying24 hi033 Ao32 y118.length co32 (ji27) (of_decide_eq_true (by first|(with_reducible assumption)|assumption)) q33 (Kd.R_reads' HO120.out).2.1;have hr33:=Kd.R_take (m:=((ji27):Int).toNat) HO120.out (by omega);have hy33:y136.length=((ji27):Int).toNat:=(by rw [Ny136.out,List.length_take];omega);rw [←Ny136.out] at hr33;rw [←hy33] at hr33 hcut33;clear hy33 hi033 hsz33 HO120;have HO138:=Aside0.mk hr33;clear hr33;replace q33:=eq_true q33))
    go_ret
    exact⟨_,by first|rfl|(simp [errW_none,errW_some]<;>rfl)|(simp only [←hji27];first|rfl|(simp [errW_none,errW_some]<;>rfl))|(simp [*,errW_none,errW_some]<;>rfl),by(with_reducible repeat (first|apply Kd.R_alloc|apply Kd.R_drewN|apply Kd.R_drew));exact HO138.out,by repeat (first|(with_reducible first|exact HB.out|apply below_alloc|apply pw_below_drewN|apply below_drew1)|exact HB.out)⟩
   rw [if_neg c29] at H
   exact absurd H (by simp)
  rw [if_neg c28] at H
  exact absurd H (by simp)
 rw [if_neg c16] at H
 have c16b0:(t129 == 2)=false:=beq_eq_false_iff_ne.mpr c16
 have c16b1:(t129 != 2)=true:=bne_iff_ne.mpr c16
 obtain⟨ji34,hji34⟩:∃j_:Int,(wrap64 (3+t121))=j_:=⟨_,rfl⟩
 replace H:(if 0≤(ji34) then (if (ji34)≤(y118.length:Int) then (some (y118.take ((ji34):Int).toNat)) else (none)) else (none))=some r:=by first|(rw [hji34] at H;exact H)|(simp only [hji34] at H ⊢;exact H)
 (try rw [hji34] at A3)
 (try rw [hji34] at A4)
 (try rw [hji34] at A15)
 have hji34w:(IntKind.i64.wrap (3+t121))=ji34:=(i64_w _).trans hji34
 by_cases c35:0≤(ji34)
 ·rw [if_pos c35] at H
  have c35b0:=eq_true c35
  have c35b1:decide (0≤(ji34))=true:=decide_eq_true c35
  clear c35
  by_cases c36:(ji34)≤(y118.length:Int)
  ·rw [if_pos c36] at H
   have c36b0:=eq_true c36
   have c36b1:decide ((ji34)≤(y118.length:Int))=true:=decide_eq_true c36
   clear c36
   obtain⟨y139,hy139⟩:∃y_:List (S46),y_=(y118.take ((ji34):Int).toNat):=⟨_,rfl⟩
   replace H:(some y139)=some r:=by first|(rw [hy139];with_reducible exact H)|(have H2_:=(Option.bind_some _ _).symm.trans H;rw [hy139];with_reducible exact H2_)|(have H2_:=(Option.bind_some _ _).symm.trans H;with_reducible exact H2_)|with_reducible exact H|(rw [hy139];exact H)|exact H
   have Ny139:=Aside0.mk hy139
   clear hy139
   obtain rfl:=Option.some.inj H
   go_enter Try.func13,Try.ntmps13
   go_wp2_with (first|((with_reducible refine gate_dst (N:=14) rfl ?_);(try (refine gate_guard (by rfl) ?_;dsimp only));refine Kd.R_lit k46 _ 46 ?hg (N:=14) ?hd (xs:=([(⟨(⟨#[97]⟩:ByteArray),1⟩:S46),(⟨(⟨#[97]⟩:ByteArray),2⟩:S46),(⟨(⟨#[98]⟩:ByteArray),3⟩:S46),(⟨(⟨#[99]⟩:ByteArray),1⟩:S46),(⟨(⟨#[99]⟩:ByteArray),2⟩:S46),(⟨(⟨#[100]⟩:ByteArray),3⟩:S46),(⟨(⟨#[120]⟩:ByteArray),2⟩:S46)]:List (S46))) (inner:=[.string (⟨#[97]⟩:ByteArray),.int .i64 1,.string (⟨#[97]⟩:ByteArray),.int .i64 2,.string (⟨#[98]⟩:ByteArray),.int .i64 3,.string (⟨#[99]⟩:ByteArray),.int .i64 1,.string (⟨#[99]⟩:ByteArray),.int .i64 2,.string (⟨#[100]⟩:ByteArray),.int .i64 3,.string (⟨#[120]⟩:ByteArray),.int .i64 2]) (ok:=fun _=>True) (okp:=fun _=>True) ?hr ?hp (fun _ hk=>hk) trivial (Below.refl _ _) (Nat.le_refl _) (by simp) ?_;(case hd=>rfl);(case hg=>rfl);(case hr=>first|(go_simp;done)|(go_simp;rfl));(case hp=>exact(Reps.c2 (show Kd.M k46 _ _ _ (⟨(⟨#[97]⟩:ByteArray),1⟩:S46) [.string (⟨#[97]⟩:ByteArray),.int .i64 1] from(k46_mkM _ _ _ (⟨(⟨#[97]⟩:ByteArray),1⟩:S46))) (Reps.c2 (show Kd.M k46 _ _ _ (⟨(⟨#[97]⟩:ByteArray),2⟩:S46) [.string (⟨#[97]⟩:ByteArray),.int .i64 2] from(k46_mkM _ _ _ (⟨(⟨#[97]⟩:ByteArray),2⟩:S46))) (Reps.c2 (show Kd.M k46 _ _ _ (⟨(⟨#[98]⟩:ByteArray),3⟩:S46) [.string (⟨#[98]⟩:ByteArray),.int .i64 3] from(k46_mkM _ _ _ (⟨(⟨#[98]⟩:ByteArray),3⟩:S46))) (Reps.c2 (show Kd.M k46 _ _ _ (⟨(⟨#[99]⟩:ByteArray),1⟩:S46) [.string (⟨#[99]⟩:ByteArray),.int .i64 1] from(k46_mkM _ _ _ (⟨(⟨#[99]⟩:ByteArray),1⟩:S46))) (Reps.c2 (show Kd.M k46 _ _ _ (⟨(⟨#[99]⟩:ByteArray),2⟩:S46) [.string (⟨#[99]⟩:ByteArray),.int .i64 2] from(k46_mkM _ _ _ (⟨(⟨#[99]⟩:ByteArray),2⟩:S46))) (Reps.c2 (show Kd.M k46 _ _ _ (⟨(⟨#[100]⟩:ByteArray),3⟩:S46) [.string (⟨#[100]⟩:ByteArray),.int .i64 3] from(k46_mkM _ _ _ (⟨(⟨#[100]⟩:ByteArray),3⟩:S46))) (Reps.c2 (show Kd.M k46 _ _ _ (⟨(⟨#[120]⟩:ByteArray),2⟩:S46) [.string (⟨#[120]⟩:ByteArray),.int .i64 2] from(k46_mkM _ _ _ (⟨(⟨#[120]⟩:ByteArray),2⟩:S46))) (Reps.none _ _)))))))));intro v119 w37 ho38 hb hg_ hnew_;clear hg_ hnew_;(first|rw [←Ny118.out] at ho38|(simp only [Int.reduceToNat] at ho38;rw [←Ny118.out] at ho38));have n0_:=Aside0.mk (Kd.R_lower ho38 (below_size (by repeat (first|(with_reducible first|exact HB.out|apply below_alloc|apply pw_below_drewN|apply below_drew1)|exact HB.out))));have n1_:=Aside0.mk (below_step (by repeat (first|(with_reducible first|exact HB.out|apply below_alloc|apply pw_below_drewN|apply below_drew1)|exact HB.out)) hb);clear HB;have HO120:=n0_;have HB:=n1_;clear n0_ n1_;clear hb ho38)|((with_reducible refine gate_callee (f:=30) rfl ?_);refine goesL_ (some 16) rfl rfl Try.func30 (by kernel_rfl) rfl #[.int .i64 a0,.int .i64 5] rfl (by(try simp only [List.map_toArray,List.map_cons,List.map_nil]);first|done|rfl|(simp only [List.length_drop,List.length_take];rfl)) ?_;(with_reducible refine(canopylaw1_within.calls a0 5 t121 _ A3.out).mono ?_);rintro e w' ⟨rfl,⟨nd,rfl⟩⟩;refine⟨_,rfl,?_⟩)|((with_reducible refine gate_callee (f:=30) rfl ?_);refine goesL_ (some 19) rfl rfl Try.func30 (by kernel_rfl) rfl #[.int .i64 a0,.int .i64 7] rfl (by(try simp only [List.map_toArray,List.map_cons,List.map_nil]);first|done|rfl|(simp only [List.length_drop,List.length_take];rfl)) ?_;(with_reducible refine(canopylaw1_within.calls a0 7 t122 _ A4.out).mono ?_);rintro e w' ⟨rfl,⟨nd,rfl⟩⟩;refine⟨_,rfl,?_⟩)|((with_reducible refine gate_callee (f:=30) rfl ?_);refine goesL_ (some 32) rfl rfl Try.func30 (by kernel_rfl) rfl #[.int .i64 a0,.int .i64 11] rfl (by(try simp only [List.map_toArray,List.map_cons,List.map_nil]);first|done|rfl|(simp only [List.length_drop,List.length_take];rfl)) ?_;(with_reducible refine(canopylaw1_within.calls a0 11 t129 _ A15.out).mono ?_);rintro e w' ⟨rfl,⟨nd,rfl⟩⟩;refine⟨_,rfl,?_⟩;obtain⟨Ao39,co39,eo39⟩:=Kd.R_slice HO120.out;subst eo39;have q40:((ji34):Int)≤((y118.length:Int):Int):=of_decide_eq_true (by first|(with_reducible assumption)|assumption);obtain⟨i040,hi040,_,hsz40,_⟩:=info_parts info46;have hcut40:=cut_to (P:=Try.prog) 24 46 .i64 Try.underlying24 hi040 Ao39 y118.length co39 (ji34) (of_decide_eq_true (by first|(with_reducible assumption)|assumption)) q40 (Kd.R_reads' HO120.out).2.1;have hr40:=Kd.R_take (m:=((ji34):Int).toNat) HO120.out (by omega);have hy40:y139.length=((ji34):Int).toNat:=(by rw [Ny139.out,List.length_take];omega);rw [←Ny139.out] at hr40;rw [←hy40] at hr40 hcut40;clear hy40 hi040 hsz40 HO120;have HO141:=Aside0.mk hr40;clear hr40;replace q40:=eq_true q40))
   go_ret
   exact⟨_,by first|rfl|(simp [errW_none,errW_some]<;>rfl)|(simp only [←hji34];first|rfl|(simp [errW_none,errW_some]<;>rfl))|(simp [*,errW_none,errW_some]<;>rfl),by(with_reducible repeat (first|apply Kd.R_alloc|apply Kd.R_drewN|apply Kd.R_drew));exact HO141.out,by repeat (first|(with_reducible first|exact HB.out|apply below_alloc|apply pw_below_drewN|apply below_drew1)|exact HB.out)⟩
  rw [if_neg c36] at H
  exact absurd H (by simp)
 rw [if_neg c35] at H
 exact absurd H (by simp)
end Go.Proofs.Ytjkhdldgmkkhjaa.P
