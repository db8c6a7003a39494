/- Words and walks of this claim: LTrims. -/
import Derived.Test.YtejpijgfpbcibaaGreatRMFar
import Derived.Test.YtejpijgfpbcibaaGreatRMAutoEtc
import Derived.Test.YtejpijgfpbcibaaGreatRSKnown3
import Derived.Test.YtejpijgfpbcibaaGreatRSRefCheck
import Derived.Test.YtejpijgfpbcibaaGreatRP0Etc
set_option linter.unusedVariables false
set_option linter.unusedSimpArgs false
set_option linter.unnecessarySimpa false
namespace Go.Proofs.YtejpijgfpbcibaaGreat.P
open Go.RowKit Go.Sort Go.Shelf Go.Proofs.YtejpijgfpbcibaaGreatW.PrintWords Go.Proofs.YtejpijgfpbcibaaGreatW.PrintLast Go.Proofs.YtejpijgfpbcibaaGreatW.PrintMore Go.Proofs.YtejpijgfpbcibaaGreat.M
structure KT (w wq:World) (AS:Option Addr) (S:List S51) (ga gt:Nat) (N G n g:Int) (Z2:Option Addr) (z2:Nat) (x2:List Int) (Z3:Option Addr) (z3:Nat) (x3:List Int) (Z4:Option Addr) (z4:Nat) (x4:List TOpen) (Z5:Option Addr) (z5:Nat) (x5:List TClose) (Z6:Option Addr) (z6:Nat) (x6:List TInner) (Y2:Option Addr) (y2:Nat) (l2:List Int) (Y3:Option Addr) (y3:Nat) (l3:List Int) (Y4:Option Addr) (y4:Nat) (l4:List TOpen) (Y5:Option Addr) (y5:Nat) (l5:List TClose) (Y6:Option Addr) (y6:Nat) (l6:List TInner):Prop where
 b:Below w.heap.size w wq
 s:Kd.C k51 wq AS S.length S
 a2:Kd.C (Kd.int .i64) wq Z2 x2.length x2∧x2.length≤z2
 a3:Kd.C (Kd.int .i64) wq Z3 x3.length x3∧x3.length≤z3
 a4:Kd.C k36 wq Z4 x4.length x4∧x4.length≤z4
 a5:Kd.C k38 wq Z5 x5.length x5∧x5.length≤z5
 a6:Kd.C k40 wq Z6 x6.length x6∧x6.length≤z6
 t2:Kd.C (Kd.int .i64) wq Y2 l2.length l2∧l2.length≤y2
 t3:Kd.C (Kd.int .i64) wq Y3 l3.length l3∧l3.length≤y3
 t4:Kd.C k36 wq Y4 l4.length l4∧l4.length≤y4
 t5:Kd.C k38 wq Y5 l5.length l5∧l5.length≤y5
 t6:Kd.C k40 wq Y6 l6.length l6∧l6.length≤y6
 a:wq.heap[ga]? = some (.cells #[.int .i64 N,.int .i64 G,.slice Z2 x2.length z2,.slice Z3 x3.length z3,.slice Z4 x4.length z4,.slice Z5 x5.length z5,.slice Z6 x6.length z6] 30 (0,0))
 t:wq.heap[gt]? = some (.cells #[.int .i64 n,.int .i64 g,.slice Y2 l2.length y2,.slice Y3 l3.length y3,.slice Y4 l4.length y4,.slice Y5 l5.length y5,.slice Y6 l6.length y6] 30 (0,0))
theorem KT.below {w wq w' : World} {AS:Option Addr} {S:List S51} {ga gt:Nat} {N G n g:Int} {Z2:Option Addr} {z2:Nat} {x2:List Int} {Z3:Option Addr} {z3:Nat} {x3:List Int} {Z4:Option Addr} {z4:Nat} {x4:List TOpen} {Z5:Option Addr} {z5:Nat} {x5:List TClose} {Z6:Option Addr} {z6:Nat} {x6:List TInner} {Y2:Option Addr} {y2:Nat} {l2:List Int} {Y3:Option Addr} {y3:Nat} {l3:List Int} {Y4:Option Addr} {y4:Nat} {l4:List TOpen} {Y5:Option Addr} {y5:Nat} {l5:List TClose} {Y6:Option Addr} {y6:Nat} {l6:List TInner} (h:KT w wq AS S ga gt N G n g Z2 z2 x2 Z3 z3 x3 Z4 z4 x4 Z5 z5 x5 Z6 z6 x6 Y2 y2 l2 Y3 y3 l3 Y4 y4 l4 Y5 y5 l5 Y6 y6 l6) (hb:Below wq.heap.size wq w'):KT w w' AS S ga gt N G n g Z2 z2 x2 Z3 z3 x3 Z4 z4 x4 Z5 z5 x5 Z6 z6 x6 Y2 y2 l2 Y3 y3 l3 Y4 y4 l4 Y5 y5 l5 Y6 y6 l6:=
 ⟨below_then h.b h.b.size hb,Kd.C_below h.s hb,⟨Kd.C_below h.a2.1 hb,h.a2.2⟩,⟨Kd.C_below h.a3.1 hb,h.a3.2⟩,⟨Kd.C_below h.a4.1 hb,h.a4.2⟩,⟨Kd.C_below h.a5.1 hb,h.a5.2⟩,⟨Kd.C_below h.a6.1 hb,h.a6.2⟩,⟨Kd.C_below h.t2.1 hb,h.t2.2⟩,⟨Kd.C_below h.t3.1 hb,h.t3.2⟩,⟨Kd.C_below h.t4.1 hb,h.t4.2⟩,⟨Kd.C_below h.t5.1 hb,h.t5.2⟩,⟨Kd.C_below h.t6.1 hb,h.t6.2⟩,blk_below h.a hb,blk_below h.t hb⟩
theorem same_self3 (n g:Int) (r2 r3:List Int) (r4:List TOpen) (r5:List TClose) (r6:List TInner) (h:r2.length≤1000000000∧r3.length≤1000000000∧r4.length≤1000000000∧r5.length≤1000000000∧r6.length≤1000000000):canopyref3_Same.f n g r2 r3 r4 r5 r6 n g r2 r3 r4 r5 r6=some true:=by
 unfold canopyref3_Same.f
 rw [if_pos ⟨h.1,h.2.1,h.2.2.1,h.2.2.2.1,h.2.2.2.2,h.1,h.2.1,h.2.2.1,h.2.2.2.1,h.2.2.2.2⟩]
 rw [sameL_refl (fun x=>by simp [eqOpen]) r4,sameL_refl (fun x=>by simp [eqClose]) r5,sameL_refl (fun x=>by simp [eqInner]) r6]
 simp
def R12t.T:Bool × List (List Nat × List Nat):=(true,[([],[]),([],[]),([],[]),([],[]),([2,3],[2,3]),([0,1,4],[0,1,4]),([],[]),([],[]),([],[]),([],[]),([8,9],[8,9]),([6,7,10,5],[6,7,10]),([5,11],[5,11])])
def R12t.B:List Nat:=[0,0,0,0,12,31,0,0,0,0,768,2047,4095]
theorem R12t.tab:rtab .any (opsOf Tryz.f5 12)=R12t.T:=by kernel_rfl
theorem R12t.bits:waitsOk R12t.T.2 R12t.B=true:=by kernel_rfl
def R14t.T:Bool × List (List Nat × List Nat):=(true,[([],[]),([],[]),([0,1],[0,1]),([],[]),([2,3,2],[2,3]),([4,4],[4]),([5],[5]),([6,5],[5,6]),([5],[5]),([8,5],[5,8]),([7,9,5],[5,7,9]),([5,10],[5,10]),([11,5],[11]),([12],[12]),([13,12],[12,13]),([12],[12]),([15,12],[12,15]),([14,16,12],[12,14,16]),([12,17],[12,17]),([18,12,0,1,2,3,4,5,6,7,8,9,10,11,12,13,14,15,16,17,18],[18])])
def R14t.B:List Nat:=[0,0,3,0,15,31,63,127,63,319,1023,2047,4095,8191,16383,8191,40959,131071,262143,524287]
theorem R14t.tab:rtab .any (opsOf Tryz.f5 14)=R14t.T:=by kernel_rfl
theorem R14t.bits:waitsOk R14t.T.2 R14t.B=true:=by kernel_rfl
def canopylaw3_AutoTrims.Pure:Prop:=True
set_option maxHeartbeats 16000000 in
set_option maxRecDepth 100000 in
theorem trims_walk (a0 a1:Int) (A2:Option Addr) (c2:Nat) (ns_:List Int) (A3:Option Addr) (c3:Nat) (ws_:List Int) (w:World) (hr2:Kd.C (Kd.int .i64) w A2 ns_.length ns_) (hc2:ns_.length≤c2) (hm2:ns_.length≤maxLen) (hr3:Kd.C (Kd.int .i64) w A3 ws_.length ws_) (hc3:ws_.length≤c3) (hm3:ws_.length≤maxLen) :
 Calls Tryz.prog 5 #[.int .i64 a0,.int .i64 a1,.slice A2 ns_.length c2,.slice A3 ws_.length c3] w fun e w'=>e=.returned (.bool true)∧Below w.heap.size w w':=by
 obtain⟨S,hS,hOk⟩:∃S,canopylaw1_Syms.f a0 ns_=some S∧symOk S:=⟨_,syms_eq a0 ns_ hm2,symsL_ok a0 ns_⟩
 have hmade:=made_ok hOk a1 ns_ (most:=4) (by decide) (by decide)
 have hlen:=(mkAll_inv hOk (N:=makeN a1 4) (G:=makeG a1) (by have:=makeN_in a1 (most:=4) (by decide);omega) (by have:=makeG_in a1;omega) ns_).2
 have hwd:=word_eq hOk ws_ hm3 9 (by decide) (by decide) 1002 (by decide)
 have hn1:=(makeN_in a1 (most:=4) (by decide)).1
 have HF:=Aside0.mk (And.intro hS (And.intro hOk hmade))
 have HI2:=Aside0.mk (And.intro hr2 hc2)
 have HI3:=Aside0.mk (And.intro hr3 hc3)
 have HWD:=Aside0.mk hwd
 have HLEN:=Aside0.mk hlen
 have HN1:=Aside0.mk hn1
 clear hS hOk hmade hr2 hc2 hm2 hr3 hc3 hm3 hlen hwd hn1
 go_enter Tryz.func5,Tryz.ntmps5
 go_wp2_with fail
 refine(canopylaw3_known.calls true _ rfl).mono ?_
 rintro e w1 ⟨rfl,hb1⟩
 have HB1:=Aside0.mk hb1
 clear hb1
 go_wp2_with fail
 refine(canopylaw1_Syms.calls a0 A2 c2 ns_ S _ (Kd.C_below HI2.out.1 HB1.out) HI2.out.2 HF.out.1).mono ?_
 rintro e w2 ⟨v1,rfl,hr1,hb2⟩
 obtain⟨AS,cS,eS,lS,gS⟩:=Kd.R_reads hr1
 subst eS
 have HS:=Aside0.mk gS
 have LS:Aside0 (S.length≤cS):=⟨lS⟩
 have HB2:=Aside0.mk (below_then HB1.out HB1.out.size hb2)
 clear hr1 hb2 gS lS HB1
 go_wp2_with fail
 refine(make_own AS cS S a1 A2 c2 ns_ 4 _ HS.out LS.out (Kd.C_below HI2.out.1 HB2.out) HF.out.2.1 (by decide) (by decide)).mono ?_
 rintro e w3 ⟨v2,v3,v4,v5,v6,rfl,hv,hb3⟩
 obtain⟨st,hst⟩:∃st,st=mkAll S (makeN a1 4) (makeG a1) ns_:=⟨_,rfl⟩
 rw [←hst] at HF HLEN hv
 obtain⟨N,hN⟩:∃N,N=makeN a1 4:=⟨_,rfl⟩
 obtain⟨G,hG⟩:∃G,G=makeG a1:=⟨_,rfl⟩
 rw [←hN] at HN1
 rw [←hN,←hG] at HF hv ⊢
 have HV:Aside0 (OutV w3 w2.heap.size v2 v3 v4 v5 v6 (mkI st) st.f st.o st.c st.n):=⟨hv⟩
 have HB3:=Aside0.mk (below_then HB2.out HB2.out.size hb3)
 have HS3:=Aside0.mk (Kd.C_below HS.out hb3)
 clear hst hN hG hv hb3 HB2 HS
 have HIL:=Aside0.mk (mkI_len HLEN.out)
 have HIN:Aside0 (∃x,x∈mkI st):=⟨by
  unfold mkI
  split
  ·exact⟨0,List.mem_cons_self ..⟩
  rename_i h
  cases h2:st.i with
  | nil=>rw [h2] at h;exact absurd rfl h
  | cons x t=>exact⟨x,List.mem_cons_self ..⟩⟩
 obtain⟨i,hi⟩:∃i,i=mkI st:=⟨_,rfl⟩
 rw [←hi] at HF HV HIL HIN
 clear hi
 have q2:=HV.out.r2
 have q3:=HV.out.r3
 have q4:=HV.out.r4
 have q5:=HV.out.r5
 have q6:=HV.out.r6
 obtain⟨Z2,z2,rfl⟩:=Kd.R_slice q2
 obtain⟨Z3,z3,rfl⟩:=Kd.R_slice q3
 obtain⟨Z4,z4,rfl⟩:=Kd.R_slice q4
 obtain⟨Z5,z5,rfl⟩:=Kd.R_slice q5
 obtain⟨Z6,z6,rfl⟩:=Kd.R_slice q6
 clear q2 q3 q4 q5 q6
 have hmay:=MayBe.of HF.out.2.2
 have htrim:auto_Trim.f S N G i st.f st.o st.c st.n=some (trimV (trimS N G i st.o st.c st.n) i st.f st.o st.c st.n):=if_pos HF.out.2.2
 obtain⟨v,hv⟩:∃v,v=trimV (trimS N G i st.o st.c st.n) i st.f st.o st.c st.n:=⟨_,rfl⟩
 have hleft:=trim_left hmay
 rw [←hv] at hleft htrim
 obtain⟨n,g,l2,l3,l4,l5,l6⟩:=v
 obtain⟨P_,Q_,φ,ψ,hT⟩:=trim_map hmay
 rw [←hv] at hT
 have HTK:Aside0 (∀u:List Int,takesB S i st.f st.o st.c st.n u=takesB S l2 l3 l4 l5 l6 u):=⟨fun u=>rel_takes hmay hT u⟩
 have HAG:=Aside0.mk (trim_again hmay hv.symm)
 have HL:=Aside0.mk hleft
 have HNY:Aside0 (∃y,y∈l2):=⟨by obtain⟨x,hx⟩:=HIN.out;exact⟨φ x,(hT.mi _).2 ⟨x,hx,rfl⟩⟩⟩
 have HTR:=Aside0.mk htrim
 have HMA:=Aside0.mk hmay
 clear hleft htrim hmay hv hT P_ Q_ φ ψ
 have hVa:=HV.out.below (below_alloc (Below.refl _ _) (.cells #[.int .i64 N,.int .i64 G,.slice Z2 i.length z2,.slice Z3 st.f.length z3,.slice Z4 st.o.length z4,.slice Z5 st.c.length z5,.slice Z6 st.n.length z6] 30))
 have HVa:=Aside0.mk hVa
 clear hVa
 go_wp2_with fail
 refine(auto_Trim.calls AS cS S N G Z2 z2 i Z3 z3 (st.f) Z4 z4 (st.o) Z5 z5 (st.c) Z6 z6 (st.n) n g l2 l3 l4 l5 l6 _ (Kd.C_below HS3.out (below_alloc (Below.refl _ _) _)) LS.out (Kd.R_reads' HVa.out.r2).2.2 (Kd.R_reads' HVa.out.r2).2.1 (Kd.R_reads' HVa.out.r3).2.2 (Kd.R_reads' HVa.out.r3).2.1 (Kd.R_reads' HVa.out.r4).2.2 (Kd.R_reads' HVa.out.r4).2.1 (Kd.R_reads' HVa.out.r5).2.2 (Kd.R_reads' HVa.out.r5).2.1 (Kd.R_reads' HVa.out.r6).2.2 (Kd.R_reads' HVa.out.r6).2.1 HTR.out).mono ?_
 rintro e w4 ⟨u2,u3,u4,u5,u6,rfl,g2,g3,g4,g5,g6,hb4⟩
 obtain⟨Y2,y2,rfl⟩:=Kd.V_slice g2
 obtain⟨Y3,y3,rfl⟩:=Kd.V_slice g3
 obtain⟨Y4,y4,rfl⟩:=Kd.V_slice g4
 obtain⟨Y5,y5,rfl⟩:=Kd.V_slice g5
 obtain⟨Y6,y6,rfl⟩:=Kd.V_slice g6
 obtain⟨ga,hga⟩:∃g,g=w3.heap.size:=⟨_,rfl⟩
 have hbt:Below w4.heap.size w4 (w4.alloc (.cells #[.int .i64 n,.int .i64 g,.slice Y2 l2.length y2,.slice Y3 l3.length y3,.slice Y4 l4.length y4,.slice Y5 l5.length y5,.slice Y6 l6.length y6] 30)):=below_alloc (Below.refl _ _) _
 have HK:Aside0 (KT w (w4.alloc (.cells #[.int .i64 n,.int .i64 g,.slice Y2 l2.length y2,.slice Y3 l3.length y3,.slice Y4 l4.length y4,.slice Y5 l5.length y5,.slice Y6 l6.length y6] 30)) AS S ga w4.heap.size N G n g Z2 z2 i Z3 z3 (st.f) Z4 z4 (st.o) Z5 z5 (st.c) Z6 z6 (st.n) Y2 y2 l2 Y3 y3 l3 Y4 y4 l4 Y5 y5 l5 Y6 y6 l6):=⟨⟨below_then (below_then (below_alloc HB3.out _) (by have h1:=HB3.out.size;rw [size_alloc];omega) hb4) (by have h1:=HB3.out.size;have h2:=hb4.size;rw [size_alloc] at h2;omega) hbt,Kd.C_below (Kd.C_below (Kd.C_below HS3.out (below_alloc (Below.refl _ _) _)) hb4) hbt,⟨Kd.C_below (Kd.C_below (Kd.R_reads' HVa.out.r2).2.2 hb4) hbt,(Kd.R_reads' HVa.out.r2).2.1⟩,⟨Kd.C_below (Kd.C_below (Kd.R_reads' HVa.out.r3).2.2 hb4) hbt,(Kd.R_reads' HVa.out.r3).2.1⟩,⟨Kd.C_below (Kd.C_below (Kd.R_reads' HVa.out.r4).2.2 hb4) hbt,(Kd.R_reads' HVa.out.r4).2.1⟩,⟨Kd.C_below (Kd.C_below (Kd.R_reads' HVa.out.r5).2.2 hb4) hbt,(Kd.R_reads' HVa.out.r5).2.1⟩,⟨Kd.C_below (Kd.C_below (Kd.R_reads' HVa.out.r6).2.2 hb4) hbt,(Kd.R_reads' HVa.out.r6).2.1⟩,⟨Kd.C_below (Kd.V_reads' g2).2.2 hbt,(Kd.V_reads' g2).2.1⟩,⟨Kd.C_below (Kd.V_reads' g3).2.2 hbt,(Kd.V_reads' g3).2.1⟩,⟨Kd.C_below (Kd.V_reads' g4).2.2 hbt,(Kd.V_reads' g4).2.1⟩,⟨Kd.C_below (Kd.V_reads' g5).2.2 hbt,(Kd.V_reads' g5).2.1⟩,⟨Kd.C_below (Kd.V_reads' g6).2.2 hbt,(Kd.V_reads' g6).2.1⟩,(by rw [hga];exact blk_below (blk_below (blk_newAt _ rfl) hb4) hbt),blk_newAt _ rfl⟩⟩
 clear g2 g3 g4 g5 g6 hb4 hbt HV HVa HB3 HS3 HTR
 go_upto_region 6 with (fail)
 rw [←hga]
 obtain⟨wq,hwq⟩:∃W:World,W=w4.alloc (.cells #[.int .i64 n,.int .i64 g,.slice Y2 l2.length y2,.slice Y3 l3.length y3,.slice Y4 l4.length y4,.slice Y5 l5.length y5,.slice Y6 l6.length y6] 30):=⟨_,rfl⟩
 obtain⟨gt,hgt⟩:∃g,g=w4.heap.size:=⟨_,rfl⟩
 rw [←hwq,←hgt] at HK
 rw [←hwq,←hgt]
 clear hwq hgt hga w4
 have HMB:Aside0 (MayBe S n g l2 l3 l4 l5 l6):=⟨HL.out.may⟩
 have HLN:Aside0 (l2.length≤25∧l3.length≤24∧l4.length≤24∧l5.length≤24∧l6.length≤24∧S.length≤7∧i.length≤25∧st.f.length≤24):=⟨by
  have h1:=HL.out.li
  have h2:=HL.out.lf
  have h3:=HL.out.lo
  have h4:=HL.out.lc
  have h5:=HL.out.lp
  have h6:=HIL.out
  have h7:=HLEN.out
  exact⟨Nat.le_trans h1 h6,Nat.le_trans h2 h7.2.1,Nat.le_trans h3 h7.2.2.1,Nat.le_trans h4 h7.2.2.2.1,Nat.le_trans h5 h7.2.2.2.2,HF.out.2.1.2.1,h6,h7.2.1⟩⟩
 have HNG:Aside0 (1≤n):=⟨by obtain⟨y,hy⟩:=HNY.out;have:=HMB.out.hi y hy;omega⟩
 have HCK:Aside0 (canopyref3_Check.f S n g l2 l3 l4 l5 l6=some 0):=⟨HMB.out.check (by have:=HLN.out;omega) (by have:=HLN.out;omega) (by have:=HLN.out;omega)⟩
 obtain⟨b0,b1,b2,b3,b4,b5,b6,b7⟩:=auto_cells HK.out.t
 go_wp2_with fail
 refine(canopyref3_Check.calls AS cS S n g Y2 y2 l2 Y3 y3 l3 Y4 y4 l4 Y5 y5 l5 Y6 y6 l6 0 _ HK.out.s LS.out HK.out.t2.1 HK.out.t2.2 HK.out.t3.1 HK.out.t3.2 HK.out.t4.1 HK.out.t4.2 HK.out.t5.1 HK.out.t5.2 HK.out.t6.1 HK.out.t6.2 HCK.out).mono ?_
 rintro e wb ⟨rfl,hb5⟩
 have HK1:=Aside0.mk (HK.out.below hb5)
 clear HK b0 b1 b2 b3 b4 b5 b6 b7 hb5 HCK
 have HK:=HK1
 clear HK1 wq
 obtain⟨wq,rfl⟩:∃W:World,W=wb:=⟨_,rfl⟩
 go_wp2_with fail
 refine(canopylaw1_Word.calls 1002 AS cS S A3 c3 ws_ 9 (wordL S ws_ 9) _ HK.out.s LS.out (Kd.C_below HI3.out.1 HK.out.b) HI3.out.2 HWD.out).mono ?_
 rintro e w6 ⟨vw,rfl,hrw,hb6⟩
 obtain⟨ww,hww⟩:∃u,u=wordL S ws_ 9:=⟨_,rfl⟩
 have HWL:Aside0 (ww.length≤9):=⟨by rw [hww];exact wordL_len S ws_ 9⟩
 rw [←hww] at hrw
 obtain⟨WA,wc,rfl⟩:=Kd.R_slice hrw
 have HWC:Aside0 (Kd.C (Kd.int .i64) w6 WA ww.length ww∧ww.length≤wc):=⟨(Kd.R_reads' hrw).2.2,(Kd.R_reads' hrw).2.1⟩
 have HK1:=Aside0.mk (HK.out.below hb6)
 clear HK hb6 hrw hww HWD HI3
 have HK:=HK1
 clear HK1 wq
 obtain⟨wq,rfl⟩:∃W:World,W=w6:=⟨_,rfl⟩
 go_wp2
 go_loopg [13] 20 (fun gk vi w'=>∃i_:Nat,vi=.int .i64 (i_:Int)∧Aside0 (i_≤ww.length+1∧20 - i_≤gk)∧Aside0 (KT w w' AS S ga gt N G n g Z2 z2 i Z3 z3 (st.f) Z4 z4 (st.o) Z5 z5 (st.c) Z6 z6 (st.n) Y2 y2 l2 Y3 y3 l3 Y4 y4 l4 Y5 y5 l5 Y6 y6 l6)∧Aside0 (Kd.C (Kd.int .i64) w' WA ww.length ww))
 case atStart=>exact⟨0,rfl,⟨by omega,by omega⟩,HK,⟨HWC.out.1⟩⟩
 case' round=>skip
 have HWZ:Aside0 (ww.length≤wc):=⟨HWC.out.2⟩
 clear HK HWC
 obtain⟨i_,rfl,Hi,HK,HWC⟩:=hrel
 try clear wq
 obtain⟨wq,rfl⟩:∃W:World,W=wr:=⟨_,rfl⟩
 by_cases hlt:i_≤ww.length
 ·have HLT := Aside0.mk hlt
  obtain⟨u,hu⟩:∃u,u=ww.take i_:=⟨_,rfl⟩
  have hul:i_=u.length:=by rw [hu,List.length_take];omega
  subst hul
  have HU:=Aside0.mk hu
  have HUC:Aside0 (Kd.C (Kd.int .i64) wq WA u.length u∧u.length≤wc):=⟨by
   have h1:=Kd.C_take HWC.out hlt
   rw [←hu] at h1
   exact h1,by have:=HWZ.out;omega⟩
  obtain⟨r,hr⟩:∃r,r=takesB S i st.f st.o st.c st.n u:=⟨_,rfl⟩
  have HT1:Aside0 (canopyref4_Takes.f S N G i st.f st.o st.c st.n u=some r):=⟨by rw [hr];exact takes_may HMA.out HN1.out (by have:=HLN.out;omega) (by have:=HLN.out;omega) (by have:=HLN.out;omega) u (by have:=HWL.out;omega)⟩
  have HT2:Aside0 (canopyref4_Takes.f S n g l2 l3 l4 l5 l6 u=some r):=⟨by rw [hr,HTK.out u];exact takes_may HMB.out HNG.out (by have:=HLN.out;omega) (by have:=HLN.out;omega) (by have:=HLN.out;omega) u (by have:=HWL.out;omega)⟩
  clear hr hu
  obtain⟨b0,b1,b2,b3,b4,b5,b6,b7⟩:=auto_cells HK.out.a
  obtain⟨d0,d1,d2,d3,d4,d5,d6,d7⟩:=auto_cells HK.out.t
  have q1:=decide_eq_true (show (u.length:Int)≤(ww.length:Int) by omega)
  have q2:=eq_true (show (u.length:Int)≤(ww.length:Int) by omega)
  have q3:=eq_true (show (0:Int)≤(u.length:Int) by omega)
  have q4:=eq_true (show (u.length:Int)≤(wc:Int) by have:=HUC.out.2;omega)
  have q5:=eq_true (show u.length≤ww.length from hlt)
  have q6:=eq_true (show u.length≤wc from HUC.out.2)
  clear hlt b7 d7
  go_upto_region 12 with (fail)
  refine start_ (n:=13) (S:=fun w'=>w'.cell? ⟨ga,0,none⟩=some (.int .i64 N)∧w'.cell? ⟨ga,1,none⟩=some (.int .i64 G)∧w'.cell? ⟨ga,2,none⟩=some (.slice Z2 i.length z2)∧w'.cell? ⟨ga,3,none⟩=some (.slice Z3 st.f.length z3)∧w'.cell? ⟨ga,4,none⟩=some (.slice Z4 st.o.length z4)∧w'.cell? ⟨ga,5,none⟩=some (.slice Z5 st.c.length z5)∧w'.cell? ⟨ga,6,none⟩=some (.slice Z6 st.n.length z6)∧w'.cell? ⟨gt,0,none⟩=some (.int .i64 n)∧w'.cell? ⟨gt,1,none⟩=some (.int .i64 g)∧w'.cell? ⟨gt,2,none⟩=some (.slice Y2 l2.length y2)∧w'.cell? ⟨gt,3,none⟩=some (.slice Y3 l3.length y3)∧w'.cell? ⟨gt,4,none⟩=some (.slice Y4 l4.length y4)∧w'.cell? ⟨gt,5,none⟩=some (.slice Y5 l5.length y5)∧w'.cell? ⟨gt,6,none⟩=some (.slice Y6 l6.length y6)) (ds:=[]) (pm 0 13) (by kernel_rfl) rfl rfl ⟨(blk_cell (HK.out.below (below_drew (Below.refl _ _))).a 0).trans rfl,(blk_cell (HK.out.below (below_drew (Below.refl _ _))).a 1).trans rfl,(blk_cell (HK.out.below (below_drew (Below.refl _ _))).a 2).trans rfl,(blk_cell (HK.out.below (below_drew (Below.refl _ _))).a 3).trans rfl,(blk_cell (HK.out.below (below_drew (Below.refl _ _))).a 4).trans rfl,(blk_cell (HK.out.below (below_drew (Below.refl _ _))).a 5).trans rfl,(blk_cell (HK.out.below (below_drew (Below.refl _ _))).a 6).trans rfl,(blk_cell (HK.out.below (below_drew (Below.refl _ _))).t 0).trans rfl,(blk_cell (HK.out.below (below_drew (Below.refl _ _))).t 1).trans rfl,(blk_cell (HK.out.below (below_drew (Below.refl _ _))).t 2).trans rfl,(blk_cell (HK.out.below (below_drew (Below.refl _ _))).t 3).trans rfl,(blk_cell (HK.out.below (below_drew (Below.refl _ _))).t 4).trans rfl,(blk_cell (HK.out.below (below_drew (Below.refl _ _))).t 5).trans rfl,(blk_cell (HK.out.below (below_drew (Below.refl _ _))).t 6).trans rfl⟩ (fun hHeld=>?_)
  refine with_tabW R12t.tab R12t.bits (fun HT_ HW_=>?_)
  have HK1:=Aside0.mk (HK.out.below (below_drew (Below.refl _ _)))
  clear HK
  have HK:=HK1
  clear HK1
  have HU1:=Aside0.mk (And.intro (Kd.C_below HUC.out.1 (below_drew (Below.refl _ _))) HUC.out.2)
  clear HUC
  have HUC:=HU1
  clear HU1
  have HW1:=Aside0.mk (Kd.C_below HWC.out (below_drew (Below.refl _ _)))
  clear HWC
  have HWC:=HW1
  clear HW1
  clear b0 b1 b2 b3 b4 b5 b6 d0 d1 d2 d3 d4 d5 d6
  obtain⟨wd,hwd⟩:∃W:World,W=wq.drew:=⟨_,rfl⟩
  rw [←hwd] at HK HUC HWC hHeld ⊢
  clear hwd
  try clear wq
  obtain⟨wq,rfl⟩:∃W:World,W=wd:=⟨_,rfl⟩
  iterate 5 (first|(refine pn_ (v:=?_) (a':=?_) rfl (rfl (a:=some _)) (any_of HT_.out (by kernel_rfl)) (fun _ _ _ h=>h) (Or.inl ⟨by rfl,?_⟩) ?_ ?_;rotate_left;(intro w';go_simp;with_reducible rfl);rotate_left;(simp only [Act.put,M.sq3,i64_w,i32_w];rfl))|(refine tn_ (v:=?_) (a':=?_) rfl (rfl (a:=some _)) (take_ofW HT_.out HW_.out (by kernel_rfl)) (fun _ _ _ h=>h) (Or.inl ⟨by rfl,?_⟩) hHeld ?_ ?_;rotate_left;(intro w' hS_;obtain⟨s0,s1,s2,s3,s4,s5,s6,s7,s8,s9,s10,s11,s12,s13⟩:=hS_;go_simp;with_reducible rfl);rotate_left;(simp only [Act.put,M.sq3,i64_w,i32_w];rfl)))
  refine po_ 6 (v:=?_) (a':=?_) rfl (rfl (a:=some _)) (any_of HT_.out (by kernel_rfl)) (fun _ _ _ h=>h) (Or.inl ⟨by rfl,?_⟩) ?_ ?_;rotate_left;(intro w';go_simp;with_reducible rfl);rotate_left;(simp only [Act.put,M.sq3,i64_w,i32_w];rfl)
  refine to_ 7 (v:=?_) (a':=?_) rfl (rfl (a:=some _)) (take_ofW HT_.out HW_.out (by kernel_rfl)) (fun _ _ _ h=>h) (Or.inl ⟨by rfl,?_⟩) hHeld ?_ ?_;rotate_left;(intro w' hS_;obtain⟨s0,s1,s2,s3,s4,s5,s6,s7,s8,s9,s10,s11,s12,s13⟩:=hS_;go_simp;with_reducible rfl);rotate_left;(simp only [Act.put,M.sq3,i64_w,i32_w];rfl)
  refine po_ 8 (v:=?_) (a':=?_) rfl (rfl (a:=some _)) (any_of HT_.out (by kernel_rfl)) (fun _ _ _ h=>h) (Or.inl ⟨by rfl,?_⟩) ?_ ?_;rotate_left;(intro w';go_simp;with_reducible rfl);rotate_left;(simp only [Act.put,M.sq3,i64_w,i32_w];rfl)
  refine po_ 9 (v:=?_) (a':=?_) rfl (rfl (a:=some _)) (any_of HT_.out (by kernel_rfl)) (fun _ _ _ h=>h) (Or.inl ⟨by rfl,?_⟩) ?_ ?_;rotate_left;(intro w';go_simp;with_reducible rfl);rotate_left;(simp only [Act.put,M.sq3,i64_w,i32_w];rfl)
  refine po_ 10 (v:=?_) (a':=?_) rfl (rfl (a:=some _)) (any_of HT_.out (by kernel_rfl)) (fun _ _ _ h=>h) (Or.inl ⟨by rfl,?_⟩) ?_ ?_;rotate_left;(intro w';go_simp;with_reducible rfl);rotate_left;(simp only [Act.put,M.sq3,i64_w,i32_w];rfl)
  refine one_ (i:=5) (N:=(some 44)) (pm 11 2) rfl rfl (one_of HT_.out (by kernel_rfl)) (by decide) (fun K hK=>?_)
  refine goes_ Tryz.func27 (by kernel_rfl) rfl #[.slice AS S.length cS,.agg #[.int .i64 N,.int .i64 G,.slice Z2 i.length z2,.slice Z3 st.f.length z3,.slice Z4 st.o.length z4,.slice Z5 st.c.length z5,.slice Z6 st.n.length z6],.slice WA u.length wc] rfl rfl rfl (by(try simp only [List.map_toArray,List.map_cons,List.map_nil]);rfl) ?_
  refine(canopyref4_Takes.calls AS cS S N G Z2 z2 i Z3 z3 (st.f) Z4 z4 (st.o) Z5 z5 (st.c) Z6 z6 (st.n) WA wc u r _ HK.out.s LS.out HK.out.a2.1 HK.out.a2.2 HK.out.a3.1 HK.out.a3.2 HK.out.a4.1 HK.out.a4.2 HK.out.a5.1 HK.out.a5.2 HK.out.a6.1 HK.out.a6.2 HUC.out.1 HUC.out.2 HT1.out).mono ?_
  rintro e we ⟨rfl,hb⟩
  have HK1:=Aside0.mk (HK.out.below hb)
  clear HK
  have HK:=HK1
  clear HK1
  have HU1:=Aside0.mk (And.intro (Kd.C_below HUC.out.1 hb) HUC.out.2)
  clear HUC
  have HUC:=HU1
  clear HU1
  have HW1:=Aside0.mk (Kd.C_below HWC.out hb)
  clear HWC
  have HWC:=HW1
  clear HW1
  clear hb hHeld
  refine⟨_,rfl,?_⟩
  refine hK.out _ _ ⟨(blk_cell HK.out.a 0).trans rfl,(blk_cell HK.out.a 1).trans rfl,(blk_cell HK.out.a 2).trans rfl,(blk_cell HK.out.a 3).trans rfl,(blk_cell HK.out.a 4).trans rfl,(blk_cell HK.out.a 5).trans rfl,(blk_cell HK.out.a 6).trans rfl,(blk_cell HK.out.t 0).trans rfl,(blk_cell HK.out.t 1).trans rfl,(blk_cell HK.out.t 2).trans rfl,(blk_cell HK.out.t 3).trans rfl,(blk_cell HK.out.t 4).trans rfl,(blk_cell HK.out.t 5).trans rfl,(blk_cell HK.out.t 6).trans rfl⟩ (fun hHeld=>?_)
  clear hK K
  obtain⟨wq,rfl⟩:∃wq:World,wq=we:=⟨_,rfl⟩
  refine norm_ (a':=?_) ?_ ?_
  rotate_left
  ·show Act.put _ (some 44) _ = _
   simp only [Act.put,M.sq3,i64_w,i32_w]
   rfl
  refine one_ (i:=11) (N:=(some 50)) (pm 12 1) rfl rfl (one_of HT_.out (by kernel_rfl)) (by decide) (fun K hK=>?_)
  refine goes_ Tryz.func27 (by kernel_rfl) rfl #[.slice AS S.length cS,.agg #[.int .i64 n,.int .i64 g,.slice Y2 l2.length y2,.slice Y3 l3.length y3,.slice Y4 l4.length y4,.slice Y5 l5.length y5,.slice Y6 l6.length y6],.slice WA u.length wc] rfl rfl rfl (by(try simp only [List.map_toArray,List.map_cons,List.map_nil]);rfl) ?_
  refine(canopyref4_Takes.calls AS cS S n g Y2 y2 l2 Y3 y3 l3 Y4 y4 l4 Y5 y5 l5 Y6 y6 l6 WA wc u r _ HK.out.s LS.out HK.out.t2.1 HK.out.t2.2 HK.out.t3.1 HK.out.t3.2 HK.out.t4.1 HK.out.t4.2 HK.out.t5.1 HK.out.t5.2 HK.out.t6.1 HK.out.t6.2 HUC.out.1 HUC.out.2 HT2.out).mono ?_
  rintro e we ⟨rfl,hb⟩
  have HK1:=Aside0.mk (HK.out.below hb)
  clear HK
  have HK:=HK1
  clear HK1
  have HU1:=Aside0.mk (And.intro (Kd.C_below HUC.out.1 hb) HUC.out.2)
  clear HUC
  have HUC:=HU1
  clear HU1
  have HW1:=Aside0.mk (Kd.C_below HWC.out hb)
  clear HWC
  have HWC:=HW1
  clear HW1
  clear hb hHeld
  refine⟨_,rfl,?_⟩
  refine hK.out _ _ ⟨(blk_cell HK.out.a 0).trans rfl,(blk_cell HK.out.a 1).trans rfl,(blk_cell HK.out.a 2).trans rfl,(blk_cell HK.out.a 3).trans rfl,(blk_cell HK.out.a 4).trans rfl,(blk_cell HK.out.a 5).trans rfl,(blk_cell HK.out.a 6).trans rfl,(blk_cell HK.out.t 0).trans rfl,(blk_cell HK.out.t 1).trans rfl,(blk_cell HK.out.t 2).trans rfl,(blk_cell HK.out.t 3).trans rfl,(blk_cell HK.out.t 4).trans rfl,(blk_cell HK.out.t 5).trans rfl,(blk_cell HK.out.t 6).trans rfl⟩ (fun hHeld=>?_)
  clear hK K
  obtain⟨wq,rfl⟩:∃wq:World,wq=we:=⟨_,rfl⟩
  refine norm_ (a':=?_) ?_ ?_
  rotate_left
  ·show Act.put _ (some 50) _ = _
   simp only [Act.put,M.sq3,i64_w,i32_w]
   rfl
  have hrr:(r != r)=false:=by cases r<;>rfl
  refine pn_ (v:=?_) (a':=?_) rfl (rfl (a:=some _)) (any_of HT_.out (by kernel_rfl)) (fun _ _ _ h=>h) (Or.inl ⟨by rfl,?_⟩) ?_ ?_;rotate_left;(intro w';go_simp;with_reducible rfl);rotate_left;(simp only [Act.put,M.sq3,i64_w,i32_w];rfl)
  refine done_ (done_of HT_.out (by kernel_rfl)) ?_
  go_wp2
  go_roundg (20 - (u.length+1))
  case measure=>have:=Hi.out;have:=HLT.out;have:=HWL.out;omega
  case rel=>exact⟨u.length+1,by first|rfl|rw [show wrap64 ((u.length:Int)+1)=((u.length+1:Nat):Int) by have:=HLT.out;have:=HWL.out;unfold wrap64;omega],⟨by have:=HLT.out;omega,Nat.le_refl _⟩,HK,HWC⟩
 have q1:=decide_eq_false (show ¬(i_:Int)≤(ww.length:Int) by omega)
 have q2:=eq_false (show ¬i_≤ww.length from hlt)
 clear hlt Hi HWC
 go_upto_region 14 with (fail)
 have HTA:Aside0 (auto_Trim.f S n g l2 l3 l4 l5 l6=some (n,g,l2,l3,l4,l5,l6)):=⟨(if_pos (HMB.out.check (by have:=HLN.out;omega) (by have:=HLN.out;omega) (by have:=HLN.out;omega))).trans (congrArg some HAG.out)⟩
 have HSM:Aside0 (canopyref3_Same.f n g l2 l3 l4 l5 l6 n g l2 l3 l4 l5 l6=some true):=⟨same_self3 n g l2 l3 l4 l5 l6 (by have:=HLN.out;omega)⟩
 have q7:=decide_eq_true (show n≤N from HL.out.le.1)
 have q8:=decide_eq_true (show g≤G from HL.out.le.2)
 obtain⟨b0,b1,b2,b3,b4,b5,b6,b7⟩:=auto_cells HK.out.a
 obtain⟨d0,d1,d2,d3,d4,d5,d6,d7⟩:=auto_cells HK.out.t
 clear b7 d7 q1 q2
 refine start_ (n:=20) (S:=fun w'=>w'.cell? ⟨ga,0,none⟩=some (.int .i64 N)∧w'.cell? ⟨ga,1,none⟩=some (.int .i64 G)∧w'.cell? ⟨ga,2,none⟩=some (.slice Z2 i.length z2)∧w'.cell? ⟨ga,3,none⟩=some (.slice Z3 st.f.length z3)∧w'.cell? ⟨ga,4,none⟩=some (.slice Z4 st.o.length z4)∧w'.cell? ⟨ga,5,none⟩=some (.slice Z5 st.c.length z5)∧w'.cell? ⟨ga,6,none⟩=some (.slice Z6 st.n.length z6)∧w'.cell? ⟨gt,0,none⟩=some (.int .i64 n)∧w'.cell? ⟨gt,1,none⟩=some (.int .i64 g)∧w'.cell? ⟨gt,2,none⟩=some (.slice Y2 l2.length y2)∧w'.cell? ⟨gt,3,none⟩=some (.slice Y3 l3.length y3)∧w'.cell? ⟨gt,4,none⟩=some (.slice Y4 l4.length y4)∧w'.cell? ⟨gt,5,none⟩=some (.slice Y5 l5.length y5)∧w'.cell? ⟨gt,6,none⟩=some (.slice Y6 l6.length y6)) (ds:=[19]) (pm 0 20) (by kernel_rfl) rfl rfl ⟨(blk_cell (HK.out.below (below_drew (Below.refl _ _))).a 0).trans rfl,(blk_cell (HK.out.below (below_drew (Below.refl _ _))).a 1).trans rfl,(blk_cell (HK.out.below (below_drew (Below.refl _ _))).a 2).trans rfl,(blk_cell (HK.out.below (below_drew (Below.refl _ _))).a 3).trans rfl,(blk_cell (HK.out.below (below_drew (Below.refl _ _))).a 4).trans rfl,(blk_cell (HK.out.below (below_drew (Below.refl _ _))).a 5).trans rfl,(blk_cell (HK.out.below (below_drew (Below.refl _ _))).a 6).trans rfl,(blk_cell (HK.out.below (below_drew (Below.refl _ _))).t 0).trans rfl,(blk_cell (HK.out.below (below_drew (Below.refl _ _))).t 1).trans rfl,(blk_cell (HK.out.below (below_drew (Below.refl _ _))).t 2).trans rfl,(blk_cell (HK.out.below (below_drew (Below.refl _ _))).t 3).trans rfl,(blk_cell (HK.out.below (below_drew (Below.refl _ _))).t 4).trans rfl,(blk_cell (HK.out.below (below_drew (Below.refl _ _))).t 5).trans rfl,(blk_cell (HK.out.below (below_drew (Below.refl _ _))).t 6).trans rfl⟩ (fun hHeld=>?_)
 refine with_tabW R14t.tab R14t.bits (fun HT_ HW_=>?_)
 have HK1:=Aside0.mk (HK.out.below (below_drew (Below.refl _ _)))
 clear HK
 have HK:=HK1
 clear HK1
 clear b0 b1 b2 b3 b4 b5 b6 d0 d1 d2 d3 d4 d5 d6
 obtain⟨wd,hwd⟩:∃W:World,W=wq.drew:=⟨_,rfl⟩
 rw [←hwd] at HK hHeld ⊢
 clear hwd
 try clear wq
 obtain⟨wq,rfl⟩:∃W:World,W=wd:=⟨_,rfl⟩
 iterate 2 (first|(refine pn_ (v:=?_) (a':=?_) rfl (rfl (a:=some _)) (any_of HT_.out (by kernel_rfl)) (fun _ _ _ h=>h) (Or.inl ⟨by rfl,?_⟩) ?_ ?_;rotate_left;(intro w';go_simp;with_reducible rfl);rotate_left;(simp only [Act.put,M.sq3,i64_w,i32_w];rfl))|(refine tn_ (v:=?_) (a':=?_) rfl (rfl (a:=some _)) (take_ofW HT_.out HW_.out (by kernel_rfl)) (fun _ _ _ h=>h) (Or.inl ⟨by rfl,?_⟩) hHeld ?_ ?_;rotate_left;(intro w' hS_;obtain⟨s0,s1,s2,s3,s4,s5,s6,s7,s8,s9,s10,s11,s12,s13⟩:=hS_;go_simp;with_reducible rfl);rotate_left;(simp only [Act.put,M.sq3,i64_w,i32_w];rfl)))
 refine to_ 3 (v:=?_) (a':=?_) rfl (rfl (a:=some _)) (take_ofW HT_.out HW_.out (by kernel_rfl)) (fun _ _ _ h=>h) (Or.inl ⟨by rfl,?_⟩) hHeld ?_ ?_;rotate_left;(intro w' hS_;obtain⟨s0,s1,s2,s3,s4,s5,s6,s7,s8,s9,s10,s11,s12,s13⟩:=hS_;go_simp;with_reducible rfl);rotate_left;(simp only [Act.put,M.sq3,i64_w,i32_w];rfl)
 refine one_ (i:=2) (N:=(some 54)) (pm 4 16) rfl rfl (one_of HT_.out (by kernel_rfl)) (by decide) (fun K hK=>?_)
 refine goes_ Tryz.func18 (by kernel_rfl) rfl #[.slice AS S.length cS,.agg #[.int .i64 n,.int .i64 g,.slice Y2 l2.length y2,.slice Y3 l3.length y3,.slice Y4 l4.length y4,.slice Y5 l5.length y5,.slice Y6 l6.length y6]] rfl rfl rfl (by(try simp only [List.map_toArray,List.map_cons,List.map_nil]);rfl) ?_
 refine(auto_Trim.calls AS cS S n g Y2 y2 l2 Y3 y3 l3 Y4 y4 l4 Y5 y5 l5 Y6 y6 l6 n g l2 l3 l4 l5 l6 _ HK.out.s LS.out HK.out.t2.1 HK.out.t2.2 HK.out.t3.1 HK.out.t3.2 HK.out.t4.1 HK.out.t4.2 HK.out.t5.1 HK.out.t5.2 HK.out.t6.1 HK.out.t6.2 HTA.out).mono ?_
 rintro e we ⟨v2,v3,v4,v5,v6,rfl,hv2,hv3,hv4,hv5,hv6,hb⟩
 obtain⟨E2,e2,rfl⟩:=Kd.V_slice hv2
 have HE2:=Aside0.mk (And.intro (Kd.V_reads' hv2).2.2 (Kd.V_reads' hv2).2.1)
 clear hv2
 obtain⟨E3,e3,rfl⟩:=Kd.V_slice hv3
 have HE3:=Aside0.mk (And.intro (Kd.V_reads' hv3).2.2 (Kd.V_reads' hv3).2.1)
 clear hv3
 obtain⟨E4,e4,rfl⟩:=Kd.V_slice hv4
 have HE4:=Aside0.mk (And.intro (Kd.V_reads' hv4).2.2 (Kd.V_reads' hv4).2.1)
 clear hv4
 obtain⟨E5,e5,rfl⟩:=Kd.V_slice hv5
 have HE5:=Aside0.mk (And.intro (Kd.V_reads' hv5).2.2 (Kd.V_reads' hv5).2.1)
 clear hv5
 obtain⟨E6,e6,rfl⟩:=Kd.V_slice hv6
 have HE6:=Aside0.mk (And.intro (Kd.V_reads' hv6).2.2 (Kd.V_reads' hv6).2.1)
 clear hv6
 have HK1:=Aside0.mk (HK.out.below hb)
 clear HK
 have HK:=HK1
 clear HK1
 clear hb hHeld
 refine⟨_,rfl,?_⟩
 refine hK.out _ _ ⟨(blk_cell HK.out.a 0).trans rfl,(blk_cell HK.out.a 1).trans rfl,(blk_cell HK.out.a 2).trans rfl,(blk_cell HK.out.a 3).trans rfl,(blk_cell HK.out.a 4).trans rfl,(blk_cell HK.out.a 5).trans rfl,(blk_cell HK.out.a 6).trans rfl,(blk_cell HK.out.t 0).trans rfl,(blk_cell HK.out.t 1).trans rfl,(blk_cell HK.out.t 2).trans rfl,(blk_cell HK.out.t 3).trans rfl,(blk_cell HK.out.t 4).trans rfl,(blk_cell HK.out.t 5).trans rfl,(blk_cell HK.out.t 6).trans rfl⟩ (fun hHeld=>?_)
 clear hK K
 obtain⟨wq,rfl⟩:∃wq:World,wq=we:=⟨_,rfl⟩
 refine norm_ (a':=?_) ?_ ?_
 rotate_left
 ·show Act.put _ (some 54) _ = _
  simp only [Act.put,M.sq3,i64_w,i32_w]
  rfl
 refine one_ (i:=4) (N:=(some 56)) (pm 5 15) rfl rfl (one_of HT_.out (by kernel_rfl)) (by decide) (fun K hK=>?_)
 refine goes_ Tryz.func23 (by kernel_rfl) rfl #[.agg #[.int .i64 n,.int .i64 g,.slice E2 l2.length e2,.slice E3 l3.length e3,.slice E4 l4.length e4,.slice E5 l5.length e5,.slice E6 l6.length e6],.agg #[.int .i64 n,.int .i64 g,.slice Y2 l2.length y2,.slice Y3 l3.length y3,.slice Y4 l4.length y4,.slice Y5 l5.length y5,.slice Y6 l6.length y6]] rfl rfl rfl (by(try simp only [List.map_toArray,List.map_cons,List.map_nil]);rfl) ?_
 refine(canopyref3_Same.calls n g E2 e2 l2 E3 e3 l3 E4 e4 l4 E5 e5 l5 E6 e6 l6 n g Y2 y2 l2 Y3 y3 l3 Y4 y4 l4 Y5 y5 l5 Y6 y6 l6 _ _ HE2.out.1 HE2.out.2 HE3.out.1 HE3.out.2 HE4.out.1 HE4.out.2 HE5.out.1 HE5.out.2 HE6.out.1 HE6.out.2 HK.out.t2.1 HK.out.t2.2 HK.out.t3.1 HK.out.t3.2 HK.out.t4.1 HK.out.t4.2 HK.out.t5.1 HK.out.t5.2 HK.out.t6.1 HK.out.t6.2 HSM.out).mono ?_
 rintro e we ⟨rfl,hb⟩
 have HK1:=Aside0.mk (HK.out.below hb)
 clear HK
 have HK:=HK1
 clear HK1
 clear hb hHeld
 refine⟨_,rfl,?_⟩
 refine hK.out _ _ ⟨(blk_cell HK.out.a 0).trans rfl,(blk_cell HK.out.a 1).trans rfl,(blk_cell HK.out.a 2).trans rfl,(blk_cell HK.out.a 3).trans rfl,(blk_cell HK.out.a 4).trans rfl,(blk_cell HK.out.a 5).trans rfl,(blk_cell HK.out.a 6).trans rfl,(blk_cell HK.out.t 0).trans rfl,(blk_cell HK.out.t 1).trans rfl,(blk_cell HK.out.t 2).trans rfl,(blk_cell HK.out.t 3).trans rfl,(blk_cell HK.out.t 4).trans rfl,(blk_cell HK.out.t 5).trans rfl,(blk_cell HK.out.t 6).trans rfl⟩ (fun hHeld=>?_)
 clear hK K
 obtain⟨wq,rfl⟩:∃wq:World,wq=we:=⟨_,rfl⟩
 refine norm_ (a':=?_) ?_ ?_
 rotate_left
 ·show Act.put _ (some 56) _ = _
  simp only [Act.put,M.sq3,i64_w,i32_w]
  rfl
 iterate 14 (first|(refine pn_ (v:=?_) (a':=?_) rfl (rfl (a:=some _)) (any_of HT_.out (by kernel_rfl)) (fun _ _ _ h=>h) (Or.inl ⟨by rfl,?_⟩) ?_ ?_;rotate_left;(intro w';go_simp;with_reducible rfl);rotate_left;(simp only [Act.put,M.sq3,i64_w,i32_w];rfl))|(refine tn_ (v:=?_) (a':=?_) rfl (rfl (a:=some _)) (take_ofW HT_.out HW_.out (by kernel_rfl)) (fun _ _ _ h=>h) (Or.inl ⟨by rfl,?_⟩) hHeld ?_ ?_;rotate_left;(intro w' hS_;obtain⟨s0,s1,s2,s3,s4,s5,s6,s7,s8,s9,s10,s11,s12,s13⟩:=hS_;go_simp;with_reducible rfl);rotate_left;(simp only [Act.put,M.sq3,i64_w,i32_w];rfl)))
 refine pn_ (v:=?_) (a':=?_) rfl (rfl (a:=some _)) (any_of HT_.out (by kernel_rfl)) (fun _ _ _ h=>h) (Or.inl ⟨by rfl,?_⟩) ?_ ?_;rotate_left;(intro w';go_simp;with_reducible rfl);rotate_left;(simp only [Act.put,M.sq3,i64_w,i32_w];rfl)
 refine done_ (done_of HT_.out (by kernel_rfl)) ?_
 go_wp2
 go_ret
 exact⟨rfl,HK.out.b⟩
theorem canopylaw3_AutoTrims.walk (P:canopylaw3_AutoTrims.Pure) (a0:Int) (a1:Int) (a2:Option Addr) (len2 cap2:Nat) (z2:List Int) (a3:Option Addr) (len3 cap3:Nat) (z3:List Int) (w:World) (w0:(Lit.int .i64 a0).wf=true) (w1:(Lit.int .i64 a1).wf=true) (w2:(a2=none∧len2=0∧cap2=0∧z2 = [])∨∃x,a2=some x∧len2≤cap2∧cap2≤maxLen∧z2.length=cap2∧(∀i,i < z2.length→w.cell? (x.add i)=some (.int .i64 (z2.getD i 0)))∧∀n∈z2,(Lit.int .i64 n).wf=true) (y2:len2*8≤140737488351232) (w3:(a3=none∧len3=0∧cap3=0∧z3 = [])∨∃x,a3=some x∧len3≤cap3∧cap3≤maxLen∧z3.length=cap3∧(∀i,i < z3.length→w.cell? (x.add i)=some (.int .i64 (z3.getD i 0)))∧∀n∈z3,(Lit.int .i64 n).wf=true) (y3:len3*8≤140737488351232) :
 Calls Tryz.prog 5 #[.int .i64 a0,.int .i64 a1,.slice a2 len2 cap2,.slice a3 len3 cap3] w fun e w'=>e=.returned (.bool true)∧Below w.heap.size w w':=by
 obtain⟨l2,rfl,hr2,hm2,hw2,hc2⟩:=ReadsInt.ofRowC w2
 obtain⟨l3,rfl,hr3,hm3,hw3,hc3⟩:=ReadsInt.ofRowC w3
 exact trims_walk a0 a1 _ _ l2 _ _ l3 w (Kd.C_of_reads (d:=(0:Int)) (h1:=fun _=>rfl) hr2) hc2 hm2 (Kd.C_of_reads (d:=(0:Int)) (h1:=fun _=>rfl) hr3) hc3 hm3
end Go.Proofs.YtejpijgfpbcibaaGreat.P
