/- Words and walks of this claim: LRWhole. -/
import Derived.Test.YtjkhdldgmkkhjaaKMFar
import Derived.Test.YtjkhdldgmkkhjaaKUTyEtc
import Derived.Test.YtjkhdldgmkkhjaaKSMake
import Derived.Test.YtjkhdldgmkkhjaaKSStepEtc
import Derived.Test.YtjkhdldgmkkhjaaKP0Etc
import Derived.BigQuiet
set_option linter.unusedVariables false
set_option linter.unusedSimpArgs false
set_option linter.unnecessarySimpa false
namespace Go.Proofs.Ytjkhdldgmkkhjaa.P
open Go.RowKit Go.Sort Go.Shelf Go.Proofs.YtjkhdldgmkkhjaaW.PrintWords Go.Proofs.YtjkhdldgmkkhjaaW.PrintLast Go.Proofs.YtjkhdldgmkkhjaaW.PrintMore Go.Proofs.Ytjkhdldgmkkhjaa.M
theorem rt_cells {w:World} {g t:Nat} {a b c d e f h:Value} (H:w.heap[g]? = some (.cells #[a,b,c,d,e,f,h] t (0,0))):w.cell? ⟨g,0,none⟩=some a∧w.cell? ⟨g,1,none⟩=some b∧w.cell? ⟨g,2,none⟩=some c∧w.cell? ⟨g,3,none⟩=some d∧w.cell? ⟨g,4,none⟩=some e∧w.cell? ⟨g,5,none⟩=some f∧w.cell? ⟨g,6,none⟩=some h:=
 ⟨(blk_cell H 0).trans rfl,(blk_cell H 1).trans rfl,(blk_cell H 2).trans rfl,(blk_cell H 3).trans rfl,(blk_cell H 4).trans rfl,(blk_cell H 5).trans rfl,(blk_cell H 6).trans rfl⟩
def mkJ (st:MSt):List Int:=if (st.i.length:Int)=0 then [0] else st.i
structure RT (w wq:World) (AS:Option Addr) (cS:Nat) (S:List S46) (ga:Nat) (N G:Int) (Z2:Option Addr) (z2:Nat) (x2:List Int) (Z3:Option Addr) (z3:Nat) (x3:List Int) (Z4:Option Addr) (z4:Nat) (x4:List TOpen) (Z5:Option Addr) (z5:Nat) (x5:List TClose) (Z6:Option Addr) (z6:Nat) (x6:List TInner):Prop where
 b:Below w.heap.size w wq
 s:Kd.R k46 46 wq w.heap.size (fun _=>True) (.slice AS S.length cS) S
 a2:Kd.C (Kd.int .i64) wq Z2 x2.length x2∧x2.length≤z2
 a3:Kd.C (Kd.int .i64) wq Z3 x3.length x3∧x3.length≤z3
 a4:Kd.C k52 wq Z4 x4.length x4∧x4.length≤z4
 a5:Kd.C k54 wq Z5 x5.length x5∧x5.length≤z5
 a6:Kd.C k56 wq Z6 x6.length x6∧x6.length≤z6
 a:wq.heap[ga]? = some (.cells #[.int .i64 N,.int .i64 G,.slice Z2 x2.length z2,.slice Z3 x3.length z3,.slice Z4 x4.length z4,.slice Z5 x5.length z5,.slice Z6 x6.length z6] 30 (0,0))
theorem RT.below {w wq w' : World} {AS:Option Addr} {cS:Nat} {S:List S46} {ga:Nat} {N G:Int} {Z2:Option Addr} {z2:Nat} {x2:List Int} {Z3:Option Addr} {z3:Nat} {x3:List Int} {Z4:Option Addr} {z4:Nat} {x4:List TOpen} {Z5:Option Addr} {z5:Nat} {x5:List TClose} {Z6:Option Addr} {z6:Nat} {x6:List TInner} (h:RT w wq AS cS S ga N G Z2 z2 x2 Z3 z3 x3 Z4 z4 x4 Z5 z5 x5 Z6 z6 x6) (hb:Below wq.heap.size wq w'):RT w w' AS cS S ga N G Z2 z2 x2 Z3 z3 x3 Z4 z4 x4 Z5 z5 x5 Z6 z6 x6:=
 ⟨below_then h.b h.b.size hb,Kd.R_below h.s hb,⟨Kd.C_below h.a2.1 hb,h.a2.2⟩,⟨Kd.C_below h.a3.1 hb,h.a3.2⟩,⟨Kd.C_below h.a4.1 hb,h.a4.2⟩,⟨Kd.C_below h.a5.1 hb,h.a5.2⟩,⟨Kd.C_below h.a6.1 hb,h.a6.2⟩,blk_below h.a hb⟩
theorem RT.kept {w wq wb W_:World} {AS:Option Addr} {cS:Nat} {S:List S46} {ga:Nat} {N G:Int} {Z2:Option Addr} {z2:Nat} {x2:List Int} {Z3:Option Addr} {z3:Nat} {x3:List Int} {Z4:Option Addr} {z4:Nat} {x4:List TOpen} {Z5:Option Addr} {z5:Nat} {x5:List TClose} {Z6:Option Addr} {z6:Nat} {x6:List TInner} (h:RT w wq AS cS S ga N G Z2 z2 x2 Z3 z3 x3 Z4 z4 x4 Z5 z5 x5 Z6 z6 x6) (hb:Below wq.heap.size wq wb) (hk:Kept wb W_ (fun k=>wq.heap.size≤k)):Kd.C k46 W_ AS S.length S:=
 (Kd.R_reads' (Kd.R_step h.s (fun k _ hlt=>(hk.2 k (Nat.lt_of_lt_of_le hlt hb.size) (Nat.not_le_of_lt hlt)).trans (hb.block k hlt)))).2.2
def W12t.T:Bool × List (List Nat × List Nat):=(true,[([],[]),([],[]),([],[]),([],[]),([],[]),([3,4],[3,4]),([5],[5]),([0,1,2,6],[0,1,2,6]),([7,7,0,1,2,3,4,5,6,7],[2,7])])
def W12t.B:List Nat:=[0,0,0,0,0,24,56,127,255]
theorem W12t.tab:rtab .any (opsOf Try.f10 12)=W12t.T:=by kernel_rfl
theorem W12t.bits:waitsOk W12t.T.2 W12t.B=true:=by kernel_rfl
def W17t.T:Bool × List (List Nat × List Nat):=(true,[([],[]),([],[]),([],[]),([],[]),([],[]),([3,4],[3,4]),([5],[5]),([0,1,2,6],[0,1,2,6]),([7,7,0,1,2,3,4,5,6,7],[2,7])])
def W17t.B:List Nat:=[0,0,0,0,0,24,56,127,255]
theorem W17t.tab:rtab .any (opsOf Try.f10 17)=W17t.T:=by kernel_rfl
theorem W17t.bits:waitsOk W17t.T.2 W17t.B=true:=by kernel_rfl
def W25t.T:Bool × List (List Nat × List Nat):=(true,[([],[]),([0],[0]),([1],[1]),([1],[1]),([2,3,1],[1,2,3]),([4,1],[1,4]),([5,1],[1,5]),([1],[1]),([1],[1]),([7,8,1],[1,7,8]),([9,1],[1,9]),([10,1],[1,10]),([6,11,1,1],[1,6,11]),([1,12],[1,12]),([13,12,0,1,2,3,4,5,6,7,8,9,10,11,12,13],[0,13])])
def W25t.B:List Nat:=[0,1,3,3,15,31,63,3,3,387,899,1923,4095,8191,16383]
theorem W25t.tab:rtab .any (opsOf Try.f10 25)=W25t.T:=by kernel_rfl
theorem W25t.bits:waitsOk W25t.T.2 W25t.B=true:=by kernel_rfl
def canopylaw4_RunsWhole.Pure:Prop:=True
set_option maxHeartbeats 16000000 in
set_option maxRecDepth 100000 in
theorem rwhole_walk (a0 a1:Int) (A2:Option Addr) (c2:Nat) (ns_:List Int) (A3:Option Addr) (c3:Nat) (ws_:List Int) (A4:Option Addr) (c4:Nat) (ms_:List Int) (w:World) (hr2:Kd.C (Kd.int .i64) w A2 ns_.length ns_) (hc2:ns_.length≤c2) (hm2:ns_.length≤maxLen) (hr3:Kd.C (Kd.int .i64) w A3 ws_.length ws_) (hc3:ws_.length≤c3) (hm3:ws_.length≤maxLen) (hr4:Kd.C (Kd.int .i64) w A4 ms_.length ms_) (hc4:ms_.length≤c4) (hm4:ms_.length≤maxLen) :
 Calls Try.prog 10 #[.int .i64 a0,.int .i64 a1,.slice A2 ns_.length c2,.slice A3 ws_.length c3,.slice A4 ms_.length c4] w fun e w'=>e=.returned (.bool true)∧Below w.heap.size w w':=by
 obtain⟨S,hS,hOk⟩:∃S,canopylaw1_Syms.f a0 ns_=some S∧symOk S:=⟨_,syms_eq a0 ns_ hm2,symsL_ok a0 ns_⟩
 have hN:=makeN_in a1 (most:=4) (by decide)
 have hG:=makeG_in a1
 obtain⟨hI,hL⟩:=mkAll_inv hOk (N:=makeN a1 4) (G:=makeG a1) (by omega) (by omega) ns_
 have HS0:=Aside0.mk (And.intro hS hOk)
 have HINV:=Aside0.mk hI
 have HLEN:=Aside0.mk hL
 have HN:=Aside0.mk (And.intro hN hG)
 have HI2:=Aside0.mk (And.intro hr2 hc2)
 have HI3:=Aside0.mk (And.intro hr3 (And.intro hc3 hm3))
 have HI4:=Aside0.mk (And.intro hr4 (And.intro hc4 hm4))
 clear hS hOk hI hL hN hG hr2 hc2 hm2 hr3 hc3 hm3 hr4 hc4 hm4
 go_enter Try.func10,Try.ntmps10
 go_wp2_with fail
 refine(canopylaw4_known.calls true _ rfl).mono ?_
 rintro e w1 ⟨rfl,hb1⟩
 have HB1:Aside0 (Below w.heap.size w w1):=⟨hb1⟩
 clear hb1
 go_wp2_with fail
 refine(canopylaw1_Syms.calls a0 A2 c2 ns_ S _ (Kd.C_below HI2.out.1 HB1.out) HI2.out.2 HS0.out.1).mono ?_
 rintro e w2 ⟨v1,rfl,hr1,hb2⟩
 obtain⟨AS,cS,rfl⟩:=Kd.R_slice hr1
 have HS:Aside0 (Kd.R k46 46 w2 w.heap.size (fun _=>True) (.slice AS S.length cS) S):=⟨Kd.R_mono (Kd.R_lower hr1 HB1.out.size) (fun _ _=>trivial)⟩
 have HB2:=Aside0.mk (below_then HB1.out HB1.out.size hb2)
 clear hr1 hb2 HB1
 go_wp2_with fail
 refine(make_own AS cS S a1 A2 c2 ns_ 4 _ (Kd.R_reads' HS.out).2.2 (Kd.R_reads' HS.out).2.1 (Kd.C_below HI2.out.1 HB2.out) HS0.out.2 (by decide) (by decide)).mono ?_
 rintro e w3 ⟨v2,v3,v4,v5,v6,rfl,hv,hb3⟩
 obtain⟨st,hst⟩:∃st,st=mkAll S (makeN a1 4) (makeG a1) ns_:=⟨_,rfl⟩
 rw [←hst] at HINV HLEN hv
 obtain⟨N,hN⟩:∃N,N=makeN a1 4:=⟨_,rfl⟩
 obtain⟨G,hG⟩:∃G,G=makeG a1:=⟨_,rfl⟩
 rw [←hN] at HN
 rw [←hG] at HN
 rw [←hN,←hG] at HINV hv ⊢
 have HV:Aside0 (OutV w3 w2.heap.size v2 v3 v4 v5 v6 (mkJ st) st.f st.o st.c st.n):=⟨hv⟩
 have HB3:=Aside0.mk (below_then HB2.out HB2.out.size hb3)
 have HS3:=Aside0.mk (Kd.R_below HS.out hb3)
 clear hst hN hG hv hb3 HB2 HS
 have HIN:Aside0 ((∀s∈mkJ st,0≤s∧s < N)∧(mkJ st).length≤25):=⟨by
  unfold mkJ
  have:=HLEN.out.1
  split
  ·exact⟨fun s hs=>by rw [List.mem_singleton.1 hs];have:=HN.out;omega,by simp⟩
  exact⟨HINV.out.i,by omega⟩⟩
 obtain⟨i,hi⟩:∃i,i=mkJ st:=⟨_,rfl⟩
 rw [←hi] at HV HIN
 clear hi
 have q2:=HV.out.r2
 have q3:=HV.out.r3
 have q4:=HV.out.r4
 have q5:=HV.out.r5
 have q6:=HV.out.r6
 obtain⟨Z2,z2,rfl⟩:=Kd.R_slice q2
 obtain⟨Z3,z3,rfl⟩:=Kd.R_slice q3
 obtain⟨Z4,z4,rfl⟩:=Kd.R_slice q4
 obtain⟨Z5,z5,rfl⟩:=Kd.R_slice q5
 obtain⟨Z6,z6,rfl⟩:=Kd.R_slice q6
 clear q2 q3 q4 q5 q6
 have HT:Aside0 (RT w (w3.alloc (.cells #[.int .i64 N,.int .i64 G,.slice Z2 i.length z2,.slice Z3 st.f.length z3,.slice Z4 st.o.length z4,.slice Z5 st.c.length z5,.slice Z6 st.n.length z6] 30)) AS cS S w3.heap.size N G Z2 z2 i Z3 z3 (st.f) Z4 z4 (st.o) Z5 z5 (st.c) Z6 z6 (st.n)):=⟨⟨below_alloc HB3.out _,Kd.R_alloc HS3.out _,⟨Kd.C_below (Kd.R_reads' HV.out.r2).2.2 (below_alloc (Below.refl _ _) _),(Kd.R_reads' HV.out.r2).2.1⟩,⟨Kd.C_below (Kd.R_reads' HV.out.r3).2.2 (below_alloc (Below.refl _ _) _),(Kd.R_reads' HV.out.r3).2.1⟩,⟨Kd.C_below (Kd.R_reads' HV.out.r4).2.2 (below_alloc (Below.refl _ _) _),(Kd.R_reads' HV.out.r4).2.1⟩,⟨Kd.C_below (Kd.R_reads' HV.out.r5).2.2 (below_alloc (Below.refl _ _) _),(Kd.R_reads' HV.out.r5).2.1⟩,⟨Kd.C_below (Kd.R_reads' HV.out.r6).2.2 (below_alloc (Below.refl _ _) _),(Kd.R_reads' HV.out.r6).2.1⟩,blk_newAt _ rfl⟩⟩
 clear HV HS3 HB3
 go_upto_region 5 with (fail)
 obtain⟨wq,hwq⟩:∃W:World,W=w3.alloc (.cells #[.int .i64 N,.int .i64 G,.slice Z2 i.length z2,.slice Z3 st.f.length z3,.slice Z4 st.o.length z4,.slice Z5 st.c.length z5,.slice Z6 st.n.length z6] 30):=⟨_,rfl⟩
 obtain⟨ga,hga⟩:∃g,g=w3.heap.size:=⟨_,rfl⟩
 rw [←hwq,←hga] at HT
 rw [←hwq,←hga]
 clear hwq hga w3
 -- MARK1
 go_wp2_with fail
 refine(canopylaw1_Word.calls 1002 AS cS S A3 c3 ws_ 6 (wordL S ws_ 6) _ (Kd.R_reads' HT.out.s).2.2 (Kd.R_reads' HT.out.s).2.1 (Kd.C_below HI3.out.1 HT.out.b) HI3.out.2.1 (word_eq HS0.out.2 ws_ HI3.out.2.2 6 (by decide) (by decide) 1002 (by decide))).mono ?_
 rintro e wb ⟨vw,rfl,hrw,hbw⟩
 have hmem:∀x∈wordL S ws_ 6,0≤x∧x < S.length:=fun x hx=>wordL_mem HS0.out.2 hx
 have hwl:=wordL_len S ws_ 6
 obtain⟨ww,hww⟩:∃u,u=fewL S 3 (wordL S ws_ 6) 0:=⟨_,rfl⟩
 have HFww:Aside0 ((∀x∈ww,0≤x∧x < S.length)∧ww.length≤6∧opensIn S ww≤3):=⟨by rw [hww];exact few_mem hmem,by rw [hww];exact Nat.le_trans few_len hwl,by rw [hww];have:=few_opens (l:=S) (most:=3) (n:=0) (w:=wordL S ws_ 6) (by decide);omega⟩
 have hfe:=few_eq (l:=S) _ (Nat.le_trans hwl (by decide)) hmem 3 (by decide) 1002 (by decide)
 rw [←hww] at hfe
 have HFE:=Aside0.mk hfe
 have HRW:=Aside0.mk hrw
 have HBW:=Aside0.mk hbw
 clear hmem hwl hww hfe hrw hbw
 go_wp2_with fail
 refine(canopylaw4_few.calls 1002 AS cS S (fun k=>wq.heap.size≤k) vw (wordL S ws_ 6) 3 ww wq _ HBW.out (fun W_ hk=>HT.out.kept HBW.out hk) (Kd.R_reads' HT.out.s).2.1 (Kd.R_mono (Kd.R_bound HRW.out) (fun k hk=>hk.2.1)) HFE.out).mono ?_
 rintro e wn ⟨vww,rfl,hr,hb,hkp⟩
 obtain⟨Aww,cww,rfl⟩:=Kd.R_slice hr
 have HCww:=Aside0.mk (And.intro (Kd.R_reads' hr).2.2 (Kd.R_reads' hr).2.1)
 have HT1:=Aside0.mk (HT.out.below hb)
 clear hr hb hkp HT HFE HRW HBW wb
 have HT:=HT1
 clear HT1
 clear wq
 obtain⟨wq,rfl⟩:∃W:World,W=wn:=⟨_,rfl⟩
 go_wp2_with fail
 refine(canopylaw1_Word.calls 1002 AS cS S A4 c4 ms_ 8 (wordL S ms_ 8) _ (Kd.R_reads' HT.out.s).2.2 (Kd.R_reads' HT.out.s).2.1 (Kd.C_below HI4.out.1 HT.out.b) HI4.out.2.1 (word_eq HS0.out.2 ms_ HI4.out.2.2 8 (by decide) (by decide) 1002 (by decide))).mono ?_
 rintro e wb ⟨vw,rfl,hrw,hbw⟩
 have hmem:∀x∈wordL S ms_ 8,0≤x∧x < S.length:=fun x hx=>wordL_mem HS0.out.2 hx
 have hwl:=wordL_len S ms_ 8
 obtain⟨vv,hvv⟩:∃u,u=fewL S 3 (wordL S ms_ 8) 0:=⟨_,rfl⟩
 have HFvv:Aside0 ((∀x∈vv,0≤x∧x < S.length)∧vv.length≤8∧opensIn S vv≤3):=⟨by rw [hvv];exact few_mem hmem,by rw [hvv];exact Nat.le_trans few_len hwl,by rw [hvv];have:=few_opens (l:=S) (most:=3) (n:=0) (w:=wordL S ms_ 8) (by decide);omega⟩
 have hfe:=few_eq (l:=S) _ (Nat.le_trans hwl (by decide)) hmem 3 (by decide) 1002 (by decide)
 rw [←hvv] at hfe
 have HFE:=Aside0.mk hfe
 have HRW:=Aside0.mk hrw
 have HBW:=Aside0.mk hbw
 clear hmem hwl hvv hfe hrw hbw
 go_wp2_with fail
 refine(canopylaw4_few.calls 1002 AS cS S (fun k=>wq.heap.size≤k) vw (wordL S ms_ 8) 3 vv wq _ HBW.out (fun W_ hk=>HT.out.kept HBW.out hk) (Kd.R_reads' HT.out.s).2.1 (Kd.R_mono (Kd.R_bound HRW.out) (fun k hk=>hk.2.1)) HFE.out).mono ?_
 rintro e wn ⟨vvv,rfl,hr,hb,hkp⟩
 obtain⟨Avv,cvv,rfl⟩:=Kd.R_slice hr
 have HCvv:=Aside0.mk (And.intro (Kd.R_reads' hr).2.2 (Kd.R_reads' hr).2.1)
 have HT1:=Aside0.mk (HT.out.below hb)
 have HO1:=Aside0.mk (And.intro (Kd.C_below HCww.out.1 hb) HCww.out.2)
 clear HCww
 have HCww:=HO1
 clear HO1
 clear hr hb hkp HT HFE HRW HBW wb
 have HT:=HT1
 clear HT1
 clear wq
 obtain⟨wq,rfl⟩:∃W:World,W=wn:=⟨_,rfl⟩
 clear HI2 HI3 HI4
 obtain⟨bw,hbw,hbal⟩:=whole_eq (l:=S) (w:=vv) (by have:=HFvv.out.2.1;omega) HFvv.out.1
 have HBW:=Aside0.mk hbw
 have HBAL:=Aside0.mk hbal
 clear hbw hbal
 go_wp2_with fail
 refine(canopyref1_Whole.calls 1002 AS cS S Avv cvv vv bw _ (Kd.R_reads' HT.out.s).2.2 (Kd.R_reads' HT.out.s).2.1 HCvv.out.1 HCvv.out.2 HBW.out).mono ?_
 rintro e wn ⟨rfl,hb⟩
 have HT1:=Aside0.mk (HT.out.below hb)
 have HC1:=Aside0.mk (And.intro (Kd.C_below HCww.out.1 hb) HCww.out.2)
 have HC2:=Aside0.mk (And.intro (Kd.C_below HCvv.out.1 hb) HCvv.out.2)
 clear HT HCww HCvv
 have HT:=HT1
 have HCww:=HC1
 have HCvv:=HC2
 clear HT1 HC1 HC2
 clear hb HBW
 clear wq
 obtain⟨wq,rfl⟩:∃W:World,W=wn:=⟨_,rfl⟩
 cases bw
 ·clear HBAL
  go_wp2
  go_ret
  exact⟨rfl,HT.out.b⟩
 have HBL:Aside0 (bal S vv 0):=⟨HBAL.out rfl⟩
 clear HBAL
 obtain⟨b0,b1,b2,b3,b4,b5,b6⟩:=rt_cells HT.out.a
 -- MARK2
 go_wp2_with fail
 refine(runs_Start.calls N G Z2 z2 i Z3 z3 (st.f) Z4 z4 (st.o) Z5 z5 (st.c) Z6 z6 (st.n) (startL i) _ HT.out.a2.1 HT.out.a2.2 HT.out.a3.1 HT.out.a3.2 HT.out.a4.1 HT.out.a4.2 HT.out.a5.1 HT.out.a5.2 HT.out.a6.1 HT.out.a6.2 (if_pos (by have:=HIN.out.2;omega))).mono ?_
 rintro e wn ⟨vp,rfl,hsp,hb⟩
 have hsz:w.heap.size≤wq.heap.size:=HT.out.b.size
 have HT1:=Aside0.mk (HT.out.below hb)
 have HC1:=Aside0.mk (And.intro (Kd.C_below HCww.out.1 hb) HCww.out.2)
 have HC2:=Aside0.mk (And.intro (Kd.C_below HCvv.out.1 hb) HCvv.out.2)
 clear HT HCww HCvv
 have HT:=HT1
 have HCww:=HC1
 have HCvv:=HC2
 clear HT1 HC1 HC2
 have HP:Aside0 (Kd.S k48 48 wn w.heap.size (fun _=>True) vp (runL S st.o st.c st.n (startL i) (ww.take 0))):=⟨Kd.S_lower hsp hsz⟩
 clear hb hsp hsz b0 b1 b2 b3 b4 b5 b6
 try clear wq
 obtain⟨wq,rfl⟩:∃W:World,W=wn:=⟨_,rfl⟩
 go_wp2
 go_loopg [15,16] ww.length (fun gk vp vi w'=>∃i_:Nat,vi=.int .i64 (i_:Int)∧Aside0 (i_≤ww.length∧ww.length - i_≤gk)∧Aside0 (RT w w' AS cS S ga N G Z2 z2 i Z3 z3 (st.f) Z4 z4 (st.o) Z5 z5 (st.c) Z6 z6 (st.n))∧Aside0 (Kd.C (Kd.int .i64) w' Aww ww.length ww∧ww.length≤cww)∧Aside0 (Kd.C (Kd.int .i64) w' Avv vv.length vv∧vv.length≤cvv)∧Aside0 (Kd.S k48 48 w' w.heap.size (fun _=>True) vp (runL S st.o st.c st.n (startL i) (ww.take i_))))
 case atStart=>exact⟨0,rfl,⟨by omega,by omega⟩,HT,HCww,HCvv,HP⟩
 case' round=>skip
 try clear s3
 clear HT HCww HCvv HP 
 obtain⟨i_,rfl,Hi,HT,HCww,HCvv,HP⟩:=hrel
 try clear wq
 obtain⟨wq,rfl⟩:∃W:World,W=wr:=⟨_,rfl⟩
 have hsl:=Kd.S_R HP.out
 obtain⟨PA,pc,rfl⟩:=Kd.R_slice hsl
 clear hsl
 by_cases hl_:i_ < ww.length
 ·as_aux_lemma=>
   have HLT:=Aside0.mk hl_
   obtain⟨ad,eA,cx⟩:=int_at HCww.out.1 i_ hl_
   have HNX:Aside0 (ww.take (i_+1)=(ww.take i_) ++ [ww[i_]]):=⟨by rw [List.take_add_one,List.getElem?_eq_getElem hl_];rfl⟩
   have hop:opensIn S (ww.take i_)≤14:=by
    have h1:=opens_take S ww i_
    have h2:=HFww.out.2.2
    omega
   have hmem:∀s∈ww.take i_,0≤s∧s < S.length:=fun s hs=>HFww.out.1 s (List.mem_of_mem_take hs)
   obtain⟨hst,hpl,_⟩:=step_go HINV.out HLEN.out (by have:=HN.out;omega) (by have:=HN.out;omega) (by have:=HN.out;omega) (by have:=HN.out;omega) HIN.out.1 hmem hop st.f ww[i_]
   rw [←HNX.out] at hst
   generalize ww[i_]=x at cx HNX hst
   obtain⟨p,hp⟩:∃p,p=(runL S st.o st.c st.n (startL i) (ww.take i_)):=⟨_,rfl⟩
   rw [←hp] at hst HP ⊢
   obtain⟨p',hp'⟩:∃p,p=(runL S st.o st.c st.n (startL i) (ww.take (i_+1))):=⟨_,rfl⟩
   rw [←hp'] at hst
   have HST:=Aside0.mk hst
   have HP':=Aside0.mk hp'
   clear hop hmem hst hpl hp hp'
   have s3:=eq_true (show (i_:Int) < (ww.length:Int) by omega)
   have s4:=eq_true (show (0:Int)≤(i_:Int) by omega)
   subst eA
   clear hl_
   obtain⟨b0,b1,b2,b3,b4,b5,b6⟩:=rt_cells HT.out.a
   go_upto_region 12 with (fail)
   -- MARK3_12
   refine start_ (n:=9) (S:=fun w'=>w'.cell? ⟨ga,0,none⟩=some (.int .i64 N)∧w'.cell? ⟨ga,1,none⟩=some (.int .i64 G)∧w'.cell? ⟨ga,2,none⟩=some (.slice Z2 i.length z2)∧w'.cell? ⟨ga,3,none⟩=some (.slice Z3 st.f.length z3)∧w'.cell? ⟨ga,4,none⟩=some (.slice Z4 st.o.length z4)∧w'.cell? ⟨ga,5,none⟩=some (.slice Z5 st.c.length z5)∧w'.cell? ⟨ga,6,none⟩=some (.slice Z6 st.n.length z6)∧w'.cell? (ad.add i_)=some (.int .i64 x)) (ds:=[]) (pm 0 9) (by kernel_rfl) rfl rfl ⟨b0,b1,b2,b3,b4,b5,b6,cx⟩ (fun hHeld=>?_)
   refine with_tabW W12t.tab W12t.bits (fun HT_ HW_=>?_)
   have hb:=below_drew (Below.refl wq.heap.size wq)
   have HCX:Aside0 (wq.drew.cell? (ad.add i_)=some (.int .i64 x)):=⟨cx⟩
   have HT1:=Aside0.mk (HT.out.below hb)
   have HC1:=Aside0.mk (And.intro (Kd.C_below HCww.out.1 hb) HCww.out.2)
   have HC2:=Aside0.mk (And.intro (Kd.C_below HCvv.out.1 hb) HCvv.out.2)
   clear HT HCww HCvv
   have HT:=HT1
   have HCww:=HC1
   have HCvv:=HC2
   clear HT1 HC1 HC2
   have HP1:=Aside0.mk (Kd.S_below HP.out hb)
   clear HP
   have HP:=HP1
   clear HP1
   clear hb cx b0 b1 b2 b3 b4 b5 b6
   obtain⟨wd,hwd⟩:∃W:World,W=wq.drew:=⟨_,rfl⟩
   rw [←hwd] at HT HCww HCvv HP HCX hHeld ⊢
   clear hwd
   try clear wq
   obtain⟨wq,rfl⟩:∃W:World,W=wd:=⟨_,rfl⟩
   iterate 7 (first|(refine pn_ (v:=?_) (a':=?_) rfl (rfl (a:=some _)) (any_of HT_.out (by kernel_rfl)) (fun _ _ _ h=>h) (Or.inl ⟨by rfl,?_⟩) ?_ ?_;rotate_left;(intro w';go_simp;with_reducible rfl);rotate_left;(simp only [Act.put,M.sq3,i64_w,i32_w];rfl))|(refine tn_ (v:=?_) (a':=?_) rfl (rfl (a:=some _)) (take_ofW HT_.out HW_.out (by kernel_rfl)) (fun _ _ _ h=>h) (Or.inl ⟨by rfl,?_⟩) hHeld ?_ ?_;rotate_left;(intro w' hS_;obtain⟨s0,s1,s2,s3,s4,s5,s6,s7⟩:=hS_;go_simp;with_reducible rfl);rotate_left;(simp only [Act.put,M.sq3,i64_w,i32_w];rfl)))
   refine one_ (i:=7) (N:=(some 60)) (pm 8 1) rfl rfl (one_of HT_.out (by kernel_rfl)) (by decide) (fun K hK=>?_)
   refine goes_ Try.func21 (by kernel_rfl) rfl #[.slice AS S.length cS,.agg #[.int .i64 N,.int .i64 G,.slice Z2 i.length z2,.slice Z3 st.f.length z3,.slice Z4 st.o.length z4,.slice Z5 st.c.length z5,.slice Z6 st.n.length z6],.slice PA p.length pc,.int .i64 x] rfl rfl rfl (by(try simp only [List.map_toArray,List.map_cons,List.map_nil]);rfl) ?_
   refine(runs_Step.calls AS cS S N G Z2 z2 i Z3 z3 (st.f) Z4 z4 (st.o) Z5 z5 (st.c) Z6 z6 (st.n) PA pc p x p' _ (Kd.R_reads' HT.out.s).2.2 (Kd.R_reads' HT.out.s).2.1 HT.out.a2.1 HT.out.a2.2 HT.out.a3.1 HT.out.a3.2 HT.out.a4.1 HT.out.a4.2 HT.out.a5.1 HT.out.a5.2 HT.out.a6.1 HT.out.a6.2 (Kd.R_reads' (Kd.S_R HP.out)).2.2 (Kd.R_reads' (Kd.S_R HP.out)).2.1 HST.out).mono ?_
   rintro e we ⟨vn,rfl,hsn,hb⟩
   have HCX1:=Aside0.mk ((hb.cell (World.block_lt_of_cell? _ _ HCX.out)).trans HCX.out)
   clear HCX
   have HPN:Aside0 (Kd.S k48 48 we w.heap.size (fun _=>True) vn p'):=⟨Kd.S_lower hsn HT.out.b.size⟩
   have HT1:=Aside0.mk (HT.out.below hb)
   have HC1:=Aside0.mk (And.intro (Kd.C_below HCww.out.1 hb) HCww.out.2)
   have HC2:=Aside0.mk (And.intro (Kd.C_below HCvv.out.1 hb) HCvv.out.2)
   clear HT HCww HCvv
   have HT:=HT1
   have HCww:=HC1
   have HCvv:=HC2
   clear HT1 HC1 HC2
   clear hb hHeld hsn
   refine⟨_,rfl,?_⟩
   refine hK.out _ _ ⟨(blk_cell HT.out.a 0).trans rfl,(blk_cell HT.out.a 1).trans rfl,(blk_cell HT.out.a 2).trans rfl,(blk_cell HT.out.a 3).trans rfl,(blk_cell HT.out.a 4).trans rfl,(blk_cell HT.out.a 5).trans rfl,(blk_cell HT.out.a 6).trans rfl,HCX1.out⟩ (fun hHeld=>?_)
   clear hK K
   obtain⟨wq,rfl⟩:∃wq:World,wq=we:=⟨_,rfl⟩
   refine norm_ (a':=?_) ?_ ?_
   rotate_left
   ·show Act.put _ (some 60) _ = _
    simp only [Act.put,M.sq3,i64_w,i32_w]
    rfl
   refine pn_ (v:=?_) (a':=?_) rfl (rfl (a:=some _)) (any_of HT_.out (by kernel_rfl)) (fun _ _ _ h=>h) (Or.inl ⟨by rfl,?_⟩) ?_ ?_;rotate_left;(intro w';go_simp;with_reducible rfl);rotate_left;(simp only [Act.put,M.sq3,i64_w,i32_w];rfl)
   refine done_ (done_of HT_.out (by kernel_rfl)) ?_
   go_wp2
   go_roundg (ww.length - (i_+1))
   case measure=>have:=Hi.out;have:=HLT.out;omega
   case rel=>exact⟨i_+1,by first|rfl|rw [show wrap64 ((i_:Int)+1)=((i_+1:Nat):Int) by have:=HLT.out;have:=HFww.out.2.1;unfold wrap64;omega],⟨HLT.out,Nat.le_refl _⟩,HT,HCww,HCvv,⟨by rw [←HP'.out];exact HPN.out⟩⟩
 have e4:ww.take i_=ww:=List.take_of_length_le (by omega)
 rw [e4] at HP ⊢
 have s3:=eq_false (show ¬(i_:Int) < (ww.length:Int) by omega)
 clear hl_ e4 Hi
 obtain⟨p,hp⟩:∃p,p=(runL S st.o st.c st.n (startL i) (ww)):=⟨_,rfl⟩
 rw [←hp] at HP ⊢
 have HPE:=Aside0.mk hp
 have HPP:Aside0 (Kd.S k48 48 wq w.heap.size (fun _=>True) (.slice PA p.length pc) p):=HP
 clear HP
 have HP:Aside0 (Kd.S k48 48 wq w.heap.size (fun _=>True) (.slice PA p.length pc) (runL S st.o st.c st.n (startL i) (ww ++ vv.take 0))):=⟨by rw [List.take_zero,List.append_nil,←hp];exact HPP.out⟩
 clear hp
 -- MARK4
 obtain⟨VP,hVP⟩:∃v:Value,v=.slice PA p.length pc:=⟨_,rfl⟩
 rw [←hVP] at HP HPP ⊢
 have HVP:=Aside0.mk hVP
 clear hVP
 go_wp2
 go_loopg [17,18] vv.length (fun gk vp vi w'=>∃i_:Nat,vi=.int .i64 (i_:Int)∧Aside0 (i_≤vv.length∧vv.length - i_≤gk)∧Aside0 (RT w w' AS cS S ga N G Z2 z2 i Z3 z3 (st.f) Z4 z4 (st.o) Z5 z5 (st.c) Z6 z6 (st.n))∧Aside0 (Kd.C (Kd.int .i64) w' Aww ww.length ww∧ww.length≤cww)∧Aside0 (Kd.C (Kd.int .i64) w' Avv vv.length vv∧vv.length≤cvv)∧Aside0 (Kd.S k48 48 w' w.heap.size (fun _=>True) vp (runL S st.o st.c st.n (startL i) (ww ++ vv.take i_)))∧Aside0 (Kd.S k48 48 w' w.heap.size (fun _=>True) VP p))
 case atStart=>exact⟨0,rfl,⟨by omega,by omega⟩,HT,HCww,HCvv,HP,HPP⟩
 case' round=>skip
 try clear s3
 clear HT HCww HCvv HP HPP
 obtain⟨i_,rfl,Hi,HT,HCww,HCvv,HP,HPP⟩:=hrel
 try clear wq
 obtain⟨wq,rfl⟩:∃W:World,W=wr:=⟨_,rfl⟩
 have hsl:=Kd.S_R HP.out
 obtain⟨PA,pc,rfl⟩:=Kd.R_slice hsl
 clear hsl
 by_cases hl_:i_ < vv.length
 ·as_aux_lemma=>
   have HLT:=Aside0.mk hl_
   obtain⟨ad,eA,cx⟩:=int_at HCvv.out.1 i_ hl_
   have HNX:Aside0 (ww ++ vv.take (i_+1)=(ww ++ vv.take i_) ++ [vv[i_]]):=⟨by rw [List.take_add_one,List.getElem?_eq_getElem hl_,←List.append_assoc];rfl⟩
   have hop:opensIn S (ww ++ vv.take i_)≤14:=by
    have h1:=opens_take S vv i_
    have h2:=HFvv.out.2.2
    rw [opens_app]
    have h3:=HFww.out.2.2
    omega
   have hmem:∀s∈ww ++ vv.take i_,0≤s∧s < S.length:=fun s hs=>(List.mem_append.1 hs).elim (fun h=>HFww.out.1 s h) (fun h=>HFvv.out.1 s (List.mem_of_mem_take h))
   obtain⟨hst,hpl,_⟩:=step_go HINV.out HLEN.out (by have:=HN.out;omega) (by have:=HN.out;omega) (by have:=HN.out;omega) (by have:=HN.out;omega) HIN.out.1 hmem hop st.f vv[i_]
   rw [←HNX.out] at hst
   generalize vv[i_]=x at cx HNX hst
   obtain⟨p,hp⟩:∃p,p=(runL S st.o st.c st.n (startL i) (ww ++ vv.take i_)):=⟨_,rfl⟩
   rw [←hp] at hst HP ⊢
   obtain⟨p',hp'⟩:∃p,p=(runL S st.o st.c st.n (startL i) (ww ++ vv.take (i_+1))):=⟨_,rfl⟩
   rw [←hp'] at hst
   have HST:=Aside0.mk hst
   have HP':=Aside0.mk hp'
   clear hop hmem hst hpl hp hp'
   have s3:=eq_true (show (i_:Int) < (vv.length:Int) by omega)
   have s4:=eq_true (show (0:Int)≤(i_:Int) by omega)
   subst eA
   clear hl_
   obtain⟨b0,b1,b2,b3,b4,b5,b6⟩:=rt_cells HT.out.a
   go_upto_region 17 with (fail)
   -- MARK3_17
   refine start_ (n:=9) (S:=fun w'=>w'.cell? ⟨ga,0,none⟩=some (.int .i64 N)∧w'.cell? ⟨ga,1,none⟩=some (.int .i64 G)∧w'.cell? ⟨ga,2,none⟩=some (.slice Z2 i.length z2)∧w'.cell? ⟨ga,3,none⟩=some (.slice Z3 st.f.length z3)∧w'.cell? ⟨ga,4,none⟩=some (.slice Z4 st.o.length z4)∧w'.cell? ⟨ga,5,none⟩=some (.slice Z5 st.c.length z5)∧w'.cell? ⟨ga,6,none⟩=some (.slice Z6 st.n.length z6)∧w'.cell? (ad.add i_)=some (.int .i64 x)) (ds:=[]) (pm 0 9) (by kernel_rfl) rfl rfl ⟨b0,b1,b2,b3,b4,b5,b6,cx⟩ (fun hHeld=>?_)
   refine with_tabW W17t.tab W17t.bits (fun HT_ HW_=>?_)
   have hb:=below_drew (Below.refl wq.heap.size wq)
   have HCX:Aside0 (wq.drew.cell? (ad.add i_)=some (.int .i64 x)):=⟨cx⟩
   have HT1:=Aside0.mk (HT.out.below hb)
   have HC1:=Aside0.mk (And.intro (Kd.C_below HCww.out.1 hb) HCww.out.2)
   have HC2:=Aside0.mk (And.intro (Kd.C_below HCvv.out.1 hb) HCvv.out.2)
   clear HT HCww HCvv
   have HT:=HT1
   have HCww:=HC1
   have HCvv:=HC2
   clear HT1 HC1 HC2
   have HP1:=Aside0.mk (Kd.S_below HP.out hb)
   clear HP
   have HP:=HP1
   clear HP1
   have HO1:=Aside0.mk (Kd.S_below HPP.out hb)
   clear HPP
   have HPP:=HO1
   clear HO1
   clear hb cx b0 b1 b2 b3 b4 b5 b6
   obtain⟨wd,hwd⟩:∃W:World,W=wq.drew:=⟨_,rfl⟩
   rw [←hwd] at HT HCww HCvv HP HPP HCX hHeld ⊢
   clear hwd
   try clear wq
   obtain⟨wq,rfl⟩:∃W:World,W=wd:=⟨_,rfl⟩
   iterate 7 (first|(refine pn_ (v:=?_) (a':=?_) rfl (rfl (a:=some _)) (any_of HT_.out (by kernel_rfl)) (fun _ _ _ h=>h) (Or.inl ⟨by rfl,?_⟩) ?_ ?_;rotate_left;(intro w';go_simp;with_reducible rfl);rotate_left;(simp only [Act.put,M.sq3,i64_w,i32_w];rfl))|(refine tn_ (v:=?_) (a':=?_) rfl (rfl (a:=some _)) (take_ofW HT_.out HW_.out (by kernel_rfl)) (fun _ _ _ h=>h) (Or.inl ⟨by rfl,?_⟩) hHeld ?_ ?_;rotate_left;(intro w' hS_;obtain⟨s0,s1,s2,s3,s4,s5,s6,s7⟩:=hS_;go_simp;with_reducible rfl);rotate_left;(simp only [Act.put,M.sq3,i64_w,i32_w];rfl)))
   refine one_ (i:=7) (N:=(some 75)) (pm 8 1) rfl rfl (one_of HT_.out (by kernel_rfl)) (by decide) (fun K hK=>?_)
   refine goes_ Try.func21 (by kernel_rfl) rfl #[.slice AS S.length cS,.agg #[.int .i64 N,.int .i64 G,.slice Z2 i.length z2,.slice Z3 st.f.length z3,.slice Z4 st.o.length z4,.slice Z5 st.c.length z5,.slice Z6 st.n.length z6],.slice PA p.length pc,.int .i64 x] rfl rfl rfl (by(try simp only [List.map_toArray,List.map_cons,List.map_nil]);rfl) ?_
   refine(runs_Step.calls AS cS S N G Z2 z2 i Z3 z3 (st.f) Z4 z4 (st.o) Z5 z5 (st.c) Z6 z6 (st.n) PA pc p x p' _ (Kd.R_reads' HT.out.s).2.2 (Kd.R_reads' HT.out.s).2.1 HT.out.a2.1 HT.out.a2.2 HT.out.a3.1 HT.out.a3.2 HT.out.a4.1 HT.out.a4.2 HT.out.a5.1 HT.out.a5.2 HT.out.a6.1 HT.out.a6.2 (Kd.R_reads' (Kd.S_R HP.out)).2.2 (Kd.R_reads' (Kd.S_R HP.out)).2.1 HST.out).mono ?_
   rintro e we ⟨vn,rfl,hsn,hb⟩
   have HCX1:=Aside0.mk ((hb.cell (World.block_lt_of_cell? _ _ HCX.out)).trans HCX.out)
   clear HCX
   have HPN:Aside0 (Kd.S k48 48 we w.heap.size (fun _=>True) vn p'):=⟨Kd.S_lower hsn HT.out.b.size⟩
   have HT1:=Aside0.mk (HT.out.below hb)
   have HC1:=Aside0.mk (And.intro (Kd.C_below HCww.out.1 hb) HCww.out.2)
   have HC2:=Aside0.mk (And.intro (Kd.C_below HCvv.out.1 hb) HCvv.out.2)
   clear HT HCww HCvv
   have HT:=HT1
   have HCww:=HC1
   have HCvv:=HC2
   clear HT1 HC1 HC2
   have HO1:=Aside0.mk (Kd.S_below HPP.out hb)
   clear HPP
   have HPP:=HO1
   clear HO1
   clear hb hHeld hsn
   refine⟨_,rfl,?_⟩
   refine hK.out _ _ ⟨(blk_cell HT.out.a 0).trans rfl,(blk_cell HT.out.a 1).trans rfl,(blk_cell HT.out.a 2).trans rfl,(blk_cell HT.out.a 3).trans rfl,(blk_cell HT.out.a 4).trans rfl,(blk_cell HT.out.a 5).trans rfl,(blk_cell HT.out.a 6).trans rfl,HCX1.out⟩ (fun hHeld=>?_)
   clear hK K
   obtain⟨wq,rfl⟩:∃wq:World,wq=we:=⟨_,rfl⟩
   refine norm_ (a':=?_) ?_ ?_
   rotate_left
   ·show Act.put _ (some 75) _ = _
    simp only [Act.put,M.sq3,i64_w,i32_w]
    rfl
   refine pn_ (v:=?_) (a':=?_) rfl (rfl (a:=some _)) (any_of HT_.out (by kernel_rfl)) (fun _ _ _ h=>h) (Or.inl ⟨by rfl,?_⟩) ?_ ?_;rotate_left;(intro w';go_simp;with_reducible rfl);rotate_left;(simp only [Act.put,M.sq3,i64_w,i32_w];rfl)
   refine done_ (done_of HT_.out (by kernel_rfl)) ?_
   go_wp2
   go_roundg (vv.length - (i_+1))
   case measure=>have:=Hi.out;have:=HLT.out;omega
   case rel=>exact⟨i_+1,by first|rfl|rw [show wrap64 ((i_:Int)+1)=((i_+1:Nat):Int) by have:=HLT.out;have:=HFvv.out.2.1;unfold wrap64;omega],⟨HLT.out,Nat.le_refl _⟩,HT,HCww,HCvv,⟨by rw [←HP'.out];exact HPN.out⟩,HPP⟩
 have e4:vv.take i_=vv:=List.take_of_length_le (by omega)
 rw [e4] at HP ⊢
 have s3:=eq_false (show ¬(i_:Int) < (vv.length:Int) by omega)
 clear hl_ e4 Hi
 obtain⟨q,hq⟩:∃q,q=(runL S st.o st.c st.n (startL i) (ww ++ vv)):=⟨_,rfl⟩
 rw [←hq] at HP ⊢
 have hop:opensIn S (ww ++ vv)≤14:=by
  have h1:=HFvv.out.2.2
  have h2:=HFww.out.2.2
  rw [opens_app]
  omega
 have hmem:∀s∈ww ++ vv,0≤s∧s < S.length:=fun s hs=>(List.mem_append.1 hs).elim (fun h=>HFww.out.1 s h) (fun h=>HFvv.out.1 s h)
 obtain⟨_,hql,hqx⟩:=step_go HINV.out HLEN.out (by have:=HN.out;omega) (by have:=HN.out;omega) (by have:=HN.out;omega) (by have:=HN.out;omega) HIN.out.1 hmem hop st.f 0
 obtain⟨_,hpl,hpx⟩:=step_go HINV.out HLEN.out (by have:=HN.out;omega) (by have:=HN.out;omega) (by have:=HN.out;omega) (by have:=HN.out;omega) HIN.out.1 HFww.out.1 (by have:=HFww.out.2.2;omega) st.f 0
 rw [←hq] at hql hqx
 rw [←HPE.out] at hpl hpx
 have HLQ:Aside0 (q.length≤70000∧(∀x∈q,x.f1.length≤14)∧p.length≤70000∧∀x∈p,x.f1.length≤14):=⟨⟨hql,hqx,hpl,hpx⟩⟩
 have HEV:Aside0 (∀y∈q,p.any (fun x=>decide (x.f1=y.f1))=true):=⟨fun y hy=>by
  have h1:q=runL S st.o st.c st.n p vv:=by rw [hq,HPE.out];unfold runL;rw [List.foldl_append]
  rw [h1] at hy
  obtain⟨x,hx,he⟩:=bal_stacks HFvv.out.1 HBL.out p y hy
  exact List.any_eq_true.2 ⟨x,hx,decide_eq_true he⟩⟩
 clear hop hmem hql hqx hpl hpx hq
 -- MARK5
 have hsq:=Kd.S_R HP.out
 have hsp:=Kd.S_R HPP.out
 obtain⟨PB,pb,rfl⟩:=Kd.R_slice hsp
 have HB:=Aside0.mk HT.out.b
 have HQ:=Aside0.mk (Kd.R_reads' hsq).2.2
 have HPC:=Aside0.mk (Kd.R_reads' hsp).2.2
 clear hsq hsp HT HCww HCvv HP HPP HVP HPE HBL HFww HFvv HINV HLEN HIN HN
 go_wp2
 go_loopg [19] q.length (fun gk vi w'=>∃i_:Nat,vi=.int .i64 (i_:Int)∧Aside0 (i_≤q.length∧q.length - i_≤gk)∧Aside0 (Below w.heap.size w w')∧Aside0 (Kd.C k48 w' PA q.length q)∧Aside0 (Kd.C k48 w' PB p.length p))
 case atStart=>exact⟨0,rfl,⟨by omega,by omega⟩,HB,HQ,HPC⟩
 case' round=>skip
 try clear s3
 clear HB HQ HPC
 obtain⟨i_,rfl,Hi,HB,HQ,HPC⟩:=hrel
 try clear wq
 obtain⟨wq,rfl⟩:∃W:World,W=wr:=⟨_,rfl⟩
 by_cases hl_:i_ < q.length
 ·as_aux_lemma=>
   have HLT:=Aside0.mk hl_
   obtain⟨adq,A1,c1,eA,_,cq,l1,g1⟩:=at_T48 HQ.out (i_:Int) (by omega) (by omega)
   have hrd:rd_T48 q (i_:Int)=q[i_]:=by unfold rd_T48;rw [Int.toNat_natCast,List.getD_eq_getElem?_getD,List.getElem?_eq_getElem hl_];rfl
   rw [hrd,Int.toNat_natCast] at cq
   rw [hrd] at l1 g1
   have hey:=HEV.out q[i_] (List.getElem_mem hl_)
   generalize q[i_]=y at cq l1 g1 hey
   have HY:=Aside0.mk (And.intro l1 (And.intro g1 hey))
   have HCY:=Aside0.mk cq
   clear hrd l1 g1 hey cq
   have s3:=eq_true (show (i_:Int) < (q.length:Int) by omega)
   have s4:=eq_true (show (0:Int)≤(i_:Int) by omega)
   subst eA
   clear hl_
   obtain⟨wo,rfl⟩:∃W:World,W=wq:=⟨_,rfl⟩
   go_wp2
   go_loopg [20,21] p.length (fun gk vb vk w'=>∃(k_:Nat) (bb:Bool),vk=.int .i64 (k_:Int)∧vb=.bool bb∧Aside0 (k_≤p.length∧p.length - k_≤gk)∧Aside0 (Below wo.heap.size wo w')∧Aside0 (bb=(p.take k_).any (fun x=>decide (x.f1=y.f1))))
   case atStart=>exact⟨0,false,rfl,rfl,⟨by omega,by omega⟩,⟨Below.refl _ _⟩,⟨rfl⟩⟩
   case' round=>skip
   obtain⟨k_,bb,rfl,rfl,Hk,HBk,HBB⟩:=hrel
   obtain⟨wl,rfl⟩:∃W:World,W=wr:=⟨_,rfl⟩
   by_cases hk_:k_ < p.length
   ·as_aux_lemma=>
     have HLK:=Aside0.mk hk_
     obtain⟨adp,A2_,c2_,eP,_,cp,l2,g2⟩:=at_T48 HPC.out (k_:Int) (by omega) (by omega)
     have hrd:rd_T48 p (k_:Int)=p[k_]:=by unfold rd_T48;rw [Int.toNat_natCast,List.getD_eq_getElem?_getD,List.getElem?_eq_getElem hk_];rfl
     rw [hrd,Int.toNat_natCast] at cp
     rw [hrd] at l2 g2
     have HNX:Aside0 ((p.take (k_+1)).any (fun x=>decide (x.f1=y.f1))=((p.take k_).any (fun x=>decide (x.f1=y.f1)) || decide (p[k_].f1=y.f1))):=⟨by rw [List.take_add_one,List.getElem?_eq_getElem hk_,List.any_append];simp⟩
     have hxl:=HLQ.out.2.2.2 p[k_] (List.getElem_mem hk_)
     generalize p[k_]=x at cp l2 g2 HNX hxl
     have HXX:=Aside0.mk (And.intro l2 (And.intro g2 hxl))
     have cp1:=(HBk.out.cell (World.block_lt_of_cell? _ _ cp)).trans cp
     have cq1:=(HBk.out.cell (World.block_lt_of_cell? _ _ HCY.out)).trans HCY.out
     clear hrd l2 g2 hxl cp
     have t3:=eq_true (show (k_:Int) < (p.length:Int) by omega)
     have t4:=eq_true (show (0:Int)≤(k_:Int) by omega)
     subst eP
     clear hk_
     cases bb
     ·as_aux_lemma=>
       go_upto_region 25 with (fail)
       refine start_ (n:=15) (S:=fun w'=>w'.cell? ⟨(adp.add (k_*2)).block,(adp.add (k_*2)).off+1,none⟩=some (.slice A2_ x.f1.length c2_)∧w'.cell? ⟨(adq.add (i_*2)).block,(adq.add (i_*2)).off+1,none⟩=some (.slice A1 y.f1.length c1)) (ds:=[]) (pm 0 15) (by kernel_rfl) rfl rfl ⟨cp1,cq1⟩ (fun hHeld=>?_)
       refine with_tabW W25t.tab W25t.bits (fun HT_ HW_=>?_)
       have HCC:Aside0 (wl.drew.cell? ⟨(adp.add (k_*2)).block,(adp.add (k_*2)).off+1,none⟩=some (.slice A2_ x.f1.length c2_)∧wl.drew.cell? ⟨(adq.add (i_*2)).block,(adq.add (i_*2)).off+1,none⟩=some (.slice A1 y.f1.length c1)):=⟨cp1,cq1⟩
       have HB1:=Aside0.mk (HBk.out.trans (below_drew (Below.refl _ _)))
       clear HBk cp1 cq1
       obtain⟨wd,hwd⟩:∃W:World,W=wl.drew:=⟨_,rfl⟩
       rw [←hwd] at HCC HB1 hHeld ⊢
       clear hwd
       try clear wl
       iterate 12 (first|(refine pn_ (v:=?_) (a':=?_) rfl (rfl (a:=some _)) (any_of HT_.out (by kernel_rfl)) (fun _ _ _ h=>h) (Or.inl ⟨by rfl,?_⟩) ?_ ?_;rotate_left;(intro w';go_simp;with_reducible rfl);rotate_left;(simp only [Act.put,M.sq3,i64_w,i32_w];rfl))|(refine tn_ (v:=?_) (a':=?_) rfl (rfl (a:=some _)) (take_ofW HT_.out HW_.out (by kernel_rfl)) (fun _ _ _ h=>h) (Or.inl ⟨by rfl,?_⟩) hHeld ?_ ?_;rotate_left;(intro w' hS_;obtain⟨s0,s1⟩:=hS_;go_simp;with_reducible rfl);rotate_left;(simp only [Act.put,M.sq3,i64_w,i32_w];rfl)))
       refine one_ (i:=12) (N:=(some 100)) (pm 13 2) rfl rfl (one_of HT_.out (by kernel_rfl)) (by decide) (fun K hK=>?_)
       refine goes_ Try.func29 (by kernel_rfl) rfl #[.slice A2_ x.f1.length c2_,.slice A1 y.f1.length c1] rfl rfl rfl (by(try simp only [List.map_toArray,List.map_cons,List.map_nil]);rfl) ?_
       refine(canopyref1_Ints.calls 1002 A2_ c2_ x.f1 A1 c1 y.f1 (decide (x.f1=y.f1)) _ (Kd.C_below HXX.out.2.1 HB1.out) HXX.out.1 (Kd.C_below HY.out.2.1 HB1.out) HY.out.1 (ints_eq _ _ (by have:=HXX.out.2.2;omega))).mono ?_
       rintro e we ⟨rfl,hd⟩
       have hb:=hd.below
       have HC1:Aside0 (we.cell? ⟨(adp.add (k_*2)).block,(adp.add (k_*2)).off+1,none⟩=some (.slice A2_ x.f1.length c2_)∧we.cell? ⟨(adq.add (i_*2)).block,(adq.add (i_*2)).off+1,none⟩=some (.slice A1 y.f1.length c1)):=⟨(hb.cell (World.block_lt_of_cell? _ _ HCC.out.1)).trans HCC.out.1,(hb.cell (World.block_lt_of_cell? _ _ HCC.out.2)).trans HCC.out.2⟩
       have HB2:=Aside0.mk (below_then HB1.out HB1.out.size hb)
       clear hd hb HCC HB1 hHeld
       refine⟨_,rfl,?_⟩
       refine hK.out _ _ HC1.out (fun hHeld=>?_)
       clear hK K
       refine norm_ (a':=?_) ?_ ?_
       rotate_left
       ·show Act.put _ (some 100) _ = _
        simp only [Act.put,M.sq3,i64_w,i32_w]
        rfl
       iterate 2 (refine pn_ (v:=?_) (a':=?_) rfl (rfl (a:=some _)) (any_of HT_.out (by kernel_rfl)) (fun _ _ _ h=>h) (Or.inl ⟨by rfl,?_⟩) ?_ ?_;rotate_left;(intro w';go_simp;with_reducible rfl);rotate_left;(simp only [Act.put,M.sq3,i64_w,i32_w];rfl))
       refine done_ (done_of HT_.out (by kernel_rfl)) ?_
       go_wp2
       go_roundg (p.length - (k_+1))
       case measure=>have:=Hk.out;have:=HLK.out;omega
       case rel=>exact⟨k_+1,decide (x.f1=y.f1),by first|rfl|rw [show wrap64 ((k_:Int)+1)=((k_+1:Nat):Int) by have:=HLK.out;have:=HLQ.out.2.2.1;unfold wrap64;omega],rfl,⟨HLK.out,Nat.le_refl _⟩,HB2,⟨by rw [HNX.out,←HBB.out];rfl⟩⟩
     as_aux_lemma=>
      go_upto_region 25 with (fail)
      refine start_ (n:=15) (S:=fun w'=>w'.cell? ⟨(adp.add (k_*2)).block,(adp.add (k_*2)).off+1,none⟩=some (.slice A2_ x.f1.length c2_)∧w'.cell? ⟨(adq.add (i_*2)).block,(adq.add (i_*2)).off+1,none⟩=some (.slice A1 y.f1.length c1)) (ds:=[]) (pm 0 15) (by kernel_rfl) rfl rfl ⟨cp1,cq1⟩ (fun hHeld=>?_)
      refine with_tabW W25t.tab W25t.bits (fun HT_ HW_=>?_)
      have HCC:Aside0 (wl.drew.cell? ⟨(adp.add (k_*2)).block,(adp.add (k_*2)).off+1,none⟩=some (.slice A2_ x.f1.length c2_)∧wl.drew.cell? ⟨(adq.add (i_*2)).block,(adq.add (i_*2)).off+1,none⟩=some (.slice A1 y.f1.length c1)):=⟨cp1,cq1⟩
      have HB1:=Aside0.mk (HBk.out.trans (below_drew (Below.refl _ _)))
      clear HBk cp1 cq1
      obtain⟨wd,hwd⟩:∃W:World,W=wl.drew:=⟨_,rfl⟩
      rw [←hwd] at HCC HB1 hHeld ⊢
      clear hwd
      try clear wl
      iterate 2 (refine pn_ (v:=?_) (a':=?_) rfl (rfl (a:=some _)) (any_of HT_.out (by kernel_rfl)) (fun _ _ _ h=>h) (Or.inl ⟨by rfl,?_⟩) ?_ ?_;rotate_left;(intro w';go_simp;with_reducible rfl);rotate_left;(simp only [Act.put,M.sq3,i64_w,i32_w];rfl))
      iterate 11 (refine pn_ (v:=undef) (a':=?_) rfl (rfl (a:=some _)) (any_of HT_.out (by kernel_rfl)) (fun _ _ _ h=>h) (Or.inr ⟨by rfl,rfl⟩) ?_ ?_;rotate_left;(simp only [Act.put,M.sq3,i64_w,i32_w];rfl))
      iterate 2 (refine pn_ (v:=?_) (a':=?_) rfl (rfl (a:=some _)) (any_of HT_.out (by kernel_rfl)) (fun _ _ _ h=>h) (Or.inl ⟨by rfl,?_⟩) ?_ ?_;rotate_left;(intro w';go_simp;with_reducible rfl);rotate_left;(simp only [Act.put,M.sq3,i64_w,i32_w];rfl))
      refine done_ (done_of HT_.out (by kernel_rfl)) ?_
      go_wp2
      go_roundg (p.length - (k_+1))
      case measure=>have:=Hk.out;have:=HLK.out;omega
      case rel=>exact⟨k_+1,true,by first|rfl|rw [show wrap64 ((k_:Int)+1)=((k_+1:Nat):Int) by have:=HLK.out;have:=HLQ.out.2.2.1;unfold wrap64;omega],rfl,⟨HLK.out,Nat.le_refl _⟩,HB1,⟨by rw [HNX.out,←HBB.out];rfl⟩⟩
   obtain rfl:bb=true:=by rw [HBB.out,List.take_of_length_le (by omega)];exact HY.out.2.2
   have t3:=eq_false (show ¬(k_:Int) < (p.length:Int) by omega)
   clear hk_ Hk HBB
   go_wp2
   go_roundg (q.length - (i_+1))
   case measure=>have:=Hi.out;have:=HLT.out;omega
   case rel=>exact⟨i_+1,by first|rfl|rw [show wrap64 ((i_:Int)+1)=((i_+1:Nat):Int) by have:=HLT.out;have:=HLQ.out.1;unfold wrap64;omega],⟨HLT.out,Nat.le_refl _⟩,⟨below_then HB.out HB.out.size HBk.out⟩,⟨Kd.C_below HQ.out HBk.out⟩,⟨Kd.C_below HPC.out HBk.out⟩⟩
 have s3:=eq_false (show ¬(i_:Int) < (q.length:Int) by omega)
 clear hl_ Hi
 go_wp2
 go_ret
 exact⟨rfl,HB.out⟩
theorem canopylaw4_RunsWhole.walk (P:canopylaw4_RunsWhole.Pure) (a0:Int) (a1:Int) (a2:Option Addr) (len2 cap2:Nat) (z2:List Int) (a3:Option Addr) (len3 cap3:Nat) (z3:List Int) (a4:Option Addr) (len4 cap4:Nat) (z4:List Int) (w:World) (w0:(Lit.int .i64 a0).wf=true) (w1:(Lit.int .i64 a1).wf=true) (w2:(a2=none∧len2=0∧cap2=0∧z2 = [])∨∃x,a2=some x∧len2≤cap2∧cap2≤maxLen∧z2.length=cap2∧(∀i,i < z2.length→w.cell? (x.add i)=some (.int .i64 (z2.getD i 0)))∧∀n∈z2,(Lit.int .i64 n).wf=true) (y2:len2*8≤140737488351232) (w3:(a3=none∧len3=0∧cap3=0∧z3 = [])∨∃x,a3=some x∧len3≤cap3∧cap3≤maxLen∧z3.length=cap3∧(∀i,i < z3.length→w.cell? (x.add i)=some (.int .i64 (z3.getD i 0)))∧∀n∈z3,(Lit.int .i64 n).wf=true) (y3:len3*8≤140737488351232) (w4:(a4=none∧len4=0∧cap4=0∧z4 = [])∨∃x,a4=some x∧len4≤cap4∧cap4≤maxLen∧z4.length=cap4∧(∀i,i < z4.length→w.cell? (x.add i)=some (.int .i64 (z4.getD i 0)))∧∀n∈z4,(Lit.int .i64 n).wf=true) (y4:len4*8≤140737488351232) :
 Calls Try.prog 10 #[.int .i64 a0,.int .i64 a1,.slice a2 len2 cap2,.slice a3 len3 cap3,.slice a4 len4 cap4] w fun e w'=>e=.returned (.bool true)∧Below w.heap.size w w':=by
 obtain⟨l2,rfl,hr2,hm2,hw2,hc2⟩:=ReadsInt.ofRowC w2
 obtain⟨l3,rfl,hr3,hm3,hw3,hc3⟩:=ReadsInt.ofRowC w3
 obtain⟨l4,rfl,hr4,hm4,hw4,hc4⟩:=ReadsInt.ofRowC w4
 exact rwhole_walk a0 a1 _ _ l2 _ _ l3 _ _ l4 w (Kd.C_of_reads (d:=(0:Int)) (h1:=fun _=>rfl) hr2) hc2 hm2 (Kd.C_of_reads (d:=(0:Int)) (h1:=fun _=>rfl) hr3) hc3 hm3 (Kd.C_of_reads (d:=(0:Int)) (h1:=fun _=>rfl) hr4) hc4 hm4
end Go.Proofs.Ytjkhdldgmkkhjaa.P
