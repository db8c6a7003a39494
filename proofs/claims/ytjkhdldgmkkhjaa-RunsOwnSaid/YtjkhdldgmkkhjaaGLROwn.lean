/- Words and walks of this claim: LROwn. -/
import Derived.Test.YtjkhdldgmkkhjaaGMFar
import Derived.Test.YtjkhdldgmkkhjaaGSStepsAtEtc
import Derived.Test.YtjkhdldgmkkhjaaGMIntsEtc
import Derived.Test.YtjkhdldgmkkhjaaGSRefInts
import Derived.Test.YtjkhdldgmkkhjaaGSMake
import Derived.Test.YtjkhdldgmkkhjaaGSStepEtc
import Derived.Test.YtjkhdldgmkkhjaaGP0Etc
import Derived.BigQuiet
set_option linter.unusedVariables false
set_option linter.unusedSimpArgs false
set_option linter.unnecessarySimpa false
namespace Go.Proofs.Ytjkhdldgmkkhjaa.P
open Go.RowKit Go.Sort Go.Shelf Go.Proofs.YtjkhdldgmkkhjaaW.PrintWords Go.Proofs.YtjkhdldgmkkhjaaW.PrintLast Go.Proofs.YtjkhdldgmkkhjaaW.PrintMore Go.Proofs.Ytjkhdldgmkkhjaa.M
def mkJ (st:MSt):List Int:=if (st.i.length:Int)=0 then [0] else st.i
structure RT (w wq:World) (AS:Option Addr) (cS:Nat) (S:List S46) (ga:Nat) (N G:Int) (Z2:Option Addr) (z2:Nat) (x2:List Int) (Z3:Option Addr) (z3:Nat) (x3:List Int) (Z4:Option Addr) (z4:Nat) (x4:List TOpen) (Z5:Option Addr) (z5:Nat) (x5:List TClose) (Z6:Option Addr) (z6:Nat) (x6:List TInner):Prop where
 b:Below w.heap.size w wq
 s:Kd.R k46 46 wq w.heap.size (fun _=>True) (.slice AS S.length cS) S
 a2:Kd.C (Kd.int .i64) wq Z2 x2.length x2∧x2.length≤z2
 a3:Kd.C (Kd.int .i64) wq Z3 x3.length x3∧x3.length≤z3
 a4:Kd.C k52 wq Z4 x4.length x4∧x4.length≤z4
 a5:Kd.C k54 wq Z5 x5.length x5∧x5.length≤z5
 a6:Kd.C k56 wq Z6 x6.length x6∧x6.length≤z6
 a:wq.heap[ga]? = some (.cells #[.int .i64 N,.int .i64 G,.slice Z2 x2.length z2,.slice Z3 x3.length z3,.slice Z4 x4.length z4,.slice Z5 x5.length z5,.slice Z6 x6.length z6] 30 (0,0))
theorem RT.below {w wq w' : World} {AS:Option Addr} {cS:Nat} {S:List S46} {ga:Nat} {N G:Int} {Z2:Option Addr} {z2:Nat} {x2:List Int} {Z3:Option Addr} {z3:Nat} {x3:List Int} {Z4:Option Addr} {z4:Nat} {x4:List TOpen} {Z5:Option Addr} {z5:Nat} {x5:List TClose} {Z6:Option Addr} {z6:Nat} {x6:List TInner} (h:RT w wq AS cS S ga N G Z2 z2 x2 Z3 z3 x3 Z4 z4 x4 Z5 z5 x5 Z6 z6 x6) (hb:Below wq.heap.size wq w'):RT w w' AS cS S ga N G Z2 z2 x2 Z3 z3 x3 Z4 z4 x4 Z5 z5 x5 Z6 z6 x6:=
 ⟨below_then h.b h.b.size hb,Kd.R_below h.s hb,⟨Kd.C_below h.a2.1 hb,h.a2.2⟩,⟨Kd.C_below h.a3.1 hb,h.a3.2⟩,⟨Kd.C_below h.a4.1 hb,h.a4.2⟩,⟨Kd.C_below h.a5.1 hb,h.a5.2⟩,⟨Kd.C_below h.a6.1 hb,h.a6.2⟩,blk_below h.a hb⟩
theorem RT.kept {w wq wb W_:World} {AS:Option Addr} {cS:Nat} {S:List S46} {ga:Nat} {N G:Int} {Z2:Option Addr} {z2:Nat} {x2:List Int} {Z3:Option Addr} {z3:Nat} {x3:List Int} {Z4:Option Addr} {z4:Nat} {x4:List TOpen} {Z5:Option Addr} {z5:Nat} {x5:List TClose} {Z6:Option Addr} {z6:Nat} {x6:List TInner} (h:RT w wq AS cS S ga N G Z2 z2 x2 Z3 z3 x3 Z4 z4 x4 Z5 z5 x5 Z6 z6 x6) (hb:Below wq.heap.size wq wb) (hk:Kept wb W_ (fun k=>wq.heap.size≤k)):Kd.C k46 W_ AS S.length S:=
 (Kd.R_reads' (Kd.R_step h.s (fun k _ hlt=>(hk.2 k (Nat.lt_of_lt_of_le hlt hb.size) (Nat.not_le_of_lt hlt)).trans (hb.block k hlt)))).2.2
def O6t.T:Bool × List (List Nat × List Nat):=(true,[([],[]),([0],[0]),([],[]),([2,1],[2]),([1,3,0,1],[1]),([3,4,0,1,2,3,4],[3])])
def O6t.B:List Nat:=[0,1,0,7,15,31]
theorem O6t.tab:rtab .any (opsOf Try.f11 6)=O6t.T:=by kernel_rfl
theorem O6t.bits:waitsOk O6t.T.2 O6t.B=true:=by kernel_rfl
def O10t.T:Bool × List (List Nat × List Nat):=(true,[([],[]),([],[]),([],[]),([],[]),([],[]),([3,4],[3,4]),([5],[5]),([0,1,2,6],[0,1,2,6]),([7,7,0,1,2,3,4,5,6,7],[7])])
def O10t.B:List Nat:=[0,0,0,0,0,24,56,127,255]
theorem O10t.tab:rtab .any (opsOf Try.f11 10)=O10t.T:=by kernel_rfl
theorem O10t.bits:waitsOk O10t.T.2 O10t.B=true:=by kernel_rfl
def O13t.T:Bool × List (List Nat × List Nat):=(true,[([],[]),([],[]),([],[]),([],[]),([],[]),([3,4],[3,4]),([5],[5]),([0,1,2,6],[0,1,2,6]),([7,7,0,1,2,3,4,5,6,7],[7])])
def O13t.B:List Nat:=[0,0,0,0,0,24,56,127,255]
theorem O13t.tab:rtab .any (opsOf Try.f11 13)=O13t.T:=by kernel_rfl
theorem O13t.bits:waitsOk O13t.T.2 O13t.B=true:=by kernel_rfl
def O22t.T:Bool × List (List Nat × List Nat):=(true,[([],[]),([],[]),([],[]),([],[]),([],[]),([],[]),([4,5],[4,5]),([6],[6]),([1,2,3,7],[1,2,3,7]),([0,8,0],[0]),([8,9,0,1,2,3,4,5,6,7,8,9],[3,8])])
def O22t.B:List Nat:=[0,0,0,0,0,0,48,112,254,511,1023]
theorem O22t.tab:rtab .any (opsOf Try.f11 22)=O22t.T:=by kernel_rfl
theorem O22t.bits:waitsOk O22t.T.2 O22t.B=true:=by kernel_rfl
def canopylaw4_RunsOwn.Pure:Prop:=True
set_option maxHeartbeats 16000000 in
set_option maxRecDepth 100000 in
theorem rown_walk (a0 a1:Int) (A2:Option Addr) (c2:Nat) (ns_:List Int) (A3:Option Addr) (c3:Nat) (ws_:List Int) (w:World) (hr2:Kd.C (Kd.int .i64) w A2 ns_.length ns_) (hc2:ns_.length≤c2) (hm2:ns_.length≤maxLen) (hr3:Kd.C (Kd.int .i64) w A3 ws_.length ws_) (hc3:ws_.length≤c3) (hm3:ws_.length≤maxLen) :
 Calls Try.prog 11 #[.int .i64 a0,.int .i64 a1,.slice A2 ns_.length c2,.slice A3 ws_.length c3] w fun e w'=>e=.returned (.bool true)∧Below w.heap.size w w':=by
 obtain⟨S,hS,hOk⟩:∃S,canopylaw1_Syms.f a0 ns_=some S∧symOk S:=⟨_,syms_eq a0 ns_ hm2,symsL_ok a0 ns_⟩
 have hN:=makeN_in a1 (most:=4) (by decide)
 have hG:=makeG_in a1
 obtain⟨hI,hL⟩:=mkAll_inv hOk (N:=makeN a1 4) (G:=makeG a1) (by omega) (by omega) ns_
 have HS0:=Aside0.mk (And.intro hS hOk)
 have HINV:=Aside0.mk hI
 have HLEN:=Aside0.mk hL
 have HN:=Aside0.mk (And.intro hN hG)
 have HI2:=Aside0.mk (And.intro hr2 hc2)
 have HI3:=Aside0.mk (And.intro hr3 (And.intro hc3 hm3))
 clear hS hOk hI hL hN hG hr2 hc2 hm2 hr3 hc3 hm3
 go_enter Try.func11,Try.ntmps11
 go_wp2_with fail
 refine(canopylaw4_known.calls true _ rfl).mono ?_
 rintro e w1 ⟨rfl,hb1⟩
 have HB1:Aside0 (Below w.heap.size w w1):=⟨hb1⟩
 clear hb1
 go_wp2_with fail
 refine(canopylaw1_Syms.calls a0 A2 c2 ns_ S _ (Kd.C_below HI2.out.1 HB1.out) HI2.out.2 HS0.out.1).mono ?_
 rintro e w2 ⟨v1,rfl,hr1,hb2⟩
 obtain⟨AS,cS,rfl⟩:=Kd.R_slice hr1
 have HS:Aside0 (Kd.R k46 46 w2 w.heap.size (fun _=>True) (.slice AS S.length cS) S):=⟨Kd.R_mono (Kd.R_lower hr1 HB1.out.size) (fun _ _=>trivial)⟩
 have HB2:=Aside0.mk (below_then HB1.out HB1.out.size hb2)
 clear hr1 hb2 HB1
 go_wp2_with fail
 refine(make_own AS cS S a1 A2 c2 ns_ 4 _ (Kd.R_reads' HS.out).2.2 (Kd.R_reads' HS.out).2.1 (Kd.C_below HI2.out.1 HB2.out) HS0.out.2 (by decide) (by decide)).mono ?_
 rintro e w3 ⟨v2,v3,v4,v5,v6,rfl,hv,hb3⟩
 obtain⟨st,hst⟩:∃st,st=mkAll S (makeN a1 4) (makeG a1) ns_:=⟨_,rfl⟩
 rw [←hst] at HINV HLEN hv
 obtain⟨N,hN⟩:∃N,N=makeN a1 4:=⟨_,rfl⟩
 obtain⟨G,hG⟩:∃G,G=makeG a1:=⟨_,rfl⟩
 rw [←hN] at HN
 rw [←hG] at HN
 rw [←hN,←hG] at HINV hv ⊢
 have HV:Aside0 (OutV w3 w2.heap.size v2 v3 v4 v5 v6 (mkJ st) st.f st.o st.c st.n):=⟨hv⟩
 have HB3:=Aside0.mk (below_then HB2.out HB2.out.size hb3)
 have HS3:=Aside0.mk (Kd.R_below HS.out hb3)
 clear hst hN hG hv hb3 HB2 HS
 have HIN:Aside0 ((∀s∈mkJ st,0≤s∧s < N)∧(mkJ st).length≤25):=⟨by
  unfold mkJ
  have:=HLEN.out.1
  split
  ·exact⟨fun s hs=>by rw [List.mem_singleton.1 hs];have:=HN.out;omega,by simp⟩
  exact⟨HINV.out.i,by omega⟩⟩
 obtain⟨i,hi⟩:∃i,i=mkJ st:=⟨_,rfl⟩
 rw [←hi] at HV HIN
 clear hi
 have q2:=HV.out.r2
 have q3:=HV.out.r3
 have q4:=HV.out.r4
 have q5:=HV.out.r5
 have q6:=HV.out.r6
 obtain⟨Z2,z2,rfl⟩:=Kd.R_slice q2
 obtain⟨Z3,z3,rfl⟩:=Kd.R_slice q3
 obtain⟨Z4,z4,rfl⟩:=Kd.R_slice q4
 obtain⟨Z5,z5,rfl⟩:=Kd.R_slice q5
 obtain⟨Z6,z6,rfl⟩:=Kd.R_slice q6
 clear q2 q3 q4 q5 q6
 have HT:Aside0 (RT w (w3.alloc (.cells #[.int .i64 N,.int .i64 G,.slice Z2 i.length z2,.slice Z3 st.f.length z3,.slice Z4 st.o.length z4,.slice Z5 st.c.length z5,.slice Z6 st.n.length z6] 30)) AS cS S w3.heap.size N G Z2 z2 i Z3 z3 (st.f) Z4 z4 (st.o) Z5 z5 (st.c) Z6 z6 (st.n)):=⟨⟨below_alloc HB3.out _,Kd.R_alloc HS3.out _,⟨Kd.C_below (Kd.R_reads' HV.out.r2).2.2 (below_alloc (Below.refl _ _) _),(Kd.R_reads' HV.out.r2).2.1⟩,⟨Kd.C_below (Kd.R_reads' HV.out.r3).2.2 (below_alloc (Below.refl _ _) _),(Kd.R_reads' HV.out.r3).2.1⟩,⟨Kd.C_below (Kd.R_reads' HV.out.r4).2.2 (below_alloc (Below.refl _ _) _),(Kd.R_reads' HV.out.r4).2.1⟩,⟨Kd.C_below (Kd.R_reads' HV.out.r5).2.2 (below_alloc (Below.refl _ _) _),(Kd.R_reads' HV.out.r5).2.1⟩,⟨Kd.C_below (Kd.R_reads' HV.out.r6).2.2 (below_alloc (Below.refl _ _) _),(Kd.R_reads' HV.out.r6).2.1⟩,blk_newAt _ rfl⟩⟩
 clear HV HS3 HB3
 go_upto_region 5 with (fail)
 obtain⟨wq,hwq⟩:∃W:World,W=w3.alloc (.cells #[.int .i64 N,.int .i64 G,.slice Z2 i.length z2,.slice Z3 st.f.length z3,.slice Z4 st.o.length z4,.slice Z5 st.c.length z5,.slice Z6 st.n.length z6] 30):=⟨_,rfl⟩
 obtain⟨ga,hga⟩:∃g,g=w3.heap.size:=⟨_,rfl⟩
 rw [←hwq,←hga] at HT
 rw [←hwq,←hga]
 clear hwq hga w3
 -- MARK1
 go_wp2_with fail
 refine(canopylaw1_Word.calls 1002 AS cS S A3 c3 ws_ 8 (wordL S ws_ 8) _ (Kd.R_reads' HT.out.s).2.2 (Kd.R_reads' HT.out.s).2.1 (Kd.C_below HI3.out.1 HT.out.b) HI3.out.2.1 (word_eq HS0.out.2 ws_ HI3.out.2.2 8 (by decide) (by decide) 1002 (by decide))).mono ?_
 rintro e wb ⟨vw,rfl,hrw,hbw⟩
 have hmem:∀x∈wordL S ws_ 8,0≤x∧x < S.length:=fun x hx=>wordL_mem HS0.out.2 hx
 have hwl:=wordL_len S ws_ 8
 obtain⟨ww,hww⟩:∃u,u=fewL S 4 (wordL S ws_ 8) 0:=⟨_,rfl⟩
 have HFww:Aside0 ((∀x∈ww,0≤x∧x < S.length)∧ww.length≤8∧opensIn S ww≤4):=⟨by rw [hww];exact few_mem hmem,by rw [hww];exact Nat.le_trans few_len hwl,by rw [hww];have:=few_opens (l:=S) (most:=4) (n:=0) (w:=wordL S ws_ 8) (by decide);omega⟩
 have hfe:=few_eq (l:=S) _ (Nat.le_trans hwl (by decide)) hmem 4 (by decide) 1002 (by decide)
 rw [←hww] at hfe
 have HFE:=Aside0.mk hfe
 have HRW:=Aside0.mk hrw
 have HBW:=Aside0.mk hbw
 clear hmem hwl hww hfe hrw hbw
 go_wp2_with fail
 refine(canopylaw4_few.calls 1002 AS cS S (fun k=>wq.heap.size≤k) vw (wordL S ws_ 8) 4 ww wq _ HBW.out (fun W_ hk=>HT.out.kept HBW.out hk) (Kd.R_reads' HT.out.s).2.1 (Kd.R_mono (Kd.R_bound HRW.out) (fun k hk=>hk.2.1)) HFE.out).mono ?_
 rintro e wn ⟨vww,rfl,hr,hb,hkp⟩
 obtain⟨Aww,cww,rfl⟩:=Kd.R_slice hr
 have HCww:=Aside0.mk (And.intro (Kd.R_reads' hr).2.2 (Kd.R_reads' hr).2.1)
 have HT1:=Aside0.mk (HT.out.below hb)
 clear hr hb hkp HT HFE HRW HBW wb
 have HT:=HT1
 clear HT1
 clear wq
 obtain⟨wq,rfl⟩:∃W:World,W=wn:=⟨_,rfl⟩
 clear HI2 HI3
 go_upto_region 6 with (fail)
 have HPB:Aside0 (∀u:List Int,(∀s∈u,0≤s∧s < S.length)→opensIn S u≤5→(runL S st.o st.c st.n (startL i) (u)).length≤128∧∀x∈(runL S st.o st.c st.n (startL i) (u)),x.f1.length≤14):=⟨fun u h1 h2=>step_few HINV.out (by have:=HN.out;omega) (by have:=HN.out;omega) (by have:=HN.out;omega) (by have:=HN.out;omega) HIN.out.1 h1 h2⟩
 obtain⟨K_,hK_⟩:∃K:Nat,1001004 < K:=⟨1001005,by omega⟩
 have HKK:=Aside0.mk hK_
 clear hK_
 -- MARK6
 obtain⟨q0,hq0⟩:∃q:List RAt,q=(onceC cmpInt i).map fun s=>(⟨s,[]⟩:RAt):=⟨_,rfl⟩
 have HQ0:=Aside0.mk hq0
 have HSTA:Aside0 (canopyref4_Start.f 1002 N G i st.f st.o st.c st.n=some q0):=⟨by
  rw [hq0]
  have hl:=Nat.le_trans (once_lenle totalInt i) HIN.out.2
  unfold canopyref4_Start.f canopyref2_Ints.f
  rw [if_pos (by have:=HIN.out.2;omega)]
  exact rstart_loop (onceC cmpInt i) (by omega) (onceC cmpInt i).length 0 (by omega) (by omega) (by omega) 1002 (by omega)⟩
 clear hq0
 refine start_ (n:=6) (S:=fun w'=>w'.cell? ⟨ga,0,none⟩=some (.int .i64 N)∧w'.cell? ⟨ga,1,none⟩=some (.int .i64 G)∧w'.cell? ⟨ga,2,none⟩=some (.slice Z2 i.length z2)∧w'.cell? ⟨ga,3,none⟩=some (.slice Z3 st.f.length z3)∧w'.cell? ⟨ga,4,none⟩=some (.slice Z4 st.o.length z4)∧w'.cell? ⟨ga,5,none⟩=some (.slice Z5 st.c.length z5)∧w'.cell? ⟨ga,6,none⟩=some (.slice Z6 st.n.length z6)) (ds:=[]) (pm 0 6) (by kernel_rfl) rfl rfl ⟨(blk_cell (HT.out.below (below_drew (Below.refl wq.heap.size wq))).a 0).trans rfl,(blk_cell (HT.out.below (below_drew (Below.refl wq.heap.size wq))).a 1).trans rfl,(blk_cell (HT.out.below (below_drew (Below.refl wq.heap.size wq))).a 2).trans rfl,(blk_cell (HT.out.below (below_drew (Below.refl wq.heap.size wq))).a 3).trans rfl,(blk_cell (HT.out.below (below_drew (Below.refl wq.heap.size wq))).a 4).trans rfl,(blk_cell (HT.out.below (below_drew (Below.refl wq.heap.size wq))).a 5).trans rfl,(blk_cell (HT.out.below (below_drew (Below.refl wq.heap.size wq))).a 6).trans rfl⟩ (fun hHeld=>?_)
 refine with_tabW O6t.tab O6t.bits (fun HT_ HW_=>?_)
 have hb:=(below_drew (Below.refl wq.heap.size wq))
 have HT1:=Aside0.mk (HT.out.below hb)
 have HC1:=Aside0.mk (And.intro (Kd.C_below HCww.out.1 hb) HCww.out.2)
 clear HT HCww
 have HT:=HT1
 have HCww:=HC1
 clear HT1 HC1
 clear hb
 obtain⟨wd,hwd⟩:∃W:World,W=wq.drew:=⟨_,rfl⟩
 rw [←hwd] at HT HCww hHeld ⊢
 clear hwd
 try clear wq
 obtain⟨wq,rfl⟩:∃W:World,W=wd:=⟨_,rfl⟩
 refine tn_ (v:=?_) (a':=?_) rfl (rfl (a:=some _)) (take_ofW HT_.out HW_.out (by kernel_rfl)) (fun _ _ _ h=>h) (Or.inl ⟨by rfl,?_⟩) hHeld ?_ ?_;rotate_left;(intro w' hS_;obtain⟨s0,s1,s2,s3,s4,s5,s6⟩:=hS_;go_simp;with_reducible rfl);rotate_left;(simp only [Act.put,M.sq3,i64_w,i32_w];rfl)
 refine to_ 2 (v:=?_) (a':=?_) rfl (rfl (a:=some _)) (take_ofW HT_.out HW_.out (by kernel_rfl)) (fun _ _ _ h=>h) (Or.inl ⟨by rfl,?_⟩) hHeld ?_ ?_;rotate_left;(intro w' hS_;obtain⟨s0,s1,s2,s3,s4,s5,s6⟩:=hS_;go_simp;with_reducible rfl);rotate_left;(simp only [Act.put,M.sq3,i64_w,i32_w];rfl)
 refine one_ (i:=1) (N:=(some 34)) (pm 3 3) rfl rfl (one_of HT_.out (by kernel_rfl)) (by decide) (fun K hK=>?_)
 refine goes_ Try.func17 (by kernel_rfl) rfl #[.agg #[.int .i64 N,.int .i64 G,.slice Z2 i.length z2,.slice Z3 st.f.length z3,.slice Z4 st.o.length z4,.slice Z5 st.c.length z5,.slice Z6 st.n.length z6]] rfl rfl rfl (by(try simp only [List.map_toArray,List.map_cons,List.map_nil]);rfl) ?_
 refine(runs_Start.calls N G Z2 z2 i Z3 z3 (st.f) Z4 z4 (st.o) Z5 z5 (st.c) Z6 z6 (st.n) (startL i) _ HT.out.a2.1 HT.out.a2.2 HT.out.a3.1 HT.out.a3.2 HT.out.a4.1 HT.out.a4.2 HT.out.a5.1 HT.out.a5.2 HT.out.a6.1 HT.out.a6.2 (if_pos (by have:=HIN.out.2;omega))).mono ?_
 rintro e we ⟨vp,rfl,hsp,hb⟩
 have HP:Aside0 (Kd.S k48 48 we w.heap.size (fun _=>True) vp (startL i)):=⟨Kd.S_lower hsp HT.out.b.size⟩
 clear hsp
 have HT1:=Aside0.mk (HT.out.below hb)
 have HC1:=Aside0.mk (And.intro (Kd.C_below HCww.out.1 hb) HCww.out.2)
 clear HT HCww
 have HT:=HT1
 have HCww:=HC1
 clear HT1 HC1
 clear hb hHeld
 refine⟨_,rfl,?_⟩
 refine hK.out _ _ ⟨(blk_cell HT.out.a 0).trans rfl,(blk_cell HT.out.a 1).trans rfl,(blk_cell HT.out.a 2).trans rfl,(blk_cell HT.out.a 3).trans rfl,(blk_cell HT.out.a 4).trans rfl,(blk_cell HT.out.a 5).trans rfl,(blk_cell HT.out.a 6).trans rfl⟩ (fun hHeld=>?_)
 clear hK K
 obtain⟨wq,rfl⟩:∃wq:World,wq=we:=⟨_,rfl⟩
 refine norm_ (a':=?_) ?_ ?_
 rotate_left
 ·show Act.put _ (some 34) _ = _
  simp only [Act.put,M.sq3,i64_w,i32_w]
  rfl
 refine one_ (i:=3) (N:=(some 36)) (pm 4 2) rfl rfl (one_of HT_.out (by kernel_rfl)) (by decide) (fun K hK=>?_)
 refine goes_ Try.func18 (by kernel_rfl) rfl #[.agg #[.int .i64 N,.int .i64 G,.slice Z2 i.length z2,.slice Z3 st.f.length z3,.slice Z4 st.o.length z4,.slice Z5 st.c.length z5,.slice Z6 st.n.length z6]] rfl rfl rfl (by(try simp only [List.map_toArray,List.map_cons,List.map_nil]);rfl) ?_
 refine(canopyref4_Start.calls 1002 N G Z2 z2 i Z3 z3 (st.f) Z4 z4 (st.o) Z5 z5 (st.c) Z6 z6 (st.n) q0 _ HT.out.a2.1 HT.out.a2.2 HT.out.a3.1 HT.out.a3.2 HT.out.a4.1 HT.out.a4.2 HT.out.a5.1 HT.out.a5.2 HT.out.a6.1 HT.out.a6.2 HSTA.out).mono ?_
 rintro e we ⟨vr,rfl,hsr,hb⟩
 obtain⟨RA,rc,rfl⟩:=Kd.R_slice (Kd.S_R hsr)
 have HRS:=Aside0.mk (Kd.R_reads' (Kd.S_R hsr)).2.2
 have HRC:=Aside0.mk (Kd.R_reads' (Kd.S_R hsr)).2.1
 have HP1:=Aside0.mk (Kd.S_below HP.out hb)
 clear HP hsr
 have HP:=HP1
 clear HP1
 have HT1:=Aside0.mk (HT.out.below hb)
 have HC1:=Aside0.mk (And.intro (Kd.C_below HCww.out.1 hb) HCww.out.2)
 clear HT HCww
 have HT:=HT1
 have HCww:=HC1
 clear HT1 HC1
 clear hb hHeld
 refine⟨_,rfl,?_⟩
 refine hK.out _ _ ⟨(blk_cell HT.out.a 0).trans rfl,(blk_cell HT.out.a 1).trans rfl,(blk_cell HT.out.a 2).trans rfl,(blk_cell HT.out.a 3).trans rfl,(blk_cell HT.out.a 4).trans rfl,(blk_cell HT.out.a 5).trans rfl,(blk_cell HT.out.a 6).trans rfl⟩ (fun hHeld=>?_)
 clear hK K
 obtain⟨wq,rfl⟩:∃wq:World,wq=we:=⟨_,rfl⟩
 refine norm_ (a':=?_) ?_ ?_
 rotate_left
 ·show Act.put _ (some 36) _ = _
  simp only [Act.put,M.sq3,i64_w,i32_w]
  rfl
 iterate 2 (refine pn_ (v:=?_) (a':=?_) rfl (rfl (a:=some _)) (any_of HT_.out (by kernel_rfl)) (fun _ _ _ h=>h) (Or.inl ⟨by rfl,?_⟩) ?_ ?_;rotate_left;(intro w';go_simp;with_reducible rfl);rotate_left;(simp only [Act.put,M.sq3,i64_w,i32_w];rfl))
 refine done_ (done_of HT_.out (by kernel_rfl)) ?_
 obtain⟨pl,hpl⟩:∃p,p=startL i:=⟨_,rfl⟩
 have HPE:Aside0 (pl=runL S st.o st.c st.n (startL i) (ww.take 0)):=⟨by rw [hpl];rfl⟩
 have HRE:Aside0 (q0=pl.map toR):=⟨by rw [HQ0.out,hpl];exact(start_same i).symm⟩
 rw [←hpl] at HP
 clear hpl HSTA HQ0
 obtain⟨rs,hrs,hro⟩:=raws_of q0 _ HRS.out
 have hlen:=hro.len
 rw [←hlen] at hrs
 have hrc:=HRC.out
 rw [←hlen] at hrc
 rw [HRE.out,HPE.out] at hro
 have HR:Aside0 (Kd.C kRaw wq RA rs.length rs∧rs.length≤rc∧RawsOf wq rs ((runL S st.o st.c st.n (startL i) (ww.take 0)).map toR)):=⟨hrs,hrc,hro⟩
 have HLN:=Aside0.mk hlen
 have HP2:Aside0 (Kd.S k48 48 wq w.heap.size (fun _=>True) vp (runL S st.o st.c st.n (startL i) (ww.take 0))):=⟨by rw [←HPE.out];exact HP.out⟩
 clear HP hrs hro hlen hrc HRS HRC HRE HPE
 have HP:=HP2
 clear HP2
 go_wp2
 -- MARK10
 go_loopg [12,13,14] ww.length (fun gk vp vq vi w'=>∃(i_:Nat) (RA:Option Addr) (rc:Nat) (rs:List Raw),vq=.slice RA rs.length rc∧vi=.int .i64 (i_:Int)∧Aside0 (i_≤ww.length∧ww.length - i_≤gk)∧Aside0 (RT w w' AS cS S ga N G Z2 z2 i Z3 z3 (st.f) Z4 z4 (st.o) Z5 z5 (st.c) Z6 z6 (st.n))∧Aside0 (Kd.C (Kd.int .i64) w' Aww ww.length ww∧ww.length≤cww)∧Aside0 (Kd.S k48 48 w' w.heap.size (fun _=>True) vp (runL S st.o st.c st.n (startL i) (ww.take i_)))∧Aside0 (Kd.C kRaw w' RA rs.length rs∧rs.length≤rc∧RawsOf w' rs ((runL S st.o st.c st.n (startL i) (ww.take i_)).map toR)))
 case atStart=>exact⟨0,RA,rc,rs,by rw [HLN.out],rfl,⟨by omega,by omega⟩,HT,HCww,HP,HR⟩
 case' round=>skip
 try clear s3
 clear HT HCww HP HR HLN
 obtain⟨i_,RA,rc,rs,rfl,rfl,Hi,HT,HCww,HP,HR⟩:=hrel
 try clear wq
 obtain⟨wq,rfl⟩:∃W:World,W=wr:=⟨_,rfl⟩
 have hsl:=Kd.S_R HP.out
 obtain⟨PA,pc,rfl⟩:=Kd.R_slice hsl
 clear hsl
 by_cases hl_:i_ < ww.length
 ·as_aux_lemma=>
   have HLT:=Aside0.mk hl_
   obtain⟨ad,eA,cx⟩:=int_at HCww.out.1 i_ hl_
   have HNX:Aside0 (ww.take (i_+1)=ww.take i_ ++ [ww[i_]]):=⟨by rw [List.take_add_one,List.getElem?_eq_getElem hl_];rfl⟩
   have hop:opensIn S (ww.take i_)≤5:=Nat.le_trans (opens_take S ww i_) (by have:=HFww.out.2.2;omega)
   have hmem:∀s∈ww.take i_,0≤s∧s < S.length:=fun s hs=>HFww.out.1 s (List.mem_of_mem_take hs)
   have hop1:opensIn S (ww.take (i_+1))≤5:=Nat.le_trans (opens_take S ww (i_+1)) (by have:=HFww.out.2.2;omega)
   have hmem1:∀s∈ww.take (i_+1),0≤s∧s < S.length:=fun s hs=>HFww.out.1 s (List.mem_of_mem_take hs)
   have hpb1:=HPB.out _ hmem1 hop1
   obtain⟨hst,_,_⟩:=step_go HINV.out HLEN.out (by have:=HN.out;omega) (by have:=HN.out;omega) (by have:=HN.out;omega) (by have:=HN.out;omega) HIN.out.1 hmem (by omega) st.f ww[i_]
   have hx0:0≤ww[i_]∧ww[i_] < S.length:=HFww.out.1 _ (List.getElem_mem hl_)
   rw [←HNX.out] at hst
   have hss:((runL S st.o st.c st.n (startL i) (ww.take (i_+1)))).map toR=stepsR st.o st.c st.n (((runL S st.o st.c st.n (startL i) (ww.take i_))).map toR) ww[i_]:=by rw [HNX.out,run_snoc];exact step_same HINV.out _ hx0
   generalize ww[i_]=x at cx HNX hst hss
   have hpb:=HPB.out _ hmem hop
   obtain⟨p,hp⟩:∃p,p=(runL S st.o st.c st.n (startL i) (ww.take i_)):=⟨_,rfl⟩
   rw [←hp] at HP hpb HR ⊢
   obtain⟨rl,hrl⟩:∃r,r=p.map toR:=⟨_,rfl⟩
   have hae:=as_eq p (by have:=hpb.1;omega) K_ (by have:=HKK.out;omega)
   rw [←hrl] at hae
   have hrll:rl.length≤1000000:=by rw [hrl,List.length_map];have:=hpb.1;omega
   have hse:=rsame_eq rl hrll (fun y hy=>by rw [hrl] at hy;obtain⟨z,hz,rfl⟩:=List.mem_map.1 hy;exact Nat.le_trans (hpb.2 z hz) (by decide)) K_ (by have:=HKK.out;omega)
   rw [←hrl] at HR
   have HAE:=Aside0.mk hae
   have HSE:=Aside0.mk hse
   have HPX:=Aside0.mk hp
   have HRL:=Aside0.mk hrl
   have hlen:=HR.out.2.2.len
   rw [hlen]
   have HLN:=Aside0.mk hlen
   clear hae hse hrll hlen
   rw [←hp] at hst hss
   rw [←hrl] at hss
   obtain⟨p',hp'⟩:∃p,p=(runL S st.o st.c st.n (startL i) (ww.take (i_+1))):=⟨_,rfl⟩
   rw [←hp'] at hst hpb1 hss
   have HMM:Aside0 (rs.length*(st.n.length+st.o.length+st.c.length)≤1000000):=⟨by
    have h1:rs.length≤128:=by rw [HR.out.2.2.len,hrl,List.length_map];exact hpb.1
    obtain⟨_,_,l1,l2,l3⟩:=HLEN.out
    exact Nat.le_trans (Nat.mul_le_mul h1 (show st.n.length+st.o.length+st.c.length≤72 by omega)) (by decide)⟩
   have HST:=Aside0.mk hst
   have HP':=Aside0.mk hp'
   have HSS:=Aside0.mk hss
   have HPY:Aside0 (∀y∈rl,y.f1.length≤999):=⟨fun y hy=>by rw [hrl] at hy;obtain⟨z,hz,rfl⟩:=List.mem_map.1 hy;exact Nat.le_trans (hpb.2 z hz) (by decide)⟩
   have HPN:Aside0 (p'.length≤128):=⟨hpb1.1⟩
   have HPL1:Aside0 (∀x∈p',x.f1.length≤1000):=⟨fun x hx=>Nat.le_trans (hpb1.2 x hx) (by decide)⟩
   clear hop hmem hop1 hmem1 hst hpb hpb1 hss hp hp' hrl hx0
   have s3:=eq_true (show (i_:Int) < (ww.length:Int) by omega)
   have s4:=eq_true (show (0:Int)≤(i_:Int) by omega)
   have HSI:=Aside0.mk (And.intro s3 s4)
   have HCX:Aside0 (wq.cell? (ad.add i_)=some (.int .i64 x)):=⟨cx⟩
   subst eA
   clear hl_ cx
   go_upto_region 10 with (fail)
   -- MARK12
   refine start_ (n:=9) (S:=fun w'=>w'.cell? ⟨ga,0,none⟩=some (.int .i64 N)∧w'.cell? ⟨ga,1,none⟩=some (.int .i64 G)∧w'.cell? ⟨ga,2,none⟩=some (.slice Z2 i.length z2)∧w'.cell? ⟨ga,3,none⟩=some (.slice Z3 st.f.length z3)∧w'.cell? ⟨ga,4,none⟩=some (.slice Z4 st.o.length z4)∧w'.cell? ⟨ga,5,none⟩=some (.slice Z5 st.c.length z5)∧w'.cell? ⟨ga,6,none⟩=some (.slice Z6 st.n.length z6)∧w'.cell? (ad.add i_)=some (.int .i64 x)) (ds:=[]) (pm 0 9) (by kernel_rfl) rfl rfl ⟨(blk_cell (HT.out.below (below_drew (Below.refl wq.heap.size wq))).a 0).trans rfl,(blk_cell (HT.out.below (below_drew (Below.refl wq.heap.size wq))).a 1).trans rfl,(blk_cell (HT.out.below (below_drew (Below.refl wq.heap.size wq))).a 2).trans rfl,(blk_cell (HT.out.below (below_drew (Below.refl wq.heap.size wq))).a 3).trans rfl,(blk_cell (HT.out.below (below_drew (Below.refl wq.heap.size wq))).a 4).trans rfl,(blk_cell (HT.out.below (below_drew (Below.refl wq.heap.size wq))).a 5).trans rfl,(blk_cell (HT.out.below (below_drew (Below.refl wq.heap.size wq))).a 6).trans rfl,HCX.out⟩ (fun hHeld=>?_)
   refine with_tabW O10t.tab O10t.bits (fun HT_ HW_=>?_)
   have hb:=below_drew (Below.refl wq.heap.size wq)
   have HCX1:Aside0 (wq.drew.cell? (ad.add i_)=some (.int .i64 x)):=⟨(hb.cell (World.block_lt_of_cell? _ _ HCX.out)).trans HCX.out⟩
   clear HCX
   have HCX:=HCX1
   clear HCX1
   have HT1_:=Aside0.mk (HT.out.below hb)
   clear HT
   have HT:=HT1_
   clear HT1_
   have HCww1_:=Aside0.mk (And.intro (Kd.C_below HCww.out.1 hb) HCww.out.2)
   clear HCww
   have HCww:=HCww1_
   clear HCww1_
   have HP1_:=Aside0.mk (Kd.S_below HP.out hb)
   clear HP
   have HP:=HP1_
   clear HP1_
   have HR1_:=Aside0.mk (And.intro (Kd.C_below HR.out.1 hb) (And.intro HR.out.2.1 (RawsOf.below hb HR.out.2.2)))
   clear HR
   have HR:=HR1_
   clear HR1_
   clear hb
   obtain⟨wd,hwd⟩:∃W:World,W=wq.drew:=⟨_,rfl⟩
   rw [←hwd] at HT HCww HP HR HCX hHeld ⊢
   clear hwd
   try clear wq
   obtain⟨wq,rfl⟩:∃W:World,W=wd:=⟨_,rfl⟩
   iterate 7 (first|(refine pn_ (v:=?_) (a':=?_) rfl (rfl (a:=some _)) (any_of HT_.out (by kernel_rfl)) (fun _ _ _ h=>h) (Or.inl ⟨by rfl,?_⟩) ?_ ?_;rotate_left;(intro w';go_simp;with_reducible rfl);rotate_left;(simp only [Act.put,M.sq3,i64_w,i32_w];rfl))|(refine tn_ (v:=?_) (a':=?_) rfl (rfl (a:=some _)) (take_ofW HT_.out HW_.out (by kernel_rfl)) (fun _ _ _ h=>h) (Or.inl ⟨by rfl,?_⟩) hHeld ?_ ?_;rotate_left;(intro w' hS_;obtain⟨s0,s1,s2,s3,s4,s5,s6,s7⟩:=hS_;go_simp;with_reducible rfl);rotate_left;(simp only [Act.put,M.sq3,i64_w,i32_w];rfl)))
   refine one_ (i:=7) (N:=(some 50)) (pm 8 1) rfl rfl (one_of HT_.out (by kernel_rfl)) (by decide) (fun K hK=>?_)
   refine goes_ Try.func21 (by kernel_rfl) rfl #[.slice AS S.length cS,.agg #[.int .i64 N,.int .i64 G,.slice Z2 i.length z2,.slice Z3 st.f.length z3,.slice Z4 st.o.length z4,.slice Z5 st.c.length z5,.slice Z6 st.n.length z6],.slice PA p.length pc,.int .i64 x] rfl rfl rfl (by(try simp only [List.map_toArray,List.map_cons,List.map_nil]);rfl) ?_
   refine(runs_Step.calls AS cS S N G Z2 z2 i Z3 z3 (st.f) Z4 z4 (st.o) Z5 z5 (st.c) Z6 z6 (st.n) PA pc p x p' _ (Kd.R_reads' HT.out.s).2.2 (Kd.R_reads' HT.out.s).2.1 HT.out.a2.1 HT.out.a2.2 HT.out.a3.1 HT.out.a3.2 HT.out.a4.1 HT.out.a4.2 HT.out.a5.1 HT.out.a5.2 HT.out.a6.1 HT.out.a6.2 (Kd.R_reads' (Kd.S_R HP.out)).2.2 (Kd.R_reads' (Kd.S_R HP.out)).2.1 HST.out).mono ?_
   rintro e we ⟨vn,rfl,hsn,hb⟩
   have HQ:Aside0 (Kd.S k48 48 we w.heap.size (fun _=>True) vn p'):=⟨Kd.S_lower hsn HT.out.b.size⟩
   clear hsn
   have HCX1:=Aside0.mk ((hb.cell (World.block_lt_of_cell? _ _ HCX.out)).trans HCX.out)
   clear HCX
   have HCX:=HCX1
   clear HCX1
   have HT1_:=Aside0.mk (HT.out.below hb)
   clear HT
   have HT:=HT1_
   clear HT1_
   have HCww1_:=Aside0.mk (And.intro (Kd.C_below HCww.out.1 hb) HCww.out.2)
   clear HCww
   have HCww:=HCww1_
   clear HCww1_
   have HP1_:=Aside0.mk (Kd.S_below HP.out hb)
   clear HP
   have HP:=HP1_
   clear HP1_
   have HR1_:=Aside0.mk (And.intro (Kd.C_below HR.out.1 hb) (And.intro HR.out.2.1 (RawsOf.below hb HR.out.2.2)))
   clear HR
   have HR:=HR1_
   clear HR1_
   clear hb hHeld
   refine⟨_,rfl,?_⟩
   refine hK.out _ _ ⟨(blk_cell HT.out.a 0).trans rfl,(blk_cell HT.out.a 1).trans rfl,(blk_cell HT.out.a 2).trans rfl,(blk_cell HT.out.a 3).trans rfl,(blk_cell HT.out.a 4).trans rfl,(blk_cell HT.out.a 5).trans rfl,(blk_cell HT.out.a 6).trans rfl,HCX.out⟩ (fun hHeld=>?_)
   clear hK K
   obtain⟨wq,rfl⟩:∃wq:World,wq=we:=⟨_,rfl⟩
   refine norm_ (a':=?_) ?_ ?_
   rotate_left
   ·show Act.put _ (some 50) _ = _
    simp only [Act.put,M.sq3,i64_w,i32_w]
    rfl
   refine pn_ (v:=?_) (a':=?_) rfl (rfl (a:=some _)) (any_of HT_.out (by kernel_rfl)) (fun _ _ _ h=>h) (Or.inl ⟨by rfl,?_⟩) ?_ ?_;rotate_left;(intro w';go_simp;with_reducible rfl);rotate_left;(simp only [Act.put,M.sq3,i64_w,i32_w];rfl)
   refine done_ (done_of HT_.out (by kernel_rfl)) ?_
   clear hHeld s3 s4
   -- MARK13
   go_wp2_with fail
   refine(canopylaw4_as.calls K_ (fun _=>True) PA pc p rl _ (Kd.S_V HP.out) HAE.out).mono ?_
   rintro e wn ⟨va,rfl,hn,hb⟩
   obtain⟨VA,vc,rfl,hv1,hv2⟩:=Kd.N_reads hn
   have HVC:=Aside0.mk (And.intro hv1 hv2)
   clear hn hv1 hv2
   have HCX1:=Aside0.mk ((hb.cell (World.block_lt_of_cell? _ _ HCX.out)).trans HCX.out)
   clear HCX
   have HCX:=HCX1
   clear HCX1
   have HT1_:=Aside0.mk (HT.out.below hb)
   clear HT
   have HT:=HT1_
   clear HT1_
   have HCww1_:=Aside0.mk (And.intro (Kd.C_below HCww.out.1 hb) HCww.out.2)
   clear HCww
   have HCww:=HCww1_
   clear HCww1_
   have HP1_:=Aside0.mk (Kd.S_below HP.out hb)
   clear HP
   have HP:=HP1_
   clear HP1_
   have HQ1_:=Aside0.mk (Kd.S_below HQ.out hb)
   clear HQ
   have HQ:=HQ1_
   clear HQ1_
   have HR1_:=Aside0.mk (And.intro (Kd.C_below HR.out.1 hb) (And.intro HR.out.2.1 (RawsOf.below hb HR.out.2.2)))
   clear HR
   have HR:=HR1_
   clear HR1_
   clear hb
   go_wp2_with fail
   refine(canopyref4_Same.calls K_ VA vc rl RA rc rl true _ HVC.out.2 HVC.out.1 (raws_to (by rw [←HLN.out];exact HR.out.1) HR.out.2.2) (by rw [←HLN.out];exact HR.out.2.1) HSE.out).mono ?_
   rintro e we ⟨rfl,hd⟩
   have hb:=hd.below
   have HCX1:=Aside0.mk ((hb.cell (World.block_lt_of_cell? _ _ HCX.out)).trans HCX.out)
   clear HCX
   have HCX:=HCX1
   clear HCX1
   have HT1_:=Aside0.mk (HT.out.below hb)
   clear HT
   have HT:=HT1_
   clear HT1_
   have HCww1_:=Aside0.mk (And.intro (Kd.C_below HCww.out.1 hb) HCww.out.2)
   clear HCww
   have HCww:=HCww1_
   clear HCww1_
   have HP1_:=Aside0.mk (Kd.S_below HP.out hb)
   clear HP
   have HP:=HP1_
   clear HP1_
   have HQ1_:=Aside0.mk (Kd.S_below HQ.out hb)
   clear HQ
   have HQ:=HQ1_
   clear HQ1_
   have HR1_:=Aside0.mk (And.intro (Kd.C_below HR.out.1 hb) (And.intro HR.out.2.1 (RawsOf.below hb HR.out.2.2)))
   clear HR
   have HR:=HR1_
   clear HR1_
   clear hd hb HVC
   go_upto_region 13 with (fail)
   obtain⟨wq,rfl⟩:∃W:World,W=we:=⟨_,rfl⟩
   have s3:=HSI.out.1
   have s4:=HSI.out.2
   -- MARK14
   refine start_ (n:=9) (S:=fun w'=>w'.cell? ⟨ga,0,none⟩=some (.int .i64 N)∧w'.cell? ⟨ga,1,none⟩=some (.int .i64 G)∧w'.cell? ⟨ga,2,none⟩=some (.slice Z2 i.length z2)∧w'.cell? ⟨ga,3,none⟩=some (.slice Z3 st.f.length z3)∧w'.cell? ⟨ga,4,none⟩=some (.slice Z4 st.o.length z4)∧w'.cell? ⟨ga,5,none⟩=some (.slice Z5 st.c.length z5)∧w'.cell? ⟨ga,6,none⟩=some (.slice Z6 st.n.length z6)∧w'.cell? (ad.add i_)=some (.int .i64 x)) (ds:=[]) (pm 0 9) (by kernel_rfl) rfl rfl ⟨(blk_cell (HT.out.below (below_drew (Below.refl wq.heap.size wq))).a 0).trans rfl,(blk_cell (HT.out.below (below_drew (Below.refl wq.heap.size wq))).a 1).trans rfl,(blk_cell (HT.out.below (below_drew (Below.refl wq.heap.size wq))).a 2).trans rfl,(blk_cell (HT.out.below (below_drew (Below.refl wq.heap.size wq))).a 3).trans rfl,(blk_cell (HT.out.below (below_drew (Below.refl wq.heap.size wq))).a 4).trans rfl,(blk_cell (HT.out.below (below_drew (Below.refl wq.heap.size wq))).a 5).trans rfl,(blk_cell (HT.out.below (below_drew (Below.refl wq.heap.size wq))).a 6).trans rfl,HCX.out⟩ (fun hHeld=>?_)
   refine with_tabW O13t.tab O13t.bits (fun HT_ HW_=>?_)
   have hb:=below_drew (Below.refl wq.heap.size wq)
   have HCX1:Aside0 (wq.drew.cell? (ad.add i_)=some (.int .i64 x)):=⟨(hb.cell (World.block_lt_of_cell? _ _ HCX.out)).trans HCX.out⟩
   clear HCX
   have HCX:=HCX1
   clear HCX1
   have HT1_:=Aside0.mk (HT.out.below hb)
   clear HT
   have HT:=HT1_
   clear HT1_
   have HCww1_:=Aside0.mk (And.intro (Kd.C_below HCww.out.1 hb) HCww.out.2)
   clear HCww
   have HCww:=HCww1_
   clear HCww1_
   have HP1_:=Aside0.mk (Kd.S_below HP.out hb)
   clear HP
   have HP:=HP1_
   clear HP1_
   have HQ1_:=Aside0.mk (Kd.S_below HQ.out hb)
   clear HQ
   have HQ:=HQ1_
   clear HQ1_
   have HR1_:=Aside0.mk (And.intro (Kd.C_below HR.out.1 hb) (And.intro HR.out.2.1 (RawsOf.below hb HR.out.2.2)))
   clear HR
   have HR:=HR1_
   clear HR1_
   clear hb
   obtain⟨wd,hwd⟩:∃W:World,W=wq.drew:=⟨_,rfl⟩
   rw [←hwd] at HT HCww HP HQ HR HCX hHeld ⊢
   clear hwd
   try clear wq
   obtain⟨wq,rfl⟩:∃W:World,W=wd:=⟨_,rfl⟩
   iterate 7 (first|(refine pn_ (v:=?_) (a':=?_) rfl (rfl (a:=some _)) (any_of HT_.out (by kernel_rfl)) (fun _ _ _ h=>h) (Or.inl ⟨by rfl,?_⟩) ?_ ?_;rotate_left;(intro w';go_simp;with_reducible rfl);rotate_left;(simp only [Act.put,M.sq3,i64_w,i32_w];rfl))|(refine tn_ (v:=?_) (a':=?_) rfl (rfl (a:=some _)) (take_ofW HT_.out HW_.out (by kernel_rfl)) (fun _ _ _ h=>h) (Or.inl ⟨by rfl,?_⟩) hHeld ?_ ?_;rotate_left;(intro w' hS_;obtain⟨s0,s1,s2,s3,s4,s5,s6,s7⟩:=hS_;go_simp;with_reducible rfl);rotate_left;(simp only [Act.put,M.sq3,i64_w,i32_w];rfl)))
   refine one_ (i:=7) (N:=(some 63)) (pm 8 1) rfl rfl (one_of HT_.out (by kernel_rfl)) (by decide) (fun K hK=>?_)
   refine goes_ Try.func21 (by kernel_rfl) rfl #[.slice AS S.length cS,.agg #[.int .i64 N,.int .i64 G,.slice Z2 i.length z2,.slice Z3 st.f.length z3,.slice Z4 st.o.length z4,.slice Z5 st.c.length z5,.slice Z6 st.n.length z6],.slice PA p.length pc,.int .i64 x] rfl rfl rfl (by(try simp only [List.map_toArray,List.map_cons,List.map_nil]);rfl) ?_
   refine(runs_Step.calls AS cS S N G Z2 z2 i Z3 z3 (st.f) Z4 z4 (st.o) Z5 z5 (st.c) Z6 z6 (st.n) PA pc p x p' _ (Kd.R_reads' HT.out.s).2.2 (Kd.R_reads' HT.out.s).2.1 HT.out.a2.1 HT.out.a2.2 HT.out.a3.1 HT.out.a3.2 HT.out.a4.1 HT.out.a4.2 HT.out.a5.1 HT.out.a5.2 HT.out.a6.1 HT.out.a6.2 (Kd.R_reads' (Kd.S_R HP.out)).2.2 (Kd.R_reads' (Kd.S_R HP.out)).2.1 HST.out).mono ?_
   rintro e we ⟨vn,rfl,hsn,hb⟩
   have hsR:=Kd.S_R hsn
   obtain⟨R1,rc1,rfl⟩:=Kd.R_slice hsR
   have HLX:Aside0 (LX wq.heap.size we R1 p'.length):=⟨lax_of hsR HPL1.out⟩
   have HBW:=Aside0.mk hb
   clear hsn hsR
   have HTB:=HT.out.below hb
   have HCX1:=(hb.cell (World.block_lt_of_cell? _ _ HCX.out)).trans HCX.out
   clear hb hHeld
   refine⟨_,rfl,?_⟩
   refine hK.out _ _ ⟨(blk_cell HTB.a 0).trans rfl,(blk_cell HTB.a 1).trans rfl,(blk_cell HTB.a 2).trans rfl,(blk_cell HTB.a 3).trans rfl,(blk_cell HTB.a 4).trans rfl,(blk_cell HTB.a 5).trans rfl,(blk_cell HTB.a 6).trans rfl,HCX1⟩ (fun hHeld=>?_)
   clear hK K HTB HCX1
   obtain⟨wl,rfl⟩:∃wl:World,wl=we:=⟨_,rfl⟩
   refine norm_ (a':=?_) ?_ ?_
   rotate_left
   ·show Act.put _ (some 63) _ = _
    simp only [Act.put,M.sq3,i64_w,i32_w]
    rfl
   refine pn_ (v:=?_) (a':=?_) rfl (rfl (a:=some _)) (any_of HT_.out (by kernel_rfl)) (fun _ _ _ h=>h) (Or.inl ⟨by rfl,?_⟩) ?_ ?_;rotate_left;(intro w';go_simp;with_reducible rfl);rotate_left;(simp only [Act.put,M.sq3,i64_w,i32_w];rfl)
   refine done_ (done_of HT_.out (by kernel_rfl)) ?_
   clear hHeld s3 s4
   -- MARK15
   go_wp2
   go_loopg [17] p'.length (fun gk vk w'=>∃k_:Nat,vk=.int .i64 (k_:Int)∧Aside0 (k_≤p'.length∧p'.length - k_≤gk)∧Aside0 (Below wq.heap.size wq w')∧Aside0 (LX wq.heap.size w' R1 p'.length))
   case atStart=>exact⟨0,rfl,⟨by omega,by omega⟩,HBW,HLX⟩
   case' round=>skip
   clear HBW HLX
   obtain⟨k_,rfl,Hk,HBW,HLX⟩:=hrel
   try clear wl
   obtain⟨wl,rfl⟩:∃W:World,W=wr:=⟨_,rfl⟩
   by_cases hk_:k_ < p'.length
   ·as_aux_lemma=>
     have HLK:=Aside0.mk hk_
     obtain⟨g,eR,hic,A1,m,c1,he⟩:=HLX.out k_ hk_
     obtain⟨x0,t1,t2⟩:=hic.cell
     have HIC:=Aside0.mk hic
     have HE:=Aside0.mk he
     clear hic he
     have s5:=eq_true (show (k_:Int) < (p'.length:Int) by omega)
     have s6:=eq_true (show (0:Int)≤(k_:Int) by omega)
     subst eR
     clear hk_
     go_upto_region 18 with (fail)
     -- MARK16
     have HB1:=Aside0.mk (below_set (j:=k_*2) (v:=.int .i64 (-9)) HBW.out HIC.out.1)
     have HL1:=Aside0.mk (HLX.out.put HIC.out (-9))
     have HE1:=Aside0.mk (HE.out.put HIC.out (-9))
     clear HBW HLX HE t1 t2 s5 s6
     obtain⟨wz,hwz⟩:∃W:World,W=wl.setCell ⟨g,k_*2,none⟩ (.int .i64 (-9)):=⟨_,rfl⟩
     rw [←hwz] at HB1 HL1 HE1 ⊢
     clear hwz HIC
     try clear wl
     go_wp2
     go_loopg [18] m (fun gj vj w'=>∃j_:Nat,vj=.int .i64 (j_:Int)∧Aside0 (j_≤m∧m - j_≤gj)∧Aside0 (Below wq.heap.size wq w')∧Aside0 (LX wq.heap.size w' (some ⟨g,0,none⟩) p'.length)∧Aside0 (LE1 wq.heap.size w' g k_ A1 m c1))
     case atStart=>exact⟨0,rfl,⟨by omega,by omega⟩,HB1,HL1,HE1⟩
     case' round=>skip
     clear HB1 HL1 HE1
     obtain⟨j_,rfl,Hj,HB1,HL1,HE1⟩:=hrel
     try clear wz
     obtain⟨wz,rfl⟩:∃W:World,W=wr:=⟨_,rfl⟩
     have t3:=HE1.out.1
     have s5:=eq_true (show (k_:Int) < (p'.length:Int) by have:=HLK.out;omega)
     have s6:=eq_true (show (0:Int)≤(k_:Int) by omega)
     by_cases hj_:j_ < m
     ·as_aux_lemma=>
       have HLJ:=Aside0.mk hj_
       obtain⟨g1,eA1,hi1⟩:=HE1.out.2.2 j_ hj_
       obtain⟨y0,u1,u2⟩:=hi1.cell
       have HI1:=Aside0.mk hi1
       clear hi1
       have s7:=eq_true (show (j_:Int) < (m:Int) by omega)
       have s8:=eq_true (show (0:Int)≤(j_:Int) by omega)
       subst eA1
       clear hj_
       go_wp2
       -- MARK17
       go_roundg (m - (j_+1))
       case measure=>have:=Hj.out;have:=HLJ.out;omega
       case rel=>exact⟨j_+1,by first|rfl|rw [show wrap64 ((j_:Int)+1)=((j_+1:Nat):Int) by have:=HLJ.out;have:=HE1.out.2.1;unfold wrap64;omega],⟨HLJ.out,Nat.le_refl _⟩,⟨below_set HB1.out HI1.out.1⟩,⟨HL1.out.put HI1.out (-9)⟩,⟨HE1.out.put HI1.out (-9)⟩⟩
     have s7:=eq_false (show ¬(j_:Int) < (m:Int) by omega)
     go_wp2
     go_roundg (p'.length - (k_+1))
     case measure=>have:=Hk.out;have:=HLK.out;omega
     case rel=>exact⟨k_+1,by first|rfl|rw [show wrap64 ((k_:Int)+1)=((k_+1:Nat):Int) by have:=HLK.out;have:=HPN.out;unfold wrap64;omega],⟨HLK.out,Nat.le_refl _⟩,HB1,HL1⟩
   have s5:=eq_false (show ¬(k_:Int) < (p'.length:Int) by omega)
   rw [←HLN.out]
   go_upto_region 22 with (fail)
   -- MARK18
   have s3:=HSI.out.1
   have s4:=HSI.out.2
   have hb:=HBW.out
   have HCX1:=Aside0.mk ((hb.cell (World.block_lt_of_cell? _ _ HCX.out)).trans HCX.out)
   clear HCX
   have HCX:=HCX1
   clear HCX1
   have HT1_:=Aside0.mk (HT.out.below hb)
   clear HT
   have HT:=HT1_
   clear HT1_
   have HCww1_:=Aside0.mk (And.intro (Kd.C_below HCww.out.1 hb) HCww.out.2)
   clear HCww
   have HCww:=HCww1_
   clear HCww1_
   have HQ1_:=Aside0.mk (Kd.S_below HQ.out hb)
   clear HQ
   have HQ:=HQ1_
   clear HQ1_
   have HR1_:=Aside0.mk (And.intro (Kd.C_below HR.out.1 hb) (And.intro HR.out.2.1 (RawsOf.below hb HR.out.2.2)))
   clear HR
   have HR:=HR1_
   clear HR1_
   clear hb HP HLX HBW Hk hk_ s5
   try clear wq
   obtain⟨wq,rfl⟩:∃W:World,W=wl:=⟨_,rfl⟩
   refine start_ (n:=11) (S:=fun w'=>w'.cell? ⟨ga,0,none⟩=some (.int .i64 N)∧w'.cell? ⟨ga,1,none⟩=some (.int .i64 G)∧w'.cell? ⟨ga,2,none⟩=some (.slice Z2 i.length z2)∧w'.cell? ⟨ga,3,none⟩=some (.slice Z3 st.f.length z3)∧w'.cell? ⟨ga,4,none⟩=some (.slice Z4 st.o.length z4)∧w'.cell? ⟨ga,5,none⟩=some (.slice Z5 st.c.length z5)∧w'.cell? ⟨ga,6,none⟩=some (.slice Z6 st.n.length z6)∧w'.cell? (ad.add i_)=some (.int .i64 x)) (ds:=[]) (pm 0 11) (by kernel_rfl) rfl rfl ⟨(blk_cell (HT.out.below (below_drew (Below.refl wq.heap.size wq))).a 0).trans rfl,(blk_cell (HT.out.below (below_drew (Below.refl wq.heap.size wq))).a 1).trans rfl,(blk_cell (HT.out.below (below_drew (Below.refl wq.heap.size wq))).a 2).trans rfl,(blk_cell (HT.out.below (below_drew (Below.refl wq.heap.size wq))).a 3).trans rfl,(blk_cell (HT.out.below (below_drew (Below.refl wq.heap.size wq))).a 4).trans rfl,(blk_cell (HT.out.below (below_drew (Below.refl wq.heap.size wq))).a 5).trans rfl,(blk_cell (HT.out.below (below_drew (Below.refl wq.heap.size wq))).a 6).trans rfl,HCX.out⟩ (fun hHeld=>?_)
   refine with_tabW O22t.tab O22t.bits (fun HT_ HW_=>?_)
   have hb:=below_drew (Below.refl wq.heap.size wq)
   have HCX1:Aside0 (wq.drew.cell? (ad.add i_)=some (.int .i64 x)):=⟨(hb.cell (World.block_lt_of_cell? _ _ HCX.out)).trans HCX.out⟩
   clear HCX
   have HCX:=HCX1
   clear HCX1
   have HT1_:=Aside0.mk (HT.out.below hb)
   clear HT
   have HT:=HT1_
   clear HT1_
   have HCww1_:=Aside0.mk (And.intro (Kd.C_below HCww.out.1 hb) HCww.out.2)
   clear HCww
   have HCww:=HCww1_
   clear HCww1_
   have HQ1_:=Aside0.mk (Kd.S_below HQ.out hb)
   clear HQ
   have HQ:=HQ1_
   clear HQ1_
   have HR1_:=Aside0.mk (And.intro (Kd.C_below HR.out.1 hb) (And.intro HR.out.2.1 (RawsOf.below hb HR.out.2.2)))
   clear HR
   have HR:=HR1_
   clear HR1_
   clear hb
   obtain⟨wd,hwd⟩:∃W:World,W=wq.drew:=⟨_,rfl⟩
   rw [←hwd] at HT HCww HQ HR HCX hHeld ⊢
   clear hwd
   try clear wq
   obtain⟨wq,rfl⟩:∃W:World,W=wd:=⟨_,rfl⟩
   iterate 8 (first|(refine pn_ (v:=?_) (a':=?_) rfl (rfl (a:=some _)) (any_of HT_.out (by kernel_rfl)) (fun _ _ _ h=>h) (Or.inl ⟨by rfl,?_⟩) ?_ ?_;rotate_left;(intro w';go_simp;with_reducible rfl);rotate_left;(simp only [Act.put,M.sq3,i64_w,i32_w];rfl))|(refine tn_ (v:=?_) (a':=?_) rfl (rfl (a:=some _)) (take_ofW HT_.out HW_.out (by kernel_rfl)) (fun _ _ _ h=>h) (Or.inl ⟨by rfl,?_⟩) hHeld ?_ ?_;rotate_left;(intro w' hS_;obtain⟨s0,s1,s2,s3,s4,s5,s6,s7⟩:=hS_;go_simp;with_reducible rfl);rotate_left;(simp only [Act.put,M.sq3,i64_w,i32_w];rfl)))
   refine one_ (i:=8) (N:=(some 99)) (pm 9 2) rfl rfl (one_of HT_.out (by kernel_rfl)) (by decide) (fun K hK=>?_)
   refine goes_ Try.func22 (by kernel_rfl) rfl #[.slice AS S.length cS,.agg #[.int .i64 N,.int .i64 G,.slice Z2 i.length z2,.slice Z3 st.f.length z3,.slice Z4 st.o.length z4,.slice Z5 st.c.length z5,.slice Z6 st.n.length z6],.slice RA rs.length rc,.int .i64 x] rfl rfl rfl (by(try simp only [List.map_toArray,List.map_cons,List.map_nil]);rfl) ?_
   refine(steps_own AS cS S.length N G Z2 z2 i Z3 z3 (st.f) Z4 z4 (st.o) Z5 z5 (st.c) Z6 z6 (st.n) RA rc rs rl x _ HT.out.a2.1 HT.out.a2.2 (Nat.le_trans HIN.out.2 (by decide)) HT.out.a3.1 HT.out.a3.2 (Nat.le_trans HLEN.out.2.1 (by decide)) HT.out.a4.1 HT.out.a4.2 (Nat.le_trans HLEN.out.2.2.1 (by decide)) HT.out.a5.1 HT.out.a5.2 (Nat.le_trans HLEN.out.2.2.2.1 (by decide)) HT.out.a6.1 HT.out.a6.2 (Nat.le_trans HLEN.out.2.2.2.2 (by decide)) HR.out.1 HR.out.2.1 HR.out.2.2 HMM.out HPY.out).mono ?_
   rintro e we ⟨RB,rb,rt,rfl,hr1,hr2,hr3,hb⟩
   have HRN:Aside0 (Kd.C kRaw we RB rt.length rt∧rt.length≤rb∧RawsOf we rt (p'.map toR)):=⟨hr1,hr2,by rw [HSS.out];exact hr3⟩
   clear hr1 hr2 hr3 HR HMM
   have HR:=HRN
   clear HRN
   have HCX1:=Aside0.mk ((hb.cell (World.block_lt_of_cell? _ _ HCX.out)).trans HCX.out)
   clear HCX
   have HCX:=HCX1
   clear HCX1
   have HT1_:=Aside0.mk (HT.out.below hb)
   clear HT
   have HT:=HT1_
   clear HT1_
   have HCww1_:=Aside0.mk (And.intro (Kd.C_below HCww.out.1 hb) HCww.out.2)
   clear HCww
   have HCww:=HCww1_
   clear HCww1_
   have HQ1_:=Aside0.mk (Kd.S_below HQ.out hb)
   clear HQ
   have HQ:=HQ1_
   clear HQ1_
   clear hb hHeld
   refine⟨_,rfl,?_⟩
   refine hK.out _ _ ⟨(blk_cell HT.out.a 0).trans rfl,(blk_cell HT.out.a 1).trans rfl,(blk_cell HT.out.a 2).trans rfl,(blk_cell HT.out.a 3).trans rfl,(blk_cell HT.out.a 4).trans rfl,(blk_cell HT.out.a 5).trans rfl,(blk_cell HT.out.a 6).trans rfl,HCX.out⟩ (fun hHeld=>?_)
   clear hK K
   obtain⟨wq,rfl⟩:∃wq:World,wq=we:=⟨_,rfl⟩
   refine norm_ (a':=?_) ?_ ?_
   rotate_left
   ·show Act.put _ (some 99) _ = _
    simp only [Act.put,M.sq3,i64_w,i32_w]
    rfl
   iterate 2 (refine pn_ (v:=?_) (a':=?_) rfl (rfl (a:=some _)) (any_of HT_.out (by kernel_rfl)) (fun _ _ _ h=>h) (Or.inl ⟨by rfl,?_⟩) ?_ ?_;rotate_left;(intro w';go_simp;with_reducible rfl);rotate_left;(simp only [Act.put,M.sq3,i64_w,i32_w];rfl))
   refine done_ (done_of HT_.out (by kernel_rfl)) ?_
   clear HCX hHeld s3 s4
   -- MARK19
   go_wp2
   go_roundg (ww.length - (i_+1))
   case measure=>have:=Hi.out;have:=HLT.out;omega
   case rel=>exact⟨i_+1,RB,rb,rt,rfl,by first|rfl|rw [show wrap64 ((i_:Int)+1)=((i_+1:Nat):Int) by have:=HLT.out;have:=HFww.out.2.1;unfold wrap64;omega],⟨HLT.out,Nat.le_refl _⟩,HT,HCww,⟨by rw [←HP'.out];exact HQ.out⟩,⟨HR.out.1,HR.out.2.1,by rw [←HP'.out];exact HR.out.2.2⟩⟩
 have hop:opensIn S (ww.take i_)≤5:=Nat.le_trans (opens_take S ww i_) (by have:=HFww.out.2.2;omega)
 have hmem:∀s∈ww.take i_,0≤s∧s < S.length:=fun s hs=>HFww.out.1 s (List.mem_of_mem_take hs)
 have hpb:=HPB.out _ hmem hop
 obtain⟨p,hp⟩:∃p,p=(runL S st.o st.c st.n (startL i) (ww.take i_)):=⟨_,rfl⟩
 rw [←hp] at HP hpb HR ⊢
 obtain⟨rl,hrl⟩:∃r,r=p.map toR:=⟨_,rfl⟩
 have hae:=as_eq p (by have:=hpb.1;omega) K_ (by have:=HKK.out;omega)
 rw [←hrl] at hae
 have hrll:rl.length≤1000000:=by rw [hrl,List.length_map];have:=hpb.1;omega
 have hse:=rsame_eq rl hrll (fun y hy=>by rw [hrl] at hy;obtain⟨z,hz,rfl⟩:=List.mem_map.1 hy;exact Nat.le_trans (hpb.2 z hz) (by decide)) K_ (by have:=HKK.out;omega)
 rw [←hrl] at HR
 have HAE:=Aside0.mk hae
 have HSE:=Aside0.mk hse
 have HPX:=Aside0.mk hp
 have HRL:=Aside0.mk hrl
 have hlen:=HR.out.2.2.len
 rw [hlen]
 have HLN:=Aside0.mk hlen
 clear hae hse hrll hlen
 clear hop hmem hpb hp hrl HPX HRL
 have s3:=eq_false (show ¬(i_:Int) < (ww.length:Int) by omega)
 -- MARK20
 go_wp2_with fail
 refine(canopylaw4_as.calls K_ (fun _=>True) PA pc p rl _ (Kd.S_V HP.out) HAE.out).mono ?_
 rintro e wn ⟨va,rfl,hn,hb⟩
 obtain⟨VA,vc,rfl,hv1,hv2⟩:=Kd.N_reads hn
 have HVC:=Aside0.mk (And.intro hv1 hv2)
 clear hn hv1 hv2
 have HT1_:=Aside0.mk (HT.out.below hb)
 clear HT
 have HT:=HT1_
 clear HT1_
 have HCww1_:=Aside0.mk (And.intro (Kd.C_below HCww.out.1 hb) HCww.out.2)
 clear HCww
 have HCww:=HCww1_
 clear HCww1_
 have HP1_:=Aside0.mk (Kd.S_below HP.out hb)
 clear HP
 have HP:=HP1_
 clear HP1_
 have HR1_:=Aside0.mk (And.intro (Kd.C_below HR.out.1 hb) (And.intro HR.out.2.1 (RawsOf.below hb HR.out.2.2)))
 clear HR
 have HR:=HR1_
 clear HR1_
 clear hb
 go_wp2_with fail
 refine(canopyref4_Same.calls K_ VA vc rl RA rc rl true _ HVC.out.2 HVC.out.1 (raws_to (by rw [←HLN.out];exact HR.out.1) HR.out.2.2) (by rw [←HLN.out];exact HR.out.2.1) HSE.out).mono ?_
 rintro e we ⟨rfl,hd⟩
 have hb:=hd.below
 have HT1_:=Aside0.mk (HT.out.below hb)
 clear HT
 have HT:=HT1_
 clear HT1_
 have HCww1_:=Aside0.mk (And.intro (Kd.C_below HCww.out.1 hb) HCww.out.2)
 clear HCww
 have HCww:=HCww1_
 clear HCww1_
 have HP1_:=Aside0.mk (Kd.S_below HP.out hb)
 clear HP
 have HP:=HP1_
 clear HP1_
 have HR1_:=Aside0.mk (And.intro (Kd.C_below HR.out.1 hb) (And.intro HR.out.2.1 (RawsOf.below hb HR.out.2.2)))
 clear HR
 have HR:=HR1_
 clear HR1_
 clear hd hb HVC
 go_wp2
 go_ret
 exact⟨rfl,HT.out.b⟩
theorem canopylaw4_RunsOwn.walk (P:canopylaw4_RunsOwn.Pure) (a0:Int) (a1:Int) (a2:Option Addr) (len2 cap2:Nat) (z2:List Int) (a3:Option Addr) (len3 cap3:Nat) (z3:List Int) (w:World) (w0:(Lit.int .i64 a0).wf=true) (w1:(Lit.int .i64 a1).wf=true) (w2:(a2=none∧len2=0∧cap2=0∧z2 = [])∨∃x,a2=some x∧len2≤cap2∧cap2≤maxLen∧z2.length=cap2∧(∀i,i < z2.length→w.cell? (x.add i)=some (.int .i64 (z2.getD i 0)))∧∀n∈z2,(Lit.int .i64 n).wf=true) (y2:len2*8≤140737488351232) (w3:(a3=none∧len3=0∧cap3=0∧z3 = [])∨∃x,a3=some x∧len3≤cap3∧cap3≤maxLen∧z3.length=cap3∧(∀i,i < z3.length→w.cell? (x.add i)=some (.int .i64 (z3.getD i 0)))∧∀n∈z3,(Lit.int .i64 n).wf=true) (y3:len3*8≤140737488351232) :
 Calls Try.prog 11 #[.int .i64 a0,.int .i64 a1,.slice a2 len2 cap2,.slice a3 len3 cap3] w fun e w'=>e=.returned (.bool true)∧Below w.heap.size w w':=by
 obtain⟨l2,rfl,hr2,hm2,hw2,hc2⟩:=ReadsInt.ofRowC w2
 obtain⟨l3,rfl,hr3,hm3,hw3,hc3⟩:=ReadsInt.ofRowC w3
 exact rown_walk a0 a1 _ _ l2 _ _ l3 w (Kd.C_of_reads (d:=(0:Int)) (h1:=fun _=>rfl) hr2) hc2 hm2 (Kd.C_of_reads (d:=(0:Int)) (h1:=fun _=>rfl) hr3) hc3 hm3
end Go.Proofs.Ytjkhdldgmkkhjaa.P
