/- Words and walks of this claim: LRNorm. -/
import Derived.Test.YtjkhdldgmkkhjaaJMFar
import Derived.Test.YtjkhdldgmkkhjaaJURNormEtc
import Derived.Test.YtjkhdldgmkkhjaaJSMake
import Derived.Test.YtjkhdldgmkkhjaaJSStepEtc
import Derived.Test.YtjkhdldgmkkhjaaJSTakes
import Derived.Test.YtjkhdldgmkkhjaaJP0Etc
import Derived.Test.YtjkhdldgmkkhjaaJUTyEtc
import Derived.BigQuiet
set_option linter.unusedVariables false
set_option linter.unusedSimpArgs false
set_option linter.unnecessarySimpa false
namespace Go.Proofs.Ytjkhdldgmkkhjaa.P
open Go.RowKit Go.Sort Go.Shelf Go.Proofs.YtjkhdldgmkkhjaaW.PrintWords Go.Proofs.YtjkhdldgmkkhjaaW.PrintLast Go.Proofs.YtjkhdldgmkkhjaaW.PrintMore Go.Proofs.Ytjkhdldgmkkhjaa.M
theorem rt_cells {w:World} {g t:Nat} {a b c d e f h:Value} (H:w.heap[g]? = some (.cells #[a,b,c,d,e,f,h] t (0,0))):w.cell? ⟨g,0,none⟩=some a∧w.cell? ⟨g,1,none⟩=some b∧w.cell? ⟨g,2,none⟩=some c∧w.cell? ⟨g,3,none⟩=some d∧w.cell? ⟨g,4,none⟩=some e∧w.cell? ⟨g,5,none⟩=some f∧w.cell? ⟨g,6,none⟩=some h:=
 ⟨(blk_cell H 0).trans rfl,(blk_cell H 1).trans rfl,(blk_cell H 2).trans rfl,(blk_cell H 3).trans rfl,(blk_cell H 4).trans rfl,(blk_cell H 5).trans rfl,(blk_cell H 6).trans rfl⟩
def mkJ (st:MSt):List Int:=if (st.i.length:Int)=0 then [0] else st.i
structure NT (w wq:World) (AS:Option Addr) (cS:Nat) (S:List S46) (ga gb:Nat) (N G:Int) (Z2:Option Addr) (z2:Nat) (x2:List Int) (Z3:Option Addr) (z3:Nat) (x3:List Int) (Z4:Option Addr) (z4:Nat) (x4:List TOpen) (Z5:Option Addr) (z5:Nat) (x5:List TClose) (Z6:Option Addr) (z6:Nat) (x6:List TInner) (Y2:Option Addr) (y2:Nat) (y2_:List Int) (Y3:Option Addr) (y3:Nat) (y3_:List Int) (Y4:Option Addr) (y4:Nat) (y4_:List TOpen) (Y5:Option Addr) (y5:Nat) (y5_:List TClose) (Y6:Option Addr) (y6:Nat) (y6_:List TInner):Prop where
 b:Below w.heap.size w wq
 s:Kd.R k46 46 wq w.heap.size (fun _=>True) (.slice AS S.length cS) S
 a2:Kd.C (Kd.int .i64) wq Z2 x2.length x2∧x2.length≤z2
 a3:Kd.C (Kd.int .i64) wq Z3 x3.length x3∧x3.length≤z3
 a4:Kd.C k52 wq Z4 x4.length x4∧x4.length≤z4
 a5:Kd.C k54 wq Z5 x5.length x5∧x5.length≤z5
 a6:Kd.C k56 wq Z6 x6.length x6∧x6.length≤z6
 n2:Kd.C (Kd.int .i64) wq Y2 y2_.length y2_∧y2_.length≤y2
 n3:Kd.C (Kd.int .i64) wq Y3 y3_.length y3_∧y3_.length≤y3
 n4:Kd.C k52 wq Y4 y4_.length y4_∧y4_.length≤y4
 n5:Kd.C k54 wq Y5 y5_.length y5_∧y5_.length≤y5
 n6:Kd.C k56 wq Y6 y6_.length y6_∧y6_.length≤y6
 a:wq.heap[ga]? = some (.cells #[.int .i64 N,.int .i64 G,.slice Z2 x2.length z2,.slice Z3 x3.length z3,.slice Z4 x4.length z4,.slice Z5 x5.length z5,.slice Z6 x6.length z6] 30 (0,0))
 t:wq.heap[gb]? = some (.cells #[.int .i64 N,.int .i64 G,.slice Y2 y2_.length y2,.slice Y3 y3_.length y3,.slice Y4 y4_.length y4,.slice Y5 y5_.length y5,.slice Y6 y6_.length y6] 30 (0,0))
theorem NT.below {w wq w' : World} {AS:Option Addr} {cS:Nat} {S:List S46} {ga gb:Nat} {N G:Int} {Z2:Option Addr} {z2:Nat} {x2:List Int} {Z3:Option Addr} {z3:Nat} {x3:List Int} {Z4:Option Addr} {z4:Nat} {x4:List TOpen} {Z5:Option Addr} {z5:Nat} {x5:List TClose} {Z6:Option Addr} {z6:Nat} {x6:List TInner} {Y2:Option Addr} {y2:Nat} {y2_:List Int} {Y3:Option Addr} {y3:Nat} {y3_:List Int} {Y4:Option Addr} {y4:Nat} {y4_:List TOpen} {Y5:Option Addr} {y5:Nat} {y5_:List TClose} {Y6:Option Addr} {y6:Nat} {y6_:List TInner} (h:NT w wq AS cS S ga gb N G Z2 z2 x2 Z3 z3 x3 Z4 z4 x4 Z5 z5 x5 Z6 z6 x6 Y2 y2 y2_ Y3 y3 y3_ Y4 y4 y4_ Y5 y5 y5_ Y6 y6 y6_) (hb:Below wq.heap.size wq w'):NT w w' AS cS S ga gb N G Z2 z2 x2 Z3 z3 x3 Z4 z4 x4 Z5 z5 x5 Z6 z6 x6 Y2 y2 y2_ Y3 y3 y3_ Y4 y4 y4_ Y5 y5 y5_ Y6 y6 y6_:=
 ⟨below_then h.b h.b.size hb,Kd.R_below h.s hb,⟨Kd.C_below h.a2.1 hb,h.a2.2⟩,⟨Kd.C_below h.a3.1 hb,h.a3.2⟩,⟨Kd.C_below h.a4.1 hb,h.a4.2⟩,⟨Kd.C_below h.a5.1 hb,h.a5.2⟩,⟨Kd.C_below h.a6.1 hb,h.a6.2⟩,⟨Kd.C_below h.n2.1 hb,h.n2.2⟩,⟨Kd.C_below h.n3.1 hb,h.n3.2⟩,⟨Kd.C_below h.n4.1 hb,h.n4.2⟩,⟨Kd.C_below h.n5.1 hb,h.n5.2⟩,⟨Kd.C_below h.n6.1 hb,h.n6.2⟩,blk_below h.a hb,blk_below h.t hb⟩
theorem NT.kept {w wq wb W_:World} {AS:Option Addr} {cS:Nat} {S:List S46} {ga gb:Nat} {N G:Int} {Z2:Option Addr} {z2:Nat} {x2:List Int} {Z3:Option Addr} {z3:Nat} {x3:List Int} {Z4:Option Addr} {z4:Nat} {x4:List TOpen} {Z5:Option Addr} {z5:Nat} {x5:List TClose} {Z6:Option Addr} {z6:Nat} {x6:List TInner} {Y2:Option Addr} {y2:Nat} {y2_:List Int} {Y3:Option Addr} {y3:Nat} {y3_:List Int} {Y4:Option Addr} {y4:Nat} {y4_:List TOpen} {Y5:Option Addr} {y5:Nat} {y5_:List TClose} {Y6:Option Addr} {y6:Nat} {y6_:List TInner} (h:NT w wq AS cS S ga gb N G Z2 z2 x2 Z3 z3 x3 Z4 z4 x4 Z5 z5 x5 Z6 z6 x6 Y2 y2 y2_ Y3 y3 y3_ Y4 y4 y4_ Y5 y5 y5_ Y6 y6 y6_) (hb:Below wq.heap.size wq wb) (hk:Kept wb W_ (fun k=>wq.heap.size≤k)):Kd.C k46 W_ AS S.length S:=
 (Kd.R_reads' (Kd.R_step h.s (fun k _ hlt=>(hk.2 k (Nat.lt_of_lt_of_le hlt hb.size) (Nat.not_le_of_lt hlt)).trans (hb.block k hlt)))).2.2
def N7t.T:Bool × List (List Nat × List Nat):=(true,[([],[]),([],[]),([1],[1]),([0,2],[0,2]),([],[]),([4],[4]),([3,5,3],[3,5]),([],[]),([],[]),([8],[8]),([7,9,6],[7,9]),([],[]),([11],[11]),([10,12,10],[10,12]),([0,1,2,3,4,5,6],[]),([14,6,13,0,1,2,3,4,5,6],[6,14]),([0,1,2,3,4,5,6,7,8,9,10,11,12,13,14,15],[]),([16,13,15,0,1,2,3,4,5,6,7,8,9,10,11,12,13,14,15],[13,16])])
def N7t.B:List Nat:=[0,0,2,7,0,16,63,0,0,256,1023,0,2048,8191,127,32767,65535,131071]
theorem N7t.tab:rtab .any (opsOf Try.f4 7)=N7t.T:=by kernel_rfl
theorem N7t.bits:waitsOk N7t.T.2 N7t.B=true:=by kernel_rfl
def N9t.T:Bool × List (List Nat × List Nat):=(true,[([],[]),([],[]),([],[]),([0,1,2],[0,1,2]),([],[]),([],[]),([],[]),([4,5,6,3],[4,5,6]),([3,7],[3,7]),([8,7],[8]),([9],[9]),([9],[9]),([9],[9]),([10,11,12,9,9],[9,10,11,12]),([9],[9]),([9],[9]),([9],[9]),([14,15,16,13,9],[9,14,15,16]),([13,17,9],[9,13,17]),([9,18],[9,18]),([19,17,0,1,2,3,4,5,6,7,8,9,10,11,12,13,14,15,16,17,18,19],[19])])
def N9t.B:List Nat:=[0,0,0,7,0,0,0,127,255,511,1023,1023,1023,8191,1023,1023,1023,131071,262143,524287,1048575]
theorem N9t.tab:rtab .any (opsOf Try.f4 9)=N9t.T:=by kernel_rfl
theorem N9t.bits:waitsOk N9t.T.2 N9t.B=true:=by kernel_rfl
def canopylaw4_RunsNorm.Pure:Prop:=True
set_option maxHeartbeats 16000000 in
set_option maxRecDepth 100000 in
theorem rnorm_walk (a0 a1:Int) (A2:Option Addr) (c2:Nat) (ns_:List Int) (A3:Option Addr) (c3:Nat) (ws_:List Int) (w:World) (hr2:Kd.C (Kd.int .i64) w A2 ns_.length ns_) (hc2:ns_.length≤c2) (hm2:ns_.length≤maxLen) (hr3:Kd.C (Kd.int .i64) w A3 ws_.length ws_) (hc3:ws_.length≤c3) (hm3:ws_.length≤maxLen) :
 Calls Try.prog 4 #[.int .i64 a0,.int .i64 a1,.slice A2 ns_.length c2,.slice A3 ws_.length c3] w fun e w'=>e=.returned (.bool true)∧Below w.heap.size w w':=by
 obtain⟨S,hS,hOk⟩:∃S,canopylaw1_Syms.f a0 ns_=some S∧symOk S:=⟨_,syms_eq a0 ns_ hm2,symsL_ok a0 ns_⟩
 have hN:=makeN_in a1 (most:=4) (by decide)
 have hG:=makeG_in a1
 obtain⟨hI,hL⟩:=mkAll_inv hOk (N:=makeN a1 4) (G:=makeG a1) (by omega) (by omega) ns_
 have HS0:=Aside0.mk (And.intro hS hOk)
 have HLEN:=Aside0.mk hL
 have HI2:=Aside0.mk (And.intro hr2 hc2)
 have HI3:=Aside0.mk (And.intro hr3 (And.intro hc3 hm3))
 clear hS hOk hI hL hN hG hr2 hc2 hm2 hr3 hc3 hm3
 go_enter Try.func4,Try.ntmps4
 go_wp2_with fail
 refine(canopylaw4_known.calls true _ rfl).mono ?_
 rintro e w1 ⟨rfl,hb1⟩
 have HB1:Aside0 (Below w.heap.size w w1):=⟨hb1⟩
 clear hb1
 go_wp2_with fail
 refine(canopylaw1_Syms.calls a0 A2 c2 ns_ S _ (Kd.C_below HI2.out.1 HB1.out) HI2.out.2 HS0.out.1).mono ?_
 rintro e w2 ⟨v1,rfl,hr1,hb2⟩
 obtain⟨AS,cS,rfl⟩:=Kd.R_slice hr1
 have HS:Aside0 (Kd.R k46 46 w2 w.heap.size (fun _=>True) (.slice AS S.length cS) S):=⟨Kd.R_mono (Kd.R_lower hr1 HB1.out.size) (fun _ _=>trivial)⟩
 have HB2:=Aside0.mk (below_then HB1.out HB1.out.size hb2)
 clear hr1 hb2 HB1
 go_wp2_with fail
 refine(make_own AS cS S a1 A2 c2 ns_ 4 _ (Kd.R_reads' HS.out).2.2 (Kd.R_reads' HS.out).2.1 (Kd.C_below HI2.out.1 HB2.out) HS0.out.2 (by decide) (by decide)).mono ?_
 rintro e w3 ⟨v2,v3,v4,v5,v6,rfl,hv,hb3⟩
 obtain⟨st,hst⟩:∃st,st=mkAll S (makeN a1 4) (makeG a1) ns_:=⟨_,rfl⟩
 rw [←hst] at HLEN hv
 obtain⟨N,hN⟩:∃N,N=makeN a1 4:=⟨_,rfl⟩
 obtain⟨G,hG⟩:∃G,G=makeG a1:=⟨_,rfl⟩
 rw [←hN,←hG] at hv ⊢
 have HV:Aside0 (OutV w3 w2.heap.size v2 v3 v4 v5 v6 (mkJ st) st.f st.o st.c st.n):=⟨hv⟩
 have HB3:=Aside0.mk (below_then HB2.out HB2.out.size hb3)
 have HS3:=Aside0.mk (Kd.R_below HS.out hb3)
 clear hst hN hG hv hb3 HB2 HS
 have HLI:Aside0 ((mkJ st).length≤25∧st.f.length≤24∧st.o.length≤24∧st.c.length≤24∧st.n.length≤24):=⟨by
  unfold mkJ
  obtain⟨h1,h2,h3,h4,h5⟩:=HLEN.out
  refine⟨?_,h2,h3,h4,h5⟩
  split
  ·simp
  omega⟩
 obtain⟨i,hi⟩:∃i,i=mkJ st:=⟨_,rfl⟩
 rw [←hi] at HV HLI
 clear hi HLEN
 have q2:=HV.out.r2
 have q3:=HV.out.r3
 have q4:=HV.out.r4
 have q5:=HV.out.r5
 have q6:=HV.out.r6
 obtain⟨Z2,z2,rfl⟩:=Kd.R_slice q2
 obtain⟨Z3,z3,rfl⟩:=Kd.R_slice q3
 obtain⟨Z4,z4,rfl⟩:=Kd.R_slice q4
 obtain⟨Z5,z5,rfl⟩:=Kd.R_slice q5
 obtain⟨Z6,z6,rfl⟩:=Kd.R_slice q6
 clear q2 q3 q4 q5 q6
 have HA3:Aside0 ((w3.alloc (.cells #[.int .i64 N,.int .i64 G,.slice Z2 i.length z2,.slice Z3 st.f.length z3,.slice Z4 st.o.length z4,.slice Z5 st.c.length z5,.slice Z6 st.n.length z6] 30)).heap[w3.heap.size]? = some (.cells #[.int .i64 N,.int .i64 G,.slice Z2 i.length z2,.slice Z3 st.f.length z3,.slice Z4 st.o.length z4,.slice Z5 st.c.length z5,.slice Z6 st.n.length z6] 30 (0,0))):=⟨blk_newAt _ rfl⟩
 have HB3a:=Aside0.mk (below_alloc HB3.out (.cells #[.int .i64 N,.int .i64 G,.slice Z2 i.length z2,.slice Z3 st.f.length z3,.slice Z4 st.o.length z4,.slice Z5 st.c.length z5,.slice Z6 st.n.length z6] 30))
 have HS3a:=Aside0.mk (Kd.R_alloc HS3.out (.cells #[.int .i64 N,.int .i64 G,.slice Z2 i.length z2,.slice Z3 st.f.length z3,.slice Z4 st.o.length z4,.slice Z5 st.c.length z5,.slice Z6 st.n.length z6] 30))
 have HR2:=Aside0.mk (And.intro (Kd.C_below (Kd.R_reads' HV.out.r2).2.2 (below_alloc (Below.refl _ _) (.cells #[.int .i64 N,.int .i64 G,.slice Z2 i.length z2,.slice Z3 st.f.length z3,.slice Z4 st.o.length z4,.slice Z5 st.c.length z5,.slice Z6 st.n.length z6] 30))) (Kd.R_reads' HV.out.r2).2.1)
 have HR3:=Aside0.mk (And.intro (Kd.C_below (Kd.R_reads' HV.out.r3).2.2 (below_alloc (Below.refl _ _) (.cells #[.int .i64 N,.int .i64 G,.slice Z2 i.length z2,.slice Z3 st.f.length z3,.slice Z4 st.o.length z4,.slice Z5 st.c.length z5,.slice Z6 st.n.length z6] 30))) (Kd.R_reads' HV.out.r3).2.1)
 have HR4:=Aside0.mk (And.intro (Kd.C_below (Kd.R_reads' HV.out.r4).2.2 (below_alloc (Below.refl _ _) (.cells #[.int .i64 N,.int .i64 G,.slice Z2 i.length z2,.slice Z3 st.f.length z3,.slice Z4 st.o.length z4,.slice Z5 st.c.length z5,.slice Z6 st.n.length z6] 30))) (Kd.R_reads' HV.out.r4).2.1)
 have HR5:=Aside0.mk (And.intro (Kd.C_below (Kd.R_reads' HV.out.r5).2.2 (below_alloc (Below.refl _ _) (.cells #[.int .i64 N,.int .i64 G,.slice Z2 i.length z2,.slice Z3 st.f.length z3,.slice Z4 st.o.length z4,.slice Z5 st.c.length z5,.slice Z6 st.n.length z6] 30))) (Kd.R_reads' HV.out.r5).2.1)
 have HR6:=Aside0.mk (And.intro (Kd.C_below (Kd.R_reads' HV.out.r6).2.2 (below_alloc (Below.refl _ _) (.cells #[.int .i64 N,.int .i64 G,.slice Z2 i.length z2,.slice Z3 st.f.length z3,.slice Z4 st.o.length z4,.slice Z5 st.c.length z5,.slice Z6 st.n.length z6] 30))) (Kd.R_reads' HV.out.r6).2.1)
 clear HV HS3 HB3
 go_upto_region 5 with (fail)
 obtain⟨wq,hwq⟩:∃W:World,W=w3.alloc (.cells #[.int .i64 N,.int .i64 G,.slice Z2 i.length z2,.slice Z3 st.f.length z3,.slice Z4 st.o.length z4,.slice Z5 st.c.length z5,.slice Z6 st.n.length z6] 30):=⟨_,rfl⟩
 obtain⟨ga,hga⟩:∃g,g=w3.heap.size:=⟨_,rfl⟩
 rw [←hwq,←hga] at HA3
 rw [←hwq] at HB3a HS3a HR2 HR3 HR4 HR5 HR6
 rw [←hwq,←hga]
 clear hwq hga w3
 obtain⟨b0,b1,b2,b3,b4,b5,b6⟩:=rt_cells HA3.out
 go_wp2_with fail
 refine(refnorm_own N G Z2 z2 i Z3 z3 (st.f) Z4 z4 (st.o) Z5 z5 (st.c) Z6 z6 (st.n) wq HR2.out.1 HR2.out.2 (by have:=HLI.out.1;omega) HR3.out.1 HR3.out.2 (by have:=HLI.out.2.1;omega) HR4.out.1 HR4.out.2 (by have:=HLI.out.2.2.1;omega) HR5.out.1 HR5.out.2 (by have:=HLI.out.2.2.2.1;omega) HR6.out.1 HR6.out.2 (by have:=HLI.out.2.2.2.2;omega)).mono ?_
 rintro e w4 ⟨u2,u3,u4,u5,u6,rfl,hv,hb4⟩
 obtain⟨l2,hl2⟩:∃l,l=onceC cmpInt i:=⟨_,rfl⟩
 obtain⟨l3,hl3⟩:∃l,l=onceC cmpInt st.f:=⟨_,rfl⟩
 obtain⟨l4,hl4⟩:∃l,l=(onceC cmpOpen (st.o.map toOpen4)).map ofOpen4:=⟨_,rfl⟩
 obtain⟨l5,hl5⟩:∃l,l=(onceC cmpOpen (st.c.map toOpen5)).map ofOpen5:=⟨_,rfl⟩
 obtain⟨l6,hl6⟩:∃l,l=(onceC cmpOpen (st.n.map toOpen6)).map ofOpen6:=⟨_,rfl⟩
 have HTK:Aside0 (∀u:List Int,(∀s∈u,0≤s∧s < S.length)→takesB S l2 l3 l4 l5 l6 u=takesB S i st.f st.o st.c st.n u):=⟨fun u hu=>by rw [hl2,hl3,hl4,hl5,hl6];exact takes_norm hu⟩
 have HLN:Aside0 (l2.length≤25∧l3.length≤24∧l4.length≤24∧l5.length≤24∧l6.length≤24):=⟨by
  have h:=HLI.out
  have h2:=once_len1 totalInt i
  have h3:=once_len1 totalInt st.f
  have h4:=once_len1 totalOpen (st.o.map toOpen4)
  have h5:=once_len1 totalOpen (st.c.map toOpen5)
  have h6:=once_len1 totalOpen (st.n.map toOpen6)
  rw [List.length_map] at h4 h5 h6
  rw [hl2,hl3,hl4,hl5,hl6,List.length_map,List.length_map,List.length_map]
  omega⟩
 rw [←hl2,←hl3,←hl4,←hl5,←hl6] at hv
 clear hl2 hl3 hl4 hl5 hl6
 have q2:=hv.r2
 have q3:=hv.r3
 have q4:=hv.r4
 have q5:=hv.r5
 have q6:=hv.r6
 obtain⟨Y2,y2,rfl⟩:=Kd.R_slice q2
 obtain⟨Y3,y3,rfl⟩:=Kd.R_slice q3
 obtain⟨Y4,y4,rfl⟩:=Kd.R_slice q4
 obtain⟨Y5,y5,rfl⟩:=Kd.R_slice q5
 obtain⟨Y6,y6,rfl⟩:=Kd.R_slice q6
 have hbt:Below w4.heap.size w4 (w4.alloc (.cells #[.int .i64 N,.int .i64 G,.slice Y2 l2.length y2,.slice Y3 l3.length y3,.slice Y4 l4.length y4,.slice Y5 l5.length y5,.slice Y6 l6.length y6] 30)):=below_alloc (Below.refl _ _) _
 have HK:Aside0 (NT w (w4.alloc (.cells #[.int .i64 N,.int .i64 G,.slice Y2 l2.length y2,.slice Y3 l3.length y3,.slice Y4 l4.length y4,.slice Y5 l5.length y5,.slice Y6 l6.length y6] 30)) AS cS S ga w4.heap.size N G Z2 z2 i Z3 z3 (st.f) Z4 z4 (st.o) Z5 z5 (st.c) Z6 z6 (st.n) Y2 y2 l2 Y3 y3 l3 Y4 y4 l4 Y5 y5 l5 Y6 y6 l6):=⟨⟨below_then (below_then HB3a.out HB3a.out.size hb4) (below_then HB3a.out HB3a.out.size hb4).size hbt,Kd.R_below (Kd.R_below HS3a.out hb4) hbt,⟨Kd.C_below (Kd.C_below HR2.out.1 hb4) hbt,HR2.out.2⟩,⟨Kd.C_below (Kd.C_below HR3.out.1 hb4) hbt,HR3.out.2⟩,⟨Kd.C_below (Kd.C_below HR4.out.1 hb4) hbt,HR4.out.2⟩,⟨Kd.C_below (Kd.C_below HR5.out.1 hb4) hbt,HR5.out.2⟩,⟨Kd.C_below (Kd.C_below HR6.out.1 hb4) hbt,HR6.out.2⟩,⟨Kd.C_below (Kd.R_reads' hv.r2).2.2 hbt,(Kd.R_reads' hv.r2).2.1⟩,⟨Kd.C_below (Kd.R_reads' hv.r3).2.2 hbt,(Kd.R_reads' hv.r3).2.1⟩,⟨Kd.C_below (Kd.R_reads' hv.r4).2.2 hbt,(Kd.R_reads' hv.r4).2.1⟩,⟨Kd.C_below (Kd.R_reads' hv.r5).2.2 hbt,(Kd.R_reads' hv.r5).2.1⟩,⟨Kd.C_below (Kd.R_reads' hv.r6).2.2 hbt,(Kd.R_reads' hv.r6).2.1⟩,blk_below (blk_below HA3.out hb4) hbt,blk_newAt _ rfl⟩⟩
 clear q2 q3 q4 q5 q6 hv hb4 hbt HB3a HS3a HA3 HR2 HR3 HR4 HR5 HR6 b0 b1 b2 b3 b4 b5 b6
 go_upto_region 6 with (fail)
 clear wq
 obtain⟨wq,hwq⟩:∃W:World,W=w4.alloc (.cells #[.int .i64 N,.int .i64 G,.slice Y2 l2.length y2,.slice Y3 l3.length y3,.slice Y4 l4.length y4,.slice Y5 l5.length y5,.slice Y6 l6.length y6] 30):=⟨_,rfl⟩
 obtain⟨gb,hgb⟩:∃g,g=w4.heap.size:=⟨_,rfl⟩
 rw [←hwq,←hgb] at HK
 rw [←hwq,←hgb]
 clear hwq hgb w4
 obtain⟨b0,b1,b2,b3,b4,b5,b6⟩:=rt_cells HK.out.a
 go_upto_region 7 with (fail)
 -- MARK1
 obtain⟨wc,hwc⟩:∃W:World,W=wq.alloc (.cells #[.int .i64 N,.int .i64 G,.slice Z2 i.length z2,.slice Z3 st.f.length z3,.slice Z4 st.o.length z4,.slice Z5 st.c.length z5,.slice Z6 st.n.length z6] 30):=⟨_,rfl⟩
 obtain⟨gc,hgc⟩:∃g,g=wq.heap.size:=⟨_,rfl⟩
 have HC0:Aside0 (wc.heap[gc]? = some (.cells #[.int .i64 N,.int .i64 G,.slice Z2 i.length z2,.slice Z3 st.f.length z3,.slice Z4 st.o.length z4,.slice Z5 st.c.length z5,.slice Z6 st.n.length z6] 30 (0,0))∧wq.heap.size≤gc):=⟨by rw [hwc,hgc];exact⟨blk_newAt _ rfl,Nat.le_refl _⟩⟩
 have HB0:Aside0 (Below wq.heap.size wq wc):=⟨by rw [hwc];exact below_alloc (Below.refl _ _) _⟩
 rw [←hwc,←hgc]
 clear hwc hgc b0 b1 b2 b3 b4 b5 b6
 refine start_ (n:=18) (S:=fun w'=>w'.cell? ⟨ga,4,none⟩=some (.slice Z4 st.o.length z4)∧w'.cell? ⟨ga,6,none⟩=some (.slice Z6 st.n.length z6)) (ds:=[17]) (pm 0 18) (by kernel_rfl) rfl rfl ⟨(blk_cell (HK.out.below (below_drew HB0.out)).a 4).trans rfl,(blk_cell (HK.out.below (below_drew HB0.out)).a 6).trans rfl⟩ (fun hHeld=>?_)
 refine with_tabW N7t.tab N7t.bits (fun HT_ HW_=>?_)
 have HBd:=Aside0.mk (below_drew HB0.out)
 have HCd:=Aside0.mk (And.intro (blk_drew HC0.out.1) HC0.out.2)
 clear HB0 HC0
 obtain⟨wd,hwd⟩:∃W:World,W=wc.drew:=⟨_,rfl⟩
 rw [←hwd] at HBd HCd hHeld ⊢
 clear hwd
 try clear wc
 refine po_ 1 (v:=?_) (a':=?_) rfl (rfl (a:=some _)) (any_of HT_.out (by kernel_rfl)) (fun _ _ _ h=>h) (Or.inl ⟨by rfl,?_⟩) ?_ ?_;rotate_left;(intro w';go_simp;with_reducible rfl);rotate_left;(simp only [Act.put,M.sq3,i64_w,i32_w];rfl)
 refine to_ 2 (v:=?_) (a':=?_) rfl (rfl (a:=some _)) (take_ofW HT_.out HW_.out (by kernel_rfl)) (fun _ _ _ h=>h) (Or.inl ⟨by rfl,?_⟩) hHeld ?_ ?_;rotate_left;(intro w' hS_;obtain⟨s0,s1⟩:=hS_;go_simp;with_reducible rfl);rotate_left;(simp only [Act.put,M.sq3,i64_w,i32_w];rfl)
 refine po_ 4 (v:=?_) (a':=?_) rfl (rfl (a:=some _)) (any_of HT_.out (by kernel_rfl)) (fun _ _ _ h=>h) (Or.inl ⟨by rfl,?_⟩) ?_ ?_;rotate_left;(intro w';go_simp;with_reducible rfl);rotate_left;(simp only [Act.put,M.sq3,i64_w,i32_w];rfl)
 refine to_ 5 (v:=?_) (a':=?_) rfl (rfl (a:=some _)) (take_ofW HT_.out HW_.out (by kernel_rfl)) (fun _ _ _ h=>h) (Or.inl ⟨by rfl,?_⟩) hHeld ?_ ?_;rotate_left;(intro w' hS_;obtain⟨s0,s1⟩:=hS_;go_simp;with_reducible rfl);rotate_left;(simp only [Act.put,M.sq3,i64_w,i32_w];rfl)
 refine po_ 8 (v:=?_) (a':=?_) rfl (rfl (a:=some _)) (any_of HT_.out (by kernel_rfl)) (fun _ _ _ h=>h) (Or.inl ⟨by rfl,?_⟩) ?_ ?_;rotate_left;(intro w';go_simp;with_reducible rfl);rotate_left;(simp only [Act.put,M.sq3,i64_w,i32_w];rfl)
 refine to_ 9 (v:=?_) (a':=?_) rfl (rfl (a:=some _)) (take_ofW HT_.out HW_.out (by kernel_rfl)) (fun _ _ _ h=>h) (Or.inl ⟨by rfl,?_⟩) hHeld ?_ ?_;rotate_left;(intro w' hS_;obtain⟨s0,s1⟩:=hS_;go_simp;with_reducible rfl);rotate_left;(simp only [Act.put,M.sq3,i64_w,i32_w];rfl)
 refine po_ 11 (v:=?_) (a':=?_) rfl (rfl (a:=some _)) (any_of HT_.out (by kernel_rfl)) (fun _ _ _ h=>h) (Or.inl ⟨by rfl,?_⟩) ?_ ?_;rotate_left;(intro w';go_simp;with_reducible rfl);rotate_left;(simp only [Act.put,M.sq3,i64_w,i32_w];rfl)
 refine to_ 12 (v:=?_) (a':=?_) rfl (rfl (a:=some _)) (take_ofW HT_.out HW_.out (by kernel_rfl)) (fun _ _ _ h=>h) (Or.inl ⟨by rfl,?_⟩) hHeld ?_ ?_;rotate_left;(intro w' hS_;obtain⟨s0,s1⟩:=hS_;go_simp;with_reducible rfl);rotate_left;(simp only [Act.put,M.sq3,i64_w,i32_w];rfl)
 refine join_ (σ:=Value × Value × Value × Value) 5 #[true,true,true,true,true,true,true,true,true,true,false,true,true,false,true,false,false,false] (fun s_=>[(26,s_.1),(29,s_.2.1),(32,s_.2.2.1),(33,s_.2.2.2),(40,.pointer (some ⟨gc,4,none⟩))]) (fun s_ w'=>Below wq.heap.size wq w'∧(w'.heap[gc]? = some (.cells #[.int .i64 N,.int .i64 G,.slice Z2 i.length z2,.slice Z3 st.f.length z3,.slice Z4 st.o.length z4,.slice Z5 st.c.length z5,.slice Z6 st.n.length z6] 30 (0,0))∧wq.heap.size≤gc)∧Kd.R k52 52 w' wq.heap.size (fun _=>True) s_.2.2.1 (([]:List TOpen) ++ st.o ++ st.o)∧Kd.R k56 56 w' wq.heap.size (fun _=>True) s_.2.2.2 ([]:List TInner)) ?_ ?_
 rotate_left
 ·intro hCont
  have hCX:=Aside0.mk hCont
  clear hCont
  refine two_ (i:=0) (j:=7) (Ni:=some 26) (Nj:=some 33) #[true,true,true,false,true,true,false,false,true,true,false,true,true,false,false,false,false,false] #[false,true,true,false,true,true,false,true,true,true,false,true,true,false,false,false,false,false] rfl rfl rfl rfl (by kernel_rfl) (by decide) (by decide) (fun K hK=>?_) (fun K hK=>?_)
  ·skip
   refine Kd.R_lit_step k52 _ 52 ?hg (N:=26) ?hd (xs:=([]:List TOpen)) (inner:=[]) (ok:=fun _=>True) (okp:=fun _=>True) ?hr ?hp (fun _ hk=>hk) trivial HBd.out HBd.out.size (by simp) ?_
   case hd=>rfl
   case hg=>rfl
   case hr=>first|(go_simp;done)|(go_simp;rfl)
   case hp=>exact(Reps.none _ _)
   intro v0 we1 ho hb hg_ hn_
   have HR4e1:=Aside0.mk ho
   have HBe1:=Aside0.mk hb
   have HCe1:=Aside0.mk (And.intro (blk_grown HCd.out.1 hg_ nen) HCd.out.2)
   clear ho hb hg_ hn_ hHeld
   refine hK.out _ _ ⟨(blk_cell (HK.out.below HBe1.out).a 4).trans rfl,(blk_cell (HK.out.below HBe1.out).a 6).trans rfl⟩ (fun hHeld=>?_)
   clear hK K
   refine norm_ (a':=?_) ?_ ?_
   rotate_left
   ·show Act.put _ (some 26) _ = _
    simp only [Act.put,M.sq3,i64_w,i32_w]
    rfl
   refine two_ (i:=3) (j:=7) (Ni:=some 29) (Nj:=some 33) #[true,true,true,true,true,true,false,false,true,true,false,true,true,false,false,false,false,false] #[true,true,true,false,true,true,false,true,true,true,false,true,true,false,false,false,false,false] rfl rfl rfl rfl (by kernel_rfl) (by decide) (by decide) (fun K hK=>?_) (fun K hK=>?_)
   ·skip
    refine Kd.R_append_rows_step k52 (w0:=wq) wq.heap.size (by rfl) (.tmp 26) (.tmp 28) 26 52 (.agg #[.int .i64 0,.int .i64 0,.int .i64 0,.int .i64 0]) 32 rfl Try.underlying26 mkOpenI rfl (by decide) (by omega) v0 ([]:List TOpen) st.o _ _ _ (fun _=>True) (fun _=>False) rfl rfl HR4e1.out (HK.out.below HBe1.out).a4.1 (fun _ _ h=>h) (fun _ h=>h.elim) (fun _ _=>trivial) HBe1.out HBe1.out.size ?aL ?_
    case aL=>have:=HLI.out;first|omega|(simp;omega)
    intro v3 we2 ho hb hg_ hn_
    have HR4e2:=Aside0.mk ho
    have HBe2:=Aside0.mk hb
    have HCe2:=Aside0.mk (And.intro (blk_grown HCe1.out.1 hg_ (Kd.R_ne HR4e1.out HCe1.out.1 (by decide))) HCe1.out.2)
    clear ho hb hg_ hn_ hHeld
    refine hK.out _ _ ⟨(blk_cell (HK.out.below HBe2.out).a 4).trans rfl,(blk_cell (HK.out.below HBe2.out).a 6).trans rfl⟩ (fun hHeld=>?_)
    clear hK K
    refine norm_ (a':=?_) ?_ ?_
    rotate_left
    ·show Act.put _ (some 29) _ = _
     simp only [Act.put,M.sq3,i64_w,i32_w]
     rfl
    refine two_ (i:=6) (j:=7) (Ni:=some 32) (Nj:=some 33) #[true,true,true,true,true,true,true,false,true,true,false,true,true,false,false,false,false,false] #[true,true,true,true,true,true,false,true,true,true,false,true,true,false,false,false,false,false] rfl rfl rfl rfl (by kernel_rfl) (by decide) (by decide) (fun K hK=>?_) (fun K hK=>?_)
    ·skip
     refine Kd.R_append_rows_step k52 (w0:=wq) wq.heap.size (by rfl) (.tmp 29) (.tmp 31) 26 52 (.agg #[.int .i64 0,.int .i64 0,.int .i64 0,.int .i64 0]) 32 rfl Try.underlying26 mkOpenI rfl (by decide) (by omega) v3 (([]:List TOpen) ++ st.o) st.o _ _ _ (fun _=>True) (fun _=>False) rfl rfl HR4e2.out (HK.out.below HBe2.out).a4.1 (fun _ _ h=>h) (fun _ h=>h.elim) (fun _ _=>trivial) HBe2.out HBe2.out.size ?aL ?_
     case aL=>have:=HLI.out;first|omega|(simp;omega)
     intro v6 we3 ho hb hg_ hn_
     have HR4e3:=Aside0.mk ho
     have HBe3:=Aside0.mk hb
     have HCe3:=Aside0.mk (And.intro (blk_grown HCe2.out.1 hg_ (Kd.R_ne HR4e2.out HCe2.out.1 (by decide))) HCe2.out.2)
     clear ho hb hg_ hn_ hHeld
     refine hK.out _ _ ⟨(blk_cell (HK.out.below HBe3.out).a 4).trans rfl,(blk_cell (HK.out.below HBe3.out).a 6).trans rfl⟩ (fun hHeld=>?_)
     clear hK K
     refine norm_ (a':=?_) ?_ ?_
     rotate_left
     ·show Act.put _ (some 32) _ = _
      simp only [Act.put,M.sq3,i64_w,i32_w]
      rfl
     refine po_ 14 (v:=?_) (a':=?_) rfl (rfl (a:=some _)) (any_of HT_.out (by kernel_rfl)) (fun _ _ _ h=>h) (Or.inl ⟨by rfl,?_⟩) ?_ ?_;rotate_left;(intro w';go_simp;with_reducible rfl);rotate_left;(simp only [Act.put,M.sq3,i64_w,i32_w];rfl)
     refine re_ #[true,true,true,true,true,true,true,false,true,true,false,true,true,false,true,false,false,false] (by kernel_rfl) ?_
     refine one_ (i:=7) (N:=(some 33)) #[true,true,true,true,true,true,true,true,true,true,false,true,true,false,true,false,false,false] rfl rfl (by kernel_rfl) (by decide) (fun K hK=>?_)
     refine Kd.R_lit_step k56 _ 56 ?hg (N:=33) ?hd (xs:=([]:List TInner)) (inner:=[]) (ok:=fun _=>True) (okp:=fun _=>True) ?hr ?hp (fun _ hk=>hk) trivial HBe3.out HBe3.out.size (by simp) ?_
     case hd=>rfl
     case hg=>rfl
     case hr=>first|(go_simp;done)|(go_simp;rfl)
     case hp=>exact(Reps.none _ _)
     intro v7 we4 ho hb hg_ hn_
     have HR6e4:=Aside0.mk ho
     have HBe4:=Aside0.mk hb
     have HCe4:=Aside0.mk (And.intro (blk_grown HCe3.out.1 hg_ nen) HCe3.out.2)
     have HR4e4:=Aside0.mk (Kd.R_grown HR4e3.out hg_ (fun _ _=>nen))
     clear ho hb hg_ hn_ hHeld
     refine hK.out _ _ ⟨(blk_cell (HK.out.below HBe4.out).a 4).trans rfl,(blk_cell (HK.out.below HBe4.out).a 6).trans rfl⟩ (fun hHeld=>?_)
     clear hK K
     refine norm_ (a':=?_) ?_ ?_
     rotate_left
     ·show Act.put _ (some 33) _ = _
      simp only [Act.put,M.sq3,i64_w,i32_w]
      rfl
     exact norm_ (by simp only [putAll,Act.put,M.sq3]) (hCX.out (v0,v3,v6,v7) _ ⟨HBe4.out,HCe4.out,HR4e4.out,HR6e4.out⟩)
    skip
    refine Kd.R_lit_step k56 _ 56 ?hg (N:=33) ?hd (xs:=([]:List TInner)) (inner:=[]) (ok:=fun _=>True) (okp:=fun _=>True) ?hr ?hp (fun _ hk=>hk) trivial HBe2.out HBe2.out.size (by simp) ?_
    case hd=>rfl
    case hg=>rfl
    case hr=>first|(go_simp;done)|(go_simp;rfl)
    case hp=>exact(Reps.none _ _)
    intro v7 we5 ho hb hg_ hn_
    have HR6e5:=Aside0.mk ho
    have HBe5:=Aside0.mk hb
    have HCe5:=Aside0.mk (And.intro (blk_grown HCe2.out.1 hg_ nen) HCe2.out.2)
    have HR4e5:=Aside0.mk (Kd.R_grown HR4e2.out hg_ (fun _ _=>nen))
    clear ho hb hg_ hn_ hHeld
    refine hK.out _ _ ⟨(blk_cell (HK.out.below HBe5.out).a 4).trans rfl,(blk_cell (HK.out.below HBe5.out).a 6).trans rfl⟩ (fun hHeld=>?_)
    clear hK K
    refine norm_ (a':=?_) ?_ ?_
    rotate_left
    ·show Act.put _ (some 33) _ = _
     simp only [Act.put,M.sq3,i64_w,i32_w]
     rfl
    refine one_ (i:=6) (N:=(some 32)) #[true,true,true,true,true,true,true,true,true,true,false,true,true,false,false,false,false,false] rfl rfl (by kernel_rfl) (by decide) (fun K hK=>?_)
    refine Kd.R_append_rows_step k52 (w0:=wq) wq.heap.size (by rfl) (.tmp 29) (.tmp 31) 26 52 (.agg #[.int .i64 0,.int .i64 0,.int .i64 0,.int .i64 0]) 32 rfl Try.underlying26 mkOpenI rfl (by decide) (by omega) v3 (([]:List TOpen) ++ st.o) st.o _ _ _ (fun _=>True) (fun _=>False) rfl rfl HR4e5.out (HK.out.below HBe5.out).a4.1 (fun _ _ h=>h) (fun _ h=>h.elim) (fun _ _=>trivial) HBe5.out HBe5.out.size ?aL ?_
    case aL=>have:=HLI.out;first|omega|(simp;omega)
    intro v6 we6 ho hb hg_ hn_
    have HR4e6:=Aside0.mk ho
    have HBe6:=Aside0.mk hb
    have HCe6:=Aside0.mk (And.intro (blk_grown HCe5.out.1 hg_ (Kd.R_ne HR4e5.out HCe5.out.1 (by decide))) HCe5.out.2)
    have HR6e6:=Aside0.mk (Kd.R_over' HR6e5.out (Kd.R_typed HR4e5.out) (by intro q hq;rcases List.mem_cons.1 hq with rfl|hq;decide;cases hq) hg_)
    clear ho hb hg_ hn_ hHeld
    refine hK.out _ _ ⟨(blk_cell (HK.out.below HBe6.out).a 4).trans rfl,(blk_cell (HK.out.below HBe6.out).a 6).trans rfl⟩ (fun hHeld=>?_)
    clear hK K
    refine norm_ (a':=?_) ?_ ?_
    rotate_left
    ·show Act.put _ (some 32) _ = _
     simp only [Act.put,M.sq3,i64_w,i32_w]
     rfl
    refine po_ 14 (v:=?_) (a':=?_) rfl (rfl (a:=some _)) (any_of HT_.out (by kernel_rfl)) (fun _ _ _ h=>h) (Or.inl ⟨by rfl,?_⟩) ?_ ?_;rotate_left;(intro w';go_simp;with_reducible rfl);rotate_left;(simp only [Act.put,M.sq3,i64_w,i32_w];rfl)
    refine re_ #[true,true,true,true,true,true,true,true,true,true,false,true,true,false,true,false,false,false] (by kernel_rfl) ?_
    exact norm_ (by simp only [putAll,Act.put,M.sq3]) (hCX.out (v0,v3,v6,v7) _ ⟨HBe6.out,HCe6.out,HR4e6.out,HR6e6.out⟩)
   skip
   refine Kd.R_lit_step k56 _ 56 ?hg (N:=33) ?hd (xs:=([]:List TInner)) (inner:=[]) (ok:=fun _=>True) (okp:=fun _=>True) ?hr ?hp (fun _ hk=>hk) trivial HBe1.out HBe1.out.size (by simp) ?_
   case hd=>rfl
   case hg=>rfl
   case hr=>first|(go_simp;done)|(go_simp;rfl)
   case hp=>exact(Reps.none _ _)
   intro v7 we7 ho hb hg_ hn_
   have HR6e7:=Aside0.mk ho
   have HBe7:=Aside0.mk hb
   have HCe7:=Aside0.mk (And.intro (blk_grown HCe1.out.1 hg_ nen) HCe1.out.2)
   have HR4e7:=Aside0.mk (Kd.R_grown HR4e1.out hg_ (fun _ _=>nen))
   clear ho hb hg_ hn_ hHeld
   refine hK.out _ _ ⟨(blk_cell (HK.out.below HBe7.out).a 4).trans rfl,(blk_cell (HK.out.below HBe7.out).a 6).trans rfl⟩ (fun hHeld=>?_)
   clear hK K
   refine norm_ (a':=?_) ?_ ?_
   rotate_left
   ·show Act.put _ (some 33) _ = _
    simp only [Act.put,M.sq3,i64_w,i32_w]
    rfl
   refine one_ (i:=3) (N:=(some 29)) #[true,true,true,true,true,true,false,true,true,true,false,true,true,false,false,false,false,false] rfl rfl (by kernel_rfl) (by decide) (fun K hK=>?_)
   refine Kd.R_append_rows_step k52 (w0:=wq) wq.heap.size (by rfl) (.tmp 26) (.tmp 28) 26 52 (.agg #[.int .i64 0,.int .i64 0,.int .i64 0,.int .i64 0]) 32 rfl Try.underlying26 mkOpenI rfl (by decide) (by omega) v0 ([]:List TOpen) st.o _ _ _ (fun _=>True) (fun _=>False) rfl rfl HR4e7.out (HK.out.below HBe7.out).a4.1 (fun _ _ h=>h) (fun _ h=>h.elim) (fun _ _=>trivial) HBe7.out HBe7.out.size ?aL ?_
   case aL=>have:=HLI.out;first|omega|(simp;omega)
   intro v3 we8 ho hb hg_ hn_
   have HR4e8:=Aside0.mk ho
   have HBe8:=Aside0.mk hb
   have HCe8:=Aside0.mk (And.intro (blk_grown HCe7.out.1 hg_ (Kd.R_ne HR4e7.out HCe7.out.1 (by decide))) HCe7.out.2)
   have HR6e8:=Aside0.mk (Kd.R_over' HR6e7.out (Kd.R_typed HR4e7.out) (by intro q hq;rcases List.mem_cons.1 hq with rfl|hq;decide;cases hq) hg_)
   clear ho hb hg_ hn_ hHeld
   refine hK.out _ _ ⟨(blk_cell (HK.out.below HBe8.out).a 4).trans rfl,(blk_cell (HK.out.below HBe8.out).a 6).trans rfl⟩ (fun hHeld=>?_)
   clear hK K
   refine norm_ (a':=?_) ?_ ?_
   rotate_left
   ·show Act.put _ (some 29) _ = _
    simp only [Act.put,M.sq3,i64_w,i32_w]
    rfl
   refine one_ (i:=6) (N:=(some 32)) #[true,true,true,true,true,true,true,true,true,true,false,true,true,false,false,false,false,false] rfl rfl (by kernel_rfl) (by decide) (fun K hK=>?_)
   refine Kd.R_append_rows_step k52 (w0:=wq) wq.heap.size (by rfl) (.tmp 29) (.tmp 31) 26 52 (.agg #[.int .i64 0,.int .i64 0,.int .i64 0,.int .i64 0]) 32 rfl Try.underlying26 mkOpenI rfl (by decide) (by omega) v3 (([]:List TOpen) ++ st.o) st.o _ _ _ (fun _=>True) (fun _=>False) rfl rfl HR4e8.out (HK.out.below HBe8.out).a4.1 (fun _ _ h=>h) (fun _ h=>h.elim) (fun _ _=>trivial) HBe8.out HBe8.out.size ?aL ?_
   case aL=>have:=HLI.out;first|omega|(simp;omega)
   intro v6 we9 ho hb hg_ hn_
   have HR4e9:=Aside0.mk ho
   have HBe9:=Aside0.mk hb
   have HCe9:=Aside0.mk (And.intro (blk_grown HCe8.out.1 hg_ (Kd.R_ne HR4e8.out HCe8.out.1 (by decide))) HCe8.out.2)
   have HR6e9:=Aside0.mk (Kd.R_over' HR6e8.out (Kd.R_typed HR4e8.out) (by intro q hq;rcases List.mem_cons.1 hq with rfl|hq;decide;cases hq) hg_)
   clear ho hb hg_ hn_ hHeld
   refine hK.out _ _ ⟨(blk_cell (HK.out.below HBe9.out).a 4).trans rfl,(blk_cell (HK.out.below HBe9.out).a 6).trans rfl⟩ (fun hHeld=>?_)
   clear hK K
   refine norm_ (a':=?_) ?_ ?_
   rotate_left
   ·show Act.put _ (some 32) _ = _
    simp only [Act.put,M.sq3,i64_w,i32_w]
    rfl
   refine po_ 14 (v:=?_) (a':=?_) rfl (rfl (a:=some _)) (any_of HT_.out (by kernel_rfl)) (fun _ _ _ h=>h) (Or.inl ⟨by rfl,?_⟩) ?_ ?_;rotate_left;(intro w';go_simp;with_reducible rfl);rotate_left;(simp only [Act.put,M.sq3,i64_w,i32_w];rfl)
   refine re_ #[true,true,true,true,true,true,true,true,true,true,false,true,true,false,true,false,false,false] (by kernel_rfl) ?_
   exact norm_ (by simp only [putAll,Act.put,M.sq3]) (hCX.out (v0,v3,v6,v7) _ ⟨HBe9.out,HCe9.out,HR4e9.out,HR6e9.out⟩)
  skip
  refine Kd.R_lit_step k56 _ 56 ?hg (N:=33) ?hd (xs:=([]:List TInner)) (inner:=[]) (ok:=fun _=>True) (okp:=fun _=>True) ?hr ?hp (fun _ hk=>hk) trivial HBd.out HBd.out.size (by simp) ?_
  case hd=>rfl
  case hg=>rfl
  case hr=>first|(go_simp;done)|(go_simp;rfl)
  case hp=>exact(Reps.none _ _)
  intro v7 we10 ho hb hg_ hn_
  have HR6e10:=Aside0.mk ho
  have HBe10:=Aside0.mk hb
  have HCe10:=Aside0.mk (And.intro (blk_grown HCd.out.1 hg_ nen) HCd.out.2)
  clear ho hb hg_ hn_ hHeld
  refine hK.out _ _ ⟨(blk_cell (HK.out.below HBe10.out).a 4).trans rfl,(blk_cell (HK.out.below HBe10.out).a 6).trans rfl⟩ (fun hHeld=>?_)
  clear hK K
  refine norm_ (a':=?_) ?_ ?_
  rotate_left
  ·show Act.put _ (some 33) _ = _
   simp only [Act.put,M.sq3,i64_w,i32_w]
   rfl
  refine one_ (i:=0) (N:=(some 26)) #[true,true,true,false,true,true,false,true,true,true,false,true,true,false,false,false,false,false] rfl rfl (by kernel_rfl) (by decide) (fun K hK=>?_)
  refine Kd.R_lit_step k52 _ 52 ?hg (N:=26) ?hd (xs:=([]:List TOpen)) (inner:=[]) (ok:=fun _=>True) (okp:=fun _=>True) ?hr ?hp (fun _ hk=>hk) trivial HBe10.out HBe10.out.size (by simp) ?_
  case hd=>rfl
  case hg=>rfl
  case hr=>first|(go_simp;done)|(go_simp;rfl)
  case hp=>exact(Reps.none _ _)
  intro v0 we11 ho hb hg_ hn_
  have HR4e11:=Aside0.mk ho
  have HBe11:=Aside0.mk hb
  have HCe11:=Aside0.mk (And.intro (blk_grown HCe10.out.1 hg_ nen) HCe10.out.2)
  have HR6e11:=Aside0.mk (Kd.R_grown HR6e10.out hg_ (fun _ _=>nen))
  clear ho hb hg_ hn_ hHeld
  refine hK.out _ _ ⟨(blk_cell (HK.out.below HBe11.out).a 4).trans rfl,(blk_cell (HK.out.below HBe11.out).a 6).trans rfl⟩ (fun hHeld=>?_)
  clear hK K
  refine norm_ (a':=?_) ?_ ?_
  rotate_left
  ·show Act.put _ (some 26) _ = _
   simp only [Act.put,M.sq3,i64_w,i32_w]
   rfl
  refine one_ (i:=3) (N:=(some 29)) #[true,true,true,true,true,true,false,true,true,true,false,true,true,false,false,false,false,false] rfl rfl (by kernel_rfl) (by decide) (fun K hK=>?_)
  refine Kd.R_append_rows_step k52 (w0:=wq) wq.heap.size (by rfl) (.tmp 26) (.tmp 28) 26 52 (.agg #[.int .i64 0,.int .i64 0,.int .i64 0,.int .i64 0]) 32 rfl Try.underlying26 mkOpenI rfl (by decide) (by omega) v0 ([]:List TOpen) st.o _ _ _ (fun _=>True) (fun _=>False) rfl rfl HR4e11.out (HK.out.below HBe11.out).a4.1 (fun _ _ h=>h) (fun _ h=>h.elim) (fun _ _=>trivial) HBe11.out HBe11.out.size ?aL ?_
  case aL=>have:=HLI.out;first|omega|(simp;omega)
  intro v3 we12 ho hb hg_ hn_
  have HR4e12:=Aside0.mk ho
  have HBe12:=Aside0.mk hb
  have HCe12:=Aside0.mk (And.intro (blk_grown HCe11.out.1 hg_ (Kd.R_ne HR4e11.out HCe11.out.1 (by decide))) HCe11.out.2)
  have HR6e12:=Aside0.mk (Kd.R_over' HR6e11.out (Kd.R_typed HR4e11.out) (by intro q hq;rcases List.mem_cons.1 hq with rfl|hq;decide;cases hq) hg_)
  clear ho hb hg_ hn_ hHeld
  refine hK.out _ _ ⟨(blk_cell (HK.out.below HBe12.out).a 4).trans rfl,(blk_cell (HK.out.below HBe12.out).a 6).trans rfl⟩ (fun hHeld=>?_)
  clear hK K
  refine norm_ (a':=?_) ?_ ?_
  rotate_left
  ·show Act.put _ (some 29) _ = _
   simp only [Act.put,M.sq3,i64_w,i32_w]
   rfl
  refine one_ (i:=6) (N:=(some 32)) #[true,true,true,true,true,true,true,true,true,true,false,true,true,false,false,false,false,false] rfl rfl (by kernel_rfl) (by decide) (fun K hK=>?_)
  refine Kd.R_append_rows_step k52 (w0:=wq) wq.heap.size (by rfl) (.tmp 29) (.tmp 31) 26 52 (.agg #[.int .i64 0,.int .i64 0,.int .i64 0,.int .i64 0]) 32 rfl Try.underlying26 mkOpenI rfl (by decide) (by omega) v3 (([]:List TOpen) ++ st.o) st.o _ _ _ (fun _=>True) (fun _=>False) rfl rfl HR4e12.out (HK.out.below HBe12.out).a4.1 (fun _ _ h=>h) (fun _ h=>h.elim) (fun _ _=>trivial) HBe12.out HBe12.out.size ?aL ?_
  case aL=>have:=HLI.out;first|omega|(simp;omega)
  intro v6 we13 ho hb hg_ hn_
  have HR4e13:=Aside0.mk ho
  have HBe13:=Aside0.mk hb
  have HCe13:=Aside0.mk (And.intro (blk_grown HCe12.out.1 hg_ (Kd.R_ne HR4e12.out HCe12.out.1 (by decide))) HCe12.out.2)
  have HR6e13:=Aside0.mk (Kd.R_over' HR6e12.out (Kd.R_typed HR4e12.out) (by intro q hq;rcases List.mem_cons.1 hq with rfl|hq;decide;cases hq) hg_)
  clear ho hb hg_ hn_ hHeld
  refine hK.out _ _ ⟨(blk_cell (HK.out.below HBe13.out).a 4).trans rfl,(blk_cell (HK.out.below HBe13.out).a 6).trans rfl⟩ (fun hHeld=>?_)
  clear hK K
  refine norm_ (a':=?_) ?_ ?_
  rotate_left
  ·show Act.put _ (some 32) _ = _
   simp only [Act.put,M.sq3,i64_w,i32_w]
   rfl
  refine po_ 14 (v:=?_) (a':=?_) rfl (rfl (a:=some _)) (any_of HT_.out (by kernel_rfl)) (fun _ _ _ h=>h) (Or.inl ⟨by rfl,?_⟩) ?_ ?_;rotate_left;(intro w';go_simp;with_reducible rfl);rotate_left;(simp only [Act.put,M.sq3,i64_w,i32_w];rfl)
  refine re_ #[true,true,true,true,true,true,true,true,true,true,false,true,true,false,true,false,false,false] (by kernel_rfl) ?_
  exact norm_ (by simp only [putAll,Act.put,M.sq3]) (hCX.out (v0,v3,v6,v7) _ ⟨HBe13.out,HCe13.out,HR4e13.out,HR6e13.out⟩)
 rintro⟨v0,v3,v6,v7⟩ wj ⟨hb,hc,hr4,hr6⟩
 obtain⟨OA,oc,rfl⟩:=Kd.R_slice hr4
 have HBj:=Aside0.mk hb
 have HCj:=Aside0.mk hc
 have HR4j:=Aside0.mk hr4
 have HR6j:=Aside0.mk hr6
 clear hb hc hr4 hr6 HBd HCd
 refine norm_ (a':=?_) ?_ ?_
 rotate_left
 ·simp only [putAll, Act.put, M.sq3, i64_w, i32_w]
  rfl
 refine one_ (i:=10) (N:=(some 36)) #[true,true,true,true,true,true,true,true,true,true,true,true,true,false,true,false,false,false] rfl rfl (one_of HT_.out (by kernel_rfl)) (by decide) (fun K hK=>?_)
 refine Kd.R_append_rows_step k56 (w0:=wq) wq.heap.size (by rfl) (.tmp 33) (.tmp 35) 28 56 (.agg #[.int .i64 0,.int .i64 0,.int .i64 0]) 24 rfl Try.underlying28 mkInnerI rfl (by decide) (by omega) v7 ([]:List TInner) st.n _ _ _ (fun _=>True) (fun _=>False) rfl rfl HR6j.out (HK.out.below HBj.out).a6.1 (fun _ _ h=>h) (fun _ h=>h.elim) (fun _ _=>trivial) HBj.out HBj.out.size ?aL ?_
 case aL=>have:=HLI.out;first|omega|(simp;omega)
 intro v10 we14 ho hb hg_ hn_
 have HR6e14:=Aside0.mk ho
 have HBe14:=Aside0.mk hb
 have HCe14:=Aside0.mk (And.intro (blk_grown HCj.out.1 hg_ (Kd.R_ne HR6j.out HCj.out.1 (by decide))) HCj.out.2)
 have HR4e14:=Aside0.mk (Kd.R_over' HR4j.out (Kd.R_typed HR6j.out) (by intro q hq;rcases List.mem_cons.1 hq with rfl|hq;decide;cases hq) hg_)
 clear ho hb hg_ hn_ hHeld
 refine hK.out _ _ ⟨(blk_cell (HK.out.below HBe14.out).a 4).trans rfl,(blk_cell (HK.out.below HBe14.out).a 6).trans rfl⟩ (fun hHeld=>?_)
 clear hK K
 refine norm_ (a':=?_) ?_ ?_
 rotate_left
 ·show Act.put _ (some 36) _ = _
  simp only [Act.put,M.sq3,i64_w,i32_w]
  rfl
 refine one_ (i:=13) (N:=(some 39)) (pm 15 3) rfl rfl (one_of HT_.out (by kernel_rfl)) (by decide) (fun K hK=>?_)
 refine Kd.R_append_rows_step k56 (w0:=wq) wq.heap.size (by rfl) (.tmp 36) (.tmp 38) 28 56 (.agg #[.int .i64 0,.int .i64 0,.int .i64 0]) 24 rfl Try.underlying28 mkInnerI rfl (by decide) (by omega) v10 (([]:List TInner) ++ st.n) st.n _ _ _ (fun _=>True) (fun _=>False) rfl rfl HR6e14.out (HK.out.below HBe14.out).a6.1 (fun _ _ h=>h) (fun _ h=>h.elim) (fun _ _=>trivial) HBe14.out HBe14.out.size ?aL ?_
 case aL=>have:=HLI.out;first|omega|(simp;omega)
 intro v13 we15 ho hb hg_ hn_
 have HR6e15:=Aside0.mk ho
 have HBe15:=Aside0.mk hb
 have HCe15:=Aside0.mk (And.intro (blk_grown HCe14.out.1 hg_ (Kd.R_ne HR6e14.out HCe14.out.1 (by decide))) HCe14.out.2)
 have HR4e15:=Aside0.mk (Kd.R_over' HR4e14.out (Kd.R_typed HR6e14.out) (by intro q hq;rcases List.mem_cons.1 hq with rfl|hq;decide;cases hq) hg_)
 clear ho hb hg_ hn_ hHeld
 refine hK.out _ _ ⟨(blk_cell (HK.out.below HBe15.out).a 4).trans rfl,(blk_cell (HK.out.below HBe15.out).a 6).trans rfl⟩ (fun hHeld=>?_)
 clear hK K
 refine norm_ (a':=?_) ?_ ?_
 rotate_left
 ·show Act.put _ (some 39) _ = _
  simp only [Act.put,M.sq3,i64_w,i32_w]
  rfl
 have hr4:=Kd.R_tight rfl HR4e15.out
 have hr6:=Kd.R_tight rfl HR6e15.out
 obtain⟨IA,ic,rfl⟩:=Kd.R_slice hr6
 obtain⟨oo,hoo⟩:∃l,l=(([]:List TOpen) ++ st.o ++ st.o):=⟨_,rfl⟩
 obtain⟨nn,hnn⟩:∃l,l=(([]:List TInner) ++ st.n ++ st.n):=⟨_,rfl⟩
 rw [←hoo] at hr4 ⊢
 rw [←hnn] at hr6 ⊢
 have HOO:Aside0 (oo=st.o ++ st.o∧nn=st.n ++ st.n):=⟨by rw [hoo,hnn];exact⟨rfl,rfl⟩⟩
 have HO:=Aside0.mk hr4
 have HI:=Aside0.mk hr6
 have HBx:=HBe15
 have HCx:=HCe15
 clear hoo hnn hr4 hr6 HBe14 HCe14 HR4e14 HR6e14 HBe15 HCe15 HR4e15 HR6e15 HBj HCj HR4j HR6j
 refine one_ (i:=15) (N:=none) (pm 16 2) rfl rfl (one_of HT_.out (by kernel_rfl)) (by decide) (fun K hK=>?_)
 have hc4:we15.cell? ⟨gc,4,none⟩=some (.slice Z4 st.o.length z4):=(blk_cell HCx.out.1 4).trans rfl
 have hf4:=blk_frozen HCx.out.1 4
 refine Go.Proofs.Ytjkhdldgmkkhjaa.M.step_skip (w1:=we15.setCell ⟨gc,4,none⟩ (.slice OA oo.length oc)) rfl rfl (by go_simp) ?_
 clear hc4 hf4 hHeld
 have HB1:=Aside0.mk (HBx.out.setCell HCx.out.2 (p:=⟨gc,4,none⟩) (.slice OA oo.length oc))
 have HC1:Aside0 ((we15.setCell ⟨gc,4,none⟩ (.slice OA oo.length oc)).heap[gc]? = some (.cells #[.int .i64 N,.int .i64 G,.slice Z2 i.length z2,.slice Z3 st.f.length z3,.slice OA oo.length oc,.slice Z5 st.c.length z5,.slice Z6 st.n.length z6] 30 (0,0))∧wq.heap.size≤gc):=⟨⟨blk_put HCx.out.1 4 _ rfl,HCx.out.2⟩⟩
 have HO1:=Aside0.mk (Kd.R_far (p:=⟨gc,4,none⟩) HO.out (fun k hk e=>Kd.R_ne HO.out HCx.out.1 (by decide) (by rw [←hk];exact congrArg some e.symm)) (.slice OA oo.length oc))
 have HI1:=Aside0.mk (Kd.R_far (p:=⟨gc,4,none⟩) HI.out (fun k hk e=>Kd.R_ne HI.out HCx.out.1 (by decide) (by rw [←hk];exact congrArg some e.symm)) (.slice OA oo.length oc))
 clear HBx HCx HO HI
 obtain⟨wy,hwy⟩:∃W:World,W=we15.setCell ⟨gc,4,none⟩ (.slice OA oo.length oc):=⟨_,rfl⟩
 rw [←hwy] at HB1 HC1 HO1 HI1 ⊢
 clear hwy
 refine hK.out _ _ ⟨(blk_cell (HK.out.below HB1.out).a 4).trans rfl,(blk_cell (HK.out.below HB1.out).a 6).trans rfl⟩ (fun hHeld=>?_)
 clear hK K
 refine pn_ (v:=?_) (a':=?_) rfl (rfl (a:=some _)) (any_of HT_.out (by kernel_rfl)) (fun _ _ _ h=>h) (Or.inl ⟨by rfl,?_⟩) ?_ ?_;rotate_left;(intro w';go_simp;with_reducible rfl);rotate_left;(simp only [Act.put,M.sq3,i64_w,i32_w];rfl)
 refine last_ (i:=17) (N:=none) (pm 18 0) rfl rfl (one_of HT_.out (by kernel_rfl)) (by decide) (fun K hK=>?_)
 have hc6:wy.cell? ⟨gc,6,none⟩=some (.slice Z6 st.n.length z6):=(blk_cell HC1.out.1 6).trans rfl
 have hf6:=blk_frozen HC1.out.1 6
 refine Go.Proofs.Ytjkhdldgmkkhjaa.M.step_skip (w1:=wy.setCell ⟨gc,6,none⟩ (.slice IA nn.length ic)) rfl rfl (by go_simp) ?_
 clear hc6 hf6 hHeld
 have HB2:=Aside0.mk (HB1.out.setCell HC1.out.2 (p:=⟨gc,6,none⟩) (.slice IA nn.length ic))
 have HC2:Aside0 ((wy.setCell ⟨gc,6,none⟩ (.slice IA nn.length ic)).heap[gc]? = some (.cells #[.int .i64 N,.int .i64 G,.slice Z2 i.length z2,.slice Z3 st.f.length z3,.slice OA oo.length oc,.slice Z5 st.c.length z5,.slice IA nn.length ic] 30 (0,0))):=⟨blk_put HC1.out.1 6 _ rfl⟩
 have HO2:=Aside0.mk (Kd.R_far (p:=⟨gc,6,none⟩) HO1.out (fun k hk e=>Kd.R_ne HO1.out HC1.out.1 (by decide) (by rw [←hk];exact congrArg some e.symm)) (.slice IA nn.length ic))
 have HI2_:=Aside0.mk (Kd.R_far (p:=⟨gc,6,none⟩) HI1.out (fun k hk e=>Kd.R_ne HI1.out HC1.out.1 (by decide) (by rw [←hk];exact congrArg some e.symm)) (.slice IA nn.length ic))
 clear HB1 HC1 HO1 HI1
 refine hK.out _ _ ?_
 clear hK K
 obtain⟨wz,hwz⟩:∃W:World,W=wy.setCell ⟨gc,6,none⟩ (.slice IA nn.length ic):=⟨_,rfl⟩
 rw [←hwz] at HB2 HC2 HO2 HI2_ ⊢
 clear hwz
 refine done_ (done_of HT_.out (by kernel_rfl)) ?_
 have HK1:=Aside0.mk (HK.out.below HB2.out)
 have HC:=HC2
 have HOC:Aside0 (Kd.C k52 wz OA oo.length oo∧oo.length≤oc):=⟨(Kd.R_reads' HO2.out).2.2,(Kd.R_reads' HO2.out).2.1⟩
 have HIC:Aside0 (Kd.C k56 wz IA nn.length nn∧nn.length≤ic):=⟨(Kd.R_reads' HI2_.out).2.2,(Kd.R_reads' HI2_.out).2.1⟩
 clear HK HB2 HC2 HO2 HI2_
 have HK:=HK1
 clear HK1
 -- MARK2
 try clear wq
 obtain⟨wq,rfl⟩:∃W:World,W=wz:=⟨_,rfl⟩
 go_wp2_with fail
 refine(canopylaw1_Word.calls 1002 AS cS S A3 c3 ws_ 10 (wordL S ws_ 10) _ (Kd.R_reads' HK.out.s).2.2 (Kd.R_reads' HK.out.s).2.1 (Kd.C_below HI3.out.1 HK.out.b) HI3.out.2.1 (word_eq HS0.out.2 ws_ HI3.out.2.2 10 (by decide) (by decide) 1002 (by decide))).mono ?_
 rintro e wb ⟨vw,rfl,hrw,hbw⟩
 have hmem:∀x∈wordL S ws_ 10,0≤x∧x < S.length:=fun x hx=>wordL_mem HS0.out.2 hx
 have hwl:=wordL_len S ws_ 10
 obtain⟨ww,hww⟩:∃u,u=fewL S 4 (wordL S ws_ 10) 0:=⟨_,rfl⟩
 have HFW:Aside0 ((∀x∈ww,0≤x∧x < S.length)∧ww.length≤10):=⟨by rw [hww];exact few_mem hmem,by rw [hww];exact Nat.le_trans few_len hwl⟩
 have hfe:=few_eq (l:=S) _ (Nat.le_trans hwl (by decide)) hmem 4 (by decide) 1002 (by decide)
 rw [←hww] at hfe
 have HFE:=Aside0.mk hfe
 have HRW:=Aside0.mk hrw
 have HBW:=Aside0.mk hbw
 clear hmem hwl hww hfe hrw hbw
 go_wp2_with fail
 refine(canopylaw4_few.calls 1002 AS cS S (fun k=>wq.heap.size≤k) vw (wordL S ws_ 10) 4 ww wq _ HBW.out (fun W_ hk=>HK.out.kept HBW.out hk) (Kd.R_reads' HK.out.s).2.1 (Kd.R_mono (Kd.R_bound HRW.out) (fun k hk=>hk.2.1)) HFE.out).mono ?_
 rintro e wn ⟨vv,rfl,hr,hb,hkp⟩
 obtain⟨WA,wcap,rfl⟩:=Kd.R_slice hr
 have HWC:=Aside0.mk (And.intro (Kd.R_reads' hr).2.2 (Kd.R_reads' hr).2.1)
 have HK1:=Aside0.mk (HK.out.below hb)
 have HC1:=Aside0.mk (blk_below HC.out hb)
 have HO1:=Aside0.mk (And.intro (Kd.C_below HOC.out.1 hb) HOC.out.2)
 have HI1:=Aside0.mk (And.intro (Kd.C_below HIC.out.1 hb) HIC.out.2)
 clear HK HC HOC HIC
 have HK:=HK1
 have HC:=HC1
 have HOC:=HO1
 have HIC:=HI1
 clear HK1 HC1 HO1 HI1
 clear hr hb hkp HFE HRW HBW wb
 try clear wq
 obtain⟨wq,rfl⟩:∃W:World,W=wn:=⟨_,rfl⟩
 go_upto_region 9 with (fail)
 -- MARK3
 obtain⟨r,hr⟩:∃r,r=takesB S i st.f st.o st.c st.n ww:=⟨_,rfl⟩
 have hSl:S.length≤1000000:=by have:=HS0.out.2.2.1;omega
 have T1:Aside0 (runs_Takes.f S N G i st.f st.o st.c st.n ww=some r):=⟨by have:=HLI.out;have:=HFW.out.2;unfold runs_Takes.f;rw [if_pos (by omega),hr]⟩
 have T2:Aside0 (runs_Takes.f S N G l2 l3 l4 l5 l6 ww=some r):=⟨by have:=HLN.out;have:=HFW.out.2;unfold runs_Takes.f;rw [if_pos (by omega),hr,HTK.out ww HFW.out.1]⟩
 have T3:Aside0 (runs_Takes.f S N G i st.f oo st.c nn ww=some r):=⟨by have:=HLI.out;have:=HFW.out.2;unfold runs_Takes.f;rw [HOO.out.1,HOO.out.2,if_pos (by simp only [List.length_append];omega),hr,takes_twice HFW.out.1]⟩
 clear hr hSl
 have hrr:(r == r)=true:=by cases r<;>rfl
 refine start_ (n:=21) (S:=fun w'=>w'.cell? ⟨ga,0,none⟩=some (.int .i64 N)∧w'.cell? ⟨ga,1,none⟩=some (.int .i64 G)∧w'.cell? ⟨ga,2,none⟩=some (.slice Z2 i.length z2)∧w'.cell? ⟨ga,3,none⟩=some (.slice Z3 st.f.length z3)∧w'.cell? ⟨ga,4,none⟩=some (.slice Z4 st.o.length z4)∧w'.cell? ⟨ga,5,none⟩=some (.slice Z5 st.c.length z5)∧w'.cell? ⟨ga,6,none⟩=some (.slice Z6 st.n.length z6)∧w'.cell? ⟨gb,0,none⟩=some (.int .i64 N)∧w'.cell? ⟨gb,1,none⟩=some (.int .i64 G)∧w'.cell? ⟨gb,2,none⟩=some (.slice Y2 l2.length y2)∧w'.cell? ⟨gb,3,none⟩=some (.slice Y3 l3.length y3)∧w'.cell? ⟨gb,4,none⟩=some (.slice Y4 l4.length y4)∧w'.cell? ⟨gb,5,none⟩=some (.slice Y5 l5.length y5)∧w'.cell? ⟨gb,6,none⟩=some (.slice Y6 l6.length y6)∧w'.cell? ⟨gc,0,none⟩=some (.int .i64 N)∧w'.cell? ⟨gc,1,none⟩=some (.int .i64 G)∧w'.cell? ⟨gc,2,none⟩=some (.slice Z2 i.length z2)∧w'.cell? ⟨gc,3,none⟩=some (.slice Z3 st.f.length z3)∧w'.cell? ⟨gc,4,none⟩=some (.slice OA oo.length oc)∧w'.cell? ⟨gc,5,none⟩=some (.slice Z5 st.c.length z5)∧w'.cell? ⟨gc,6,none⟩=some (.slice IA nn.length ic)) (ds:=[]) (pm 0 21) (by kernel_rfl) rfl rfl ⟨(blk_cell (HK.out.below (below_drew (Below.refl wq.heap.size wq))).a 0).trans rfl,(blk_cell (HK.out.below (below_drew (Below.refl wq.heap.size wq))).a 1).trans rfl,(blk_cell (HK.out.below (below_drew (Below.refl wq.heap.size wq))).a 2).trans rfl,(blk_cell (HK.out.below (below_drew (Below.refl wq.heap.size wq))).a 3).trans rfl,(blk_cell (HK.out.below (below_drew (Below.refl wq.heap.size wq))).a 4).trans rfl,(blk_cell (HK.out.below (below_drew (Below.refl wq.heap.size wq))).a 5).trans rfl,(blk_cell (HK.out.below (below_drew (Below.refl wq.heap.size wq))).a 6).trans rfl,(blk_cell (HK.out.below (below_drew (Below.refl wq.heap.size wq))).t 0).trans rfl,(blk_cell (HK.out.below (below_drew (Below.refl wq.heap.size wq))).t 1).trans rfl,(blk_cell (HK.out.below (below_drew (Below.refl wq.heap.size wq))).t 2).trans rfl,(blk_cell (HK.out.below (below_drew (Below.refl wq.heap.size wq))).t 3).trans rfl,(blk_cell (HK.out.below (below_drew (Below.refl wq.heap.size wq))).t 4).trans rfl,(blk_cell (HK.out.below (below_drew (Below.refl wq.heap.size wq))).t 5).trans rfl,(blk_cell (HK.out.below (below_drew (Below.refl wq.heap.size wq))).t 6).trans rfl,(blk_cell (blk_below HC.out (below_drew (Below.refl wq.heap.size wq))) 0).trans rfl,(blk_cell (blk_below HC.out (below_drew (Below.refl wq.heap.size wq))) 1).trans rfl,(blk_cell (blk_below HC.out (below_drew (Below.refl wq.heap.size wq))) 2).trans rfl,(blk_cell (blk_below HC.out (below_drew (Below.refl wq.heap.size wq))) 3).trans rfl,(blk_cell (blk_below HC.out (below_drew (Below.refl wq.heap.size wq))) 4).trans rfl,(blk_cell (blk_below HC.out (below_drew (Below.refl wq.heap.size wq))) 5).trans rfl,(blk_cell (blk_below HC.out (below_drew (Below.refl wq.heap.size wq))) 6).trans rfl⟩ (fun hHeld=>?_)
 refine with_tabW N9t.tab N9t.bits (fun HT_ HW_=>?_)
 have hb:=(below_drew (Below.refl wq.heap.size wq))
 have HK1:=Aside0.mk (HK.out.below hb)
 have HC1:=Aside0.mk (blk_below HC.out hb)
 have HO1:=Aside0.mk (And.intro (Kd.C_below HOC.out.1 hb) HOC.out.2)
 have HI1:=Aside0.mk (And.intro (Kd.C_below HIC.out.1 hb) HIC.out.2)
 clear HK HC HOC HIC
 have HK:=HK1
 have HC:=HC1
 have HOC:=HO1
 have HIC:=HI1
 clear HK1 HC1 HO1 HI1
 have HW1:=Aside0.mk (And.intro (Kd.C_below HWC.out.1 hb) HWC.out.2)
 clear HWC
 have HWC:=HW1
 clear HW1
 clear hb
 obtain⟨wd,hwd⟩:∃W:World,W=wq.drew:=⟨_,rfl⟩
 rw [←hwd] at HK HC HOC HIC HWC hHeld ⊢
 clear hwd
 try clear wq
 obtain⟨wq,rfl⟩:∃W:World,W=wd:=⟨_,rfl⟩
 iterate 3 (first|(refine pn_ (v:=?_) (a':=?_) rfl (rfl (a:=some _)) (any_of HT_.out (by kernel_rfl)) (fun _ _ _ h=>h) (Or.inl ⟨by rfl,?_⟩) ?_ ?_;rotate_left;(intro w';go_simp;with_reducible rfl);rotate_left;(simp only [Act.put,M.sq3,i64_w,i32_w];rfl))|(refine tn_ (v:=?_) (a':=?_) rfl (rfl (a:=some _)) (take_ofW HT_.out HW_.out (by kernel_rfl)) (fun _ _ _ h=>h) (Or.inl ⟨by rfl,?_⟩) hHeld ?_ ?_;rotate_left;(intro w' hS_;obtain⟨s0,s1,s2,s3,s4,s5,s6,s7,s8,s9,s10,s11,s12,s13,s14,s15,s16,s17,s18,s19,s20⟩:=hS_;go_simp;with_reducible rfl);rotate_left;(simp only [Act.put,M.sq3,i64_w,i32_w];rfl)))
 refine po_ 4 (v:=?_) (a':=?_) rfl (rfl (a:=some _)) (any_of HT_.out (by kernel_rfl)) (fun _ _ _ h=>h) (Or.inl ⟨by rfl,?_⟩) ?_ ?_;rotate_left;(intro w';go_simp;with_reducible rfl);rotate_left;(simp only [Act.put,M.sq3,i64_w,i32_w];rfl)
 refine to_ 5 (v:=?_) (a':=?_) rfl (rfl (a:=some _)) (take_ofW HT_.out HW_.out (by kernel_rfl)) (fun _ _ _ h=>h) (Or.inl ⟨by rfl,?_⟩) hHeld ?_ ?_;rotate_left;(intro w' hS_;obtain⟨s0,s1,s2,s3,s4,s5,s6,s7,s8,s9,s10,s11,s12,s13,s14,s15,s16,s17,s18,s19,s20⟩:=hS_;go_simp;with_reducible rfl);rotate_left;(simp only [Act.put,M.sq3,i64_w,i32_w];rfl)
 refine po_ 6 (v:=?_) (a':=?_) rfl (rfl (a:=some _)) (any_of HT_.out (by kernel_rfl)) (fun _ _ _ h=>h) (Or.inl ⟨by rfl,?_⟩) ?_ ?_;rotate_left;(intro w';go_simp;with_reducible rfl);rotate_left;(simp only [Act.put,M.sq3,i64_w,i32_w];rfl)
 refine one_ (i:=3) (N:=(some 50)) (pm 7 14) rfl rfl (one_of HT_.out (by kernel_rfl)) (by decide) (fun K hK=>?_)
 refine goes_ Try.func23 (by kernel_rfl) rfl #[.slice AS S.length cS,.agg #[.int .i64 N,.int .i64 G,.slice Z2 i.length z2,.slice Z3 st.f.length z3,.slice Z4 st.o.length z4,.slice Z5 st.c.length z5,.slice Z6 st.n.length z6],.slice WA ww.length wcap] rfl rfl rfl (by(try simp only [List.map_toArray,List.map_cons,List.map_nil]);rfl) ?_
 refine(runs_Takes.calls AS cS S N G Z2 z2 i Z3 z3 (st.f) Z4 z4 (st.o) Z5 z5 (st.c) Z6 z6 (st.n) WA wcap ww r _ (Kd.R_reads' HK.out.s).2.2 (Kd.R_reads' HK.out.s).2.1 HK.out.a2.1 HK.out.a2.2 HK.out.a3.1 HK.out.a3.2 HK.out.a4.1 HK.out.a4.2 HK.out.a5.1 HK.out.a5.2 HK.out.a6.1 HK.out.a6.2 HWC.out.1 HWC.out.2 T1.out).mono ?_
 rintro e we ⟨rfl,hb⟩
 have HK1:=Aside0.mk (HK.out.below hb)
 have HC1:=Aside0.mk (blk_below HC.out hb)
 have HO1:=Aside0.mk (And.intro (Kd.C_below HOC.out.1 hb) HOC.out.2)
 have HI1:=Aside0.mk (And.intro (Kd.C_below HIC.out.1 hb) HIC.out.2)
 clear HK HC HOC HIC
 have HK:=HK1
 have HC:=HC1
 have HOC:=HO1
 have HIC:=HI1
 clear HK1 HC1 HO1 HI1
 have HW1:=Aside0.mk (And.intro (Kd.C_below HWC.out.1 hb) HWC.out.2)
 clear HWC
 have HWC:=HW1
 clear HW1
 clear hb hHeld
 refine⟨_,rfl,?_⟩
 refine hK.out _ _ ⟨(blk_cell HK.out.a 0).trans rfl,(blk_cell HK.out.a 1).trans rfl,(blk_cell HK.out.a 2).trans rfl,(blk_cell HK.out.a 3).trans rfl,(blk_cell HK.out.a 4).trans rfl,(blk_cell HK.out.a 5).trans rfl,(blk_cell HK.out.a 6).trans rfl,(blk_cell HK.out.t 0).trans rfl,(blk_cell HK.out.t 1).trans rfl,(blk_cell HK.out.t 2).trans rfl,(blk_cell HK.out.t 3).trans rfl,(blk_cell HK.out.t 4).trans rfl,(blk_cell HK.out.t 5).trans rfl,(blk_cell HK.out.t 6).trans rfl,(blk_cell HC.out 0).trans rfl,(blk_cell HC.out 1).trans rfl,(blk_cell HC.out 2).trans rfl,(blk_cell HC.out 3).trans rfl,(blk_cell HC.out 4).trans rfl,(blk_cell HC.out 5).trans rfl,(blk_cell HC.out 6).trans rfl⟩ (fun hHeld=>?_)
 clear hK K
 obtain⟨wq,rfl⟩:∃wq:World,wq=we:=⟨_,rfl⟩
 refine norm_ (a':=?_) ?_ ?_
 rotate_left
 ·show Act.put _ (some 50) _ = _
  simp only [Act.put,M.sq3,i64_w,i32_w]
  rfl
 refine one_ (i:=7) (N:=(some 54)) (pm 8 13) rfl rfl (one_of HT_.out (by kernel_rfl)) (by decide) (fun K hK=>?_)
 refine goes_ Try.func23 (by kernel_rfl) rfl #[.slice AS S.length cS,.agg #[.int .i64 N,.int .i64 G,.slice Y2 l2.length y2,.slice Y3 l3.length y3,.slice Y4 l4.length y4,.slice Y5 l5.length y5,.slice Y6 l6.length y6],.slice WA ww.length wcap] rfl rfl rfl (by(try simp only [List.map_toArray,List.map_cons,List.map_nil]);rfl) ?_
 refine(runs_Takes.calls AS cS S N G Y2 y2 l2 Y3 y3 l3 Y4 y4 l4 Y5 y5 l5 Y6 y6 l6 WA wcap ww r _ (Kd.R_reads' HK.out.s).2.2 (Kd.R_reads' HK.out.s).2.1 HK.out.n2.1 HK.out.n2.2 HK.out.n3.1 HK.out.n3.2 HK.out.n4.1 HK.out.n4.2 HK.out.n5.1 HK.out.n5.2 HK.out.n6.1 HK.out.n6.2 HWC.out.1 HWC.out.2 T2.out).mono ?_
 rintro e we ⟨rfl,hb⟩
 have HK1:=Aside0.mk (HK.out.below hb)
 have HC1:=Aside0.mk (blk_below HC.out hb)
 have HO1:=Aside0.mk (And.intro (Kd.C_below HOC.out.1 hb) HOC.out.2)
 have HI1:=Aside0.mk (And.intro (Kd.C_below HIC.out.1 hb) HIC.out.2)
 clear HK HC HOC HIC
 have HK:=HK1
 have HC:=HC1
 have HOC:=HO1
 have HIC:=HI1
 clear HK1 HC1 HO1 HI1
 have HW1:=Aside0.mk (And.intro (Kd.C_below HWC.out.1 hb) HWC.out.2)
 clear HWC
 have HWC:=HW1
 clear HW1
 clear hb hHeld
 refine⟨_,rfl,?_⟩
 refine hK.out _ _ ⟨(blk_cell HK.out.a 0).trans rfl,(blk_cell HK.out.a 1).trans rfl,(blk_cell HK.out.a 2).trans rfl,(blk_cell HK.out.a 3).trans rfl,(blk_cell HK.out.a 4).trans rfl,(blk_cell HK.out.a 5).trans rfl,(blk_cell HK.out.a 6).trans rfl,(blk_cell HK.out.t 0).trans rfl,(blk_cell HK.out.t 1).trans rfl,(blk_cell HK.out.t 2).trans rfl,(blk_cell HK.out.t 3).trans rfl,(blk_cell HK.out.t 4).trans rfl,(blk_cell HK.out.t 5).trans rfl,(blk_cell HK.out.t 6).trans rfl,(blk_cell HC.out 0).trans rfl,(blk_cell HC.out 1).trans rfl,(blk_cell HC.out 2).trans rfl,(blk_cell HC.out 3).trans rfl,(blk_cell HC.out 4).trans rfl,(blk_cell HC.out 5).trans rfl,(blk_cell HC.out 6).trans rfl⟩ (fun hHeld=>?_)
 clear hK K
 obtain⟨wq,rfl⟩:∃wq:World,wq=we:=⟨_,rfl⟩
 refine norm_ (a':=?_) ?_ ?_
 rotate_left
 ·show Act.put _ (some 54) _ = _
  simp only [Act.put,M.sq3,i64_w,i32_w]
  rfl
 iterate 5 (first|(refine pn_ (v:=?_) (a':=?_) rfl (rfl (a:=some _)) (any_of HT_.out (by kernel_rfl)) (fun _ _ _ h=>h) (Or.inl ⟨by rfl,?_⟩) ?_ ?_;rotate_left;(intro w';go_simp;with_reducible rfl);rotate_left;(simp only [Act.put,M.sq3,i64_w,i32_w];rfl))|(refine tn_ (v:=?_) (a':=?_) rfl (rfl (a:=some _)) (take_ofW HT_.out HW_.out (by kernel_rfl)) (fun _ _ _ h=>h) (Or.inl ⟨by rfl,?_⟩) hHeld ?_ ?_;rotate_left;(intro w' hS_;obtain⟨s0,s1,s2,s3,s4,s5,s6,s7,s8,s9,s10,s11,s12,s13,s14,s15,s16,s17,s18,s19,s20⟩:=hS_;go_simp;with_reducible rfl);rotate_left;(simp only [Act.put,M.sq3,i64_w,i32_w];rfl)))
 refine po_ 14 (v:=?_) (a':=?_) rfl (rfl (a:=some _)) (any_of HT_.out (by kernel_rfl)) (fun _ _ _ h=>h) (Or.inl ⟨by rfl,?_⟩) ?_ ?_;rotate_left;(intro w';go_simp;with_reducible rfl);rotate_left;(simp only [Act.put,M.sq3,i64_w,i32_w];rfl)
 refine to_ 15 (v:=?_) (a':=?_) rfl (rfl (a:=some _)) (take_ofW HT_.out HW_.out (by kernel_rfl)) (fun _ _ _ h=>h) (Or.inl ⟨by rfl,?_⟩) hHeld ?_ ?_;rotate_left;(intro w' hS_;obtain⟨s0,s1,s2,s3,s4,s5,s6,s7,s8,s9,s10,s11,s12,s13,s14,s15,s16,s17,s18,s19,s20⟩:=hS_;go_simp;with_reducible rfl);rotate_left;(simp only [Act.put,M.sq3,i64_w,i32_w];rfl)
 refine po_ 16 (v:=?_) (a':=?_) rfl (rfl (a:=some _)) (any_of HT_.out (by kernel_rfl)) (fun _ _ _ h=>h) (Or.inl ⟨by rfl,?_⟩) ?_ ?_;rotate_left;(intro w';go_simp;with_reducible rfl);rotate_left;(simp only [Act.put,M.sq3,i64_w,i32_w];rfl)
 refine one_ (i:=13) (N:=(some 60)) (pm 17 4) rfl rfl (one_of HT_.out (by kernel_rfl)) (by decide) (fun K hK=>?_)
 refine goes_ Try.func23 (by kernel_rfl) rfl #[.slice AS S.length cS,.agg #[.int .i64 N,.int .i64 G,.slice Z2 i.length z2,.slice Z3 st.f.length z3,.slice Z4 st.o.length z4,.slice Z5 st.c.length z5,.slice Z6 st.n.length z6],.slice WA ww.length wcap] rfl rfl rfl (by(try simp only [List.map_toArray,List.map_cons,List.map_nil]);rfl) ?_
 refine(runs_Takes.calls AS cS S N G Z2 z2 i Z3 z3 (st.f) Z4 z4 (st.o) Z5 z5 (st.c) Z6 z6 (st.n) WA wcap ww r _ (Kd.R_reads' HK.out.s).2.2 (Kd.R_reads' HK.out.s).2.1 HK.out.a2.1 HK.out.a2.2 HK.out.a3.1 HK.out.a3.2 HK.out.a4.1 HK.out.a4.2 HK.out.a5.1 HK.out.a5.2 HK.out.a6.1 HK.out.a6.2 HWC.out.1 HWC.out.2 T1.out).mono ?_
 rintro e we ⟨rfl,hb⟩
 have HK1:=Aside0.mk (HK.out.below hb)
 have HC1:=Aside0.mk (blk_below HC.out hb)
 have HO1:=Aside0.mk (And.intro (Kd.C_below HOC.out.1 hb) HOC.out.2)
 have HI1:=Aside0.mk (And.intro (Kd.C_below HIC.out.1 hb) HIC.out.2)
 clear HK HC HOC HIC
 have HK:=HK1
 have HC:=HC1
 have HOC:=HO1
 have HIC:=HI1
 clear HK1 HC1 HO1 HI1
 have HW1:=Aside0.mk (And.intro (Kd.C_below HWC.out.1 hb) HWC.out.2)
 clear HWC
 have HWC:=HW1
 clear HW1
 clear hb hHeld
 refine⟨_,rfl,?_⟩
 refine hK.out _ _ ⟨(blk_cell HK.out.a 0).trans rfl,(blk_cell HK.out.a 1).trans rfl,(blk_cell HK.out.a 2).trans rfl,(blk_cell HK.out.a 3).trans rfl,(blk_cell HK.out.a 4).trans rfl,(blk_cell HK.out.a 5).trans rfl,(blk_cell HK.out.a 6).trans rfl,(blk_cell HK.out.t 0).trans rfl,(blk_cell HK.out.t 1).trans rfl,(blk_cell HK.out.t 2).trans rfl,(blk_cell HK.out.t 3).trans rfl,(blk_cell HK.out.t 4).trans rfl,(blk_cell HK.out.t 5).trans rfl,(blk_cell HK.out.t 6).trans rfl,(blk_cell HC.out 0).trans rfl,(blk_cell HC.out 1).trans rfl,(blk_cell HC.out 2).trans rfl,(blk_cell HC.out 3).trans rfl,(blk_cell HC.out 4).trans rfl,(blk_cell HC.out 5).trans rfl,(blk_cell HC.out 6).trans rfl⟩ (fun hHeld=>?_)
 clear hK K
 obtain⟨wq,rfl⟩:∃wq:World,wq=we:=⟨_,rfl⟩
 refine norm_ (a':=?_) ?_ ?_
 rotate_left
 ·show Act.put _ (some 60) _ = _
  simp only [Act.put,M.sq3,i64_w,i32_w]
  rfl
 refine one_ (i:=17) (N:=(some 64)) (pm 18 3) rfl rfl (one_of HT_.out (by kernel_rfl)) (by decide) (fun K hK=>?_)
 refine goes_ Try.func23 (by kernel_rfl) rfl #[.slice AS S.length cS,.agg #[.int .i64 N,.int .i64 G,.slice Z2 i.length z2,.slice Z3 st.f.length z3,.slice OA oo.length oc,.slice Z5 st.c.length z5,.slice IA nn.length ic],.slice WA ww.length wcap] rfl rfl rfl (by(try simp only [List.map_toArray,List.map_cons,List.map_nil]);rfl) ?_
 refine(runs_Takes.calls AS cS S N G Z2 z2 i Z3 z3 (st.f) OA oc oo Z5 z5 (st.c) IA ic nn WA wcap ww r _ (Kd.R_reads' HK.out.s).2.2 (Kd.R_reads' HK.out.s).2.1 HK.out.a2.1 HK.out.a2.2 HK.out.a3.1 HK.out.a3.2 HOC.out.1 HOC.out.2 HK.out.a5.1 HK.out.a5.2 HIC.out.1 HIC.out.2 HWC.out.1 HWC.out.2 T3.out).mono ?_
 rintro e we ⟨rfl,hb⟩
 have HK1:=Aside0.mk (HK.out.below hb)
 have HC1:=Aside0.mk (blk_below HC.out hb)
 have HO1:=Aside0.mk (And.intro (Kd.C_below HOC.out.1 hb) HOC.out.2)
 have HI1:=Aside0.mk (And.intro (Kd.C_below HIC.out.1 hb) HIC.out.2)
 clear HK HC HOC HIC
 have HK:=HK1
 have HC:=HC1
 have HOC:=HO1
 have HIC:=HI1
 clear HK1 HC1 HO1 HI1
 have HW1:=Aside0.mk (And.intro (Kd.C_below HWC.out.1 hb) HWC.out.2)
 clear HWC
 have HWC:=HW1
 clear HW1
 clear hb hHeld
 refine⟨_,rfl,?_⟩
 refine hK.out _ _ ⟨(blk_cell HK.out.a 0).trans rfl,(blk_cell HK.out.a 1).trans rfl,(blk_cell HK.out.a 2).trans rfl,(blk_cell HK.out.a 3).trans rfl,(blk_cell HK.out.a 4).trans rfl,(blk_cell HK.out.a 5).trans rfl,(blk_cell HK.out.a 6).trans rfl,(blk_cell HK.out.t 0).trans rfl,(blk_cell HK.out.t 1).trans rfl,(blk_cell HK.out.t 2).trans rfl,(blk_cell HK.out.t 3).trans rfl,(blk_cell HK.out.t 4).trans rfl,(blk_cell HK.out.t 5).trans rfl,(blk_cell HK.out.t 6).trans rfl,(blk_cell HC.out 0).trans rfl,(blk_cell HC.out 1).trans rfl,(blk_cell HC.out 2).trans rfl,(blk_cell HC.out 3).trans rfl,(blk_cell HC.out 4).trans rfl,(blk_cell HC.out 5).trans rfl,(blk_cell HC.out 6).trans rfl⟩ (fun hHeld=>?_)
 clear hK K
 obtain⟨wq,rfl⟩:∃wq:World,wq=we:=⟨_,rfl⟩
 refine norm_ (a':=?_) ?_ ?_
 rotate_left
 ·show Act.put _ (some 64) _ = _
  simp only [Act.put,M.sq3,i64_w,i32_w]
  rfl
 iterate 3 (refine pn_ (v:=?_) (a':=?_) rfl (rfl (a:=some _)) (any_of HT_.out (by kernel_rfl)) (fun _ _ _ h=>h) (Or.inl ⟨by rfl,?_⟩) ?_ ?_;rotate_left;(intro w';go_simp;with_reducible rfl);rotate_left;(simp only [Act.put,M.sq3,i64_w,i32_w];rfl))
 refine done_ (done_of HT_.out (by kernel_rfl)) ?_
 go_wp2
 go_ret
 exact⟨rfl,HK.out.b⟩
theorem canopylaw4_RunsNorm.walk (P:canopylaw4_RunsNorm.Pure) (a0:Int) (a1:Int) (a2:Option Addr) (len2 cap2:Nat) (z2:List Int) (a3:Option Addr) (len3 cap3:Nat) (z3:List Int) (w:World) (w0:(Lit.int .i64 a0).wf=true) (w1:(Lit.int .i64 a1).wf=true) (w2:(a2=none∧len2=0∧cap2=0∧z2 = [])∨∃x,a2=some x∧len2≤cap2∧cap2≤maxLen∧z2.length=cap2∧(∀i,i < z2.length→w.cell? (x.add i)=some (.int .i64 (z2.getD i 0)))∧∀n∈z2,(Lit.int .i64 n).wf=true) (y2:len2*8≤140737488351232) (w3:(a3=none∧len3=0∧cap3=0∧z3 = [])∨∃x,a3=some x∧len3≤cap3∧cap3≤maxLen∧z3.length=cap3∧(∀i,i < z3.length→w.cell? (x.add i)=some (.int .i64 (z3.getD i 0)))∧∀n∈z3,(Lit.int .i64 n).wf=true) (y3:len3*8≤140737488351232) :
 Calls Try.prog 4 #[.int .i64 a0,.int .i64 a1,.slice a2 len2 cap2,.slice a3 len3 cap3] w fun e w'=>e=.returned (.bool true)∧Below w.heap.size w w':=by
 obtain⟨l2,rfl,hr2,hm2,hw2,hc2⟩:=ReadsInt.ofRowC w2
 obtain⟨l3,rfl,hr3,hm3,hw3,hc3⟩:=ReadsInt.ofRowC w3
 exact rnorm_walk a0 a1 _ _ l2 _ _ l3 w (Kd.C_of_reads (d:=(0:Int)) (h1:=fun _=>rfl) hr2) hc2 hm2 (Kd.C_of_reads (d:=(0:Int)) (h1:=fun _=>rfl) hr3) hc3 hm3
end Go.Proofs.Ytjkhdldgmkkhjaa.P
