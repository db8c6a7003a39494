/- Words and walks of this claim: LRLong. -/
import Derived.Test.YtjkhdldgmkkhjaaIURNormEtc
import Derived.Test.YtjkhdldgmkkhjaaIUTyEtc
import Derived.Test.YtjkhdldgmkkhjaaISMake
import Derived.Test.YtjkhdldgmkkhjaaISStepEtc
import Derived.Test.YtjkhdldgmkkhjaaISTakes
import Derived.Test.YtjkhdldgmkkhjaaIP0Etc
import Derived.BigQuiet
set_option linter.unusedVariables false
set_option linter.unusedSimpArgs false
set_option linter.unnecessarySimpa false
namespace Go.Proofs.Ytjkhdldgmkkhjaa.P
open Go.RowKit Go.Sort Go.Shelf Go.Proofs.YtjkhdldgmkkhjaaW.PrintWords Go.Proofs.YtjkhdldgmkkhjaaW.PrintLast Go.Proofs.YtjkhdldgmkkhjaaW.PrintMore Go.Proofs.Ytjkhdldgmkkhjaa.M
theorem rt_cells {w:World} {g t:Nat} {a b c d e f h:Value} (H:w.heap[g]? = some (.cells #[a,b,c,d,e,f,h] t (0,0))):w.cell? ⟨g,0,none⟩=some a∧w.cell? ⟨g,1,none⟩=some b∧w.cell? ⟨g,2,none⟩=some c∧w.cell? ⟨g,3,none⟩=some d∧w.cell? ⟨g,4,none⟩=some e∧w.cell? ⟨g,5,none⟩=some f∧w.cell? ⟨g,6,none⟩=some h:=
 ⟨(blk_cell H 0).trans rfl,(blk_cell H 1).trans rfl,(blk_cell H 2).trans rfl,(blk_cell H 3).trans rfl,(blk_cell H 4).trans rfl,(blk_cell H 5).trans rfl,(blk_cell H 6).trans rfl⟩
def mkJ (st:MSt):List Int:=if (st.i.length:Int)=0 then [0] else st.i
theorem rfarA {α:Type} {d:Kd α} {e t B g:Nat} {w:World} {v:Value} {xs:List α} {cs:Array Value} (h:d.R e w B (fun k=>some k=v.ownBlock) v xs) (ht:w.heap[g]? = some (.cells cs t (0,0))) (hd:e≠t) (q:Nat) (u:Value):d.R e (w.setCell ⟨g,q,none⟩ u) B (fun k=>some k=v.ownBlock) v xs:=
 Kd.R_far (p:=⟨g,q,none⟩) h (fun k hk e=>Kd.R_ne h ht hd (by rw [←hk];exact congrArg some e.symm)) u
theorem rfar3 {α:Type} {d:Kd α} {e t B g:Nat} {w:World} {v:Value} {xs:List α} {a0 a1 a2 a3 a4 a5 a6:Value} (h:d.R e w B (fun k=>some k=v.ownBlock) v xs) (ht:w.heap[g]? = some (.cells #[a0,a1,a2,a3,a4,a5,a6] t (0,0))) (hd:e≠t) (x y z:Value):d.R e (((w.setCell ⟨g,4,none⟩ x).setCell ⟨g,5,none⟩ y).setCell ⟨g,6,none⟩ z) B (fun k=>some k=v.ownBlock) v xs:=
 rfarA (rfarA (rfarA h ht hd 4 x) (blk_put ht 4 x rfl) hd 5 y) (blk_put (blk_put ht 4 x rfl) 5 y rfl) hd 6 z
structure LS (w wS w' : World) (ga:Nat) (N G:Int) (V2 V3 v4 v5 v6:Value) (d4:List TOpen) (d5:List TClose) (d6:List TInner):Prop where
 b:Below w.heap.size w w'
 k:Kept wS w' (fun k=>k=ga)
 g:w.heap.size≤ga
 z:w.heap.size≤wS.heap.size
 t:w'.heap[ga]? = some (.cells #[.int .i64 N,.int .i64 G,V2,V3,v4,v5,v6] 30 (0,0))
 r4:Kd.R k52 52 w' wS.heap.size (fun k=>some k=(v4:Value).ownBlock) (v4) (d4)
 r5:Kd.R k54 54 w' wS.heap.size (fun k=>some k=(v5:Value).ownBlock) (v5) (d5)
 r6:Kd.R k56 56 w' wS.heap.size (fun k=>some k=(v6:Value).ownBlock) (v6) (d6)
section
variable {w wS W w4 : World} {ga : Nat} {N G : Int} {V2 V3 v4 v5 v6 v' : Value} {d4 : List TOpen} {d5 : List TClose} {d6 : List TInner}
theorem LS.below (h:LS w wS W ga N G V2 V3 v4 v5 v6 d4 d5 d6) (hb:Below W.heap.size W w4):LS w wS w4 ga N G V2 V3 v4 v5 v6 d4 d5 d6:=
 ⟨below_then h.b h.b.size hb,h.k.below hb,h.g,h.z,blk_below h.t hb,Kd.R_below h.r4 hb,Kd.R_below h.r5 hb,Kd.R_below h.r6 hb⟩
theorem LS.app4 {p:TOpen} {ok:Nat→Prop} (h:LS w wS W ga N G V2 V3 v4 v5 v6 d4 d5 d6) (hr:Kd.R k52 52 w4 wS.heap.size ok v' (d4 ++ [p])) (hb:Below wS.heap.size W w4) (hg:W.grownBy w4 v4.ownBlock):LS w wS (w4.setCell ⟨ga,4,none⟩ v') ga N G V2 V3 v' v5 v6 (d4 ++ [p]) d5 d6:=by
 have hw:Below w.heap.size w w4:=h.b.trans ⟨hb.os,hb.tape,hb.output,hb.size,fun k hk=>hb.block k (Nat.lt_of_lt_of_le hk h.z)⟩
 have hk:Kept wS w4 (fun k=>k=ga):=⟨Nat.le_trans h.k.1 hb.size,fun i hi hn=>(hb.block i hi).trans (h.k.2 i hi hn)⟩
 exact⟨hw.setCell h.g _,hk.setCell (p:=⟨ga,4,none⟩) (.inl rfl) _,h.g,h.z,blk_put (blk_grown h.t hg (Kd.R_ne h.r4 h.t (by decide))) 4 v' rfl,rfarA (Kd.R_tight rfl hr) (blk_grown h.t hg (Kd.R_ne h.r4 h.t (by decide))) (by decide) 4 v',rfarA (Kd.R_over' h.r5 (Kd.R_typed h.r4) (by intro q hq;rcases List.mem_cons.1 hq with rfl|hq;decide;cases hq) hg) (blk_grown h.t hg (Kd.R_ne h.r4 h.t (by decide))) (by decide) 4 v',rfarA (Kd.R_over' h.r6 (Kd.R_typed h.r4) (by intro q hq;rcases List.mem_cons.1 hq with rfl|hq;decide;cases hq) hg) (blk_grown h.t hg (Kd.R_ne h.r4 h.t (by decide))) (by decide) 4 v'⟩
theorem LS.app5 {p:TClose} {ok:Nat→Prop} (h:LS w wS W ga N G V2 V3 v4 v5 v6 d4 d5 d6) (hr:Kd.R k54 54 w4 wS.heap.size ok v' (d5 ++ [p])) (hb:Below wS.heap.size W w4) (hg:W.grownBy w4 v5.ownBlock):LS w wS (w4.setCell ⟨ga,5,none⟩ v') ga N G V2 V3 v4 v' v6 d4 (d5 ++ [p]) d6:=by
 have hw:Below w.heap.size w w4:=h.b.trans ⟨hb.os,hb.tape,hb.output,hb.size,fun k hk=>hb.block k (Nat.lt_of_lt_of_le hk h.z)⟩
 have hk:Kept wS w4 (fun k=>k=ga):=⟨Nat.le_trans h.k.1 hb.size,fun i hi hn=>(hb.block i hi).trans (h.k.2 i hi hn)⟩
 exact⟨hw.setCell h.g _,hk.setCell (p:=⟨ga,5,none⟩) (.inl rfl) _,h.g,h.z,blk_put (blk_grown h.t hg (Kd.R_ne h.r5 h.t (by decide))) 5 v' rfl,rfarA (Kd.R_over' h.r4 (Kd.R_typed h.r5) (by intro q hq;rcases List.mem_cons.1 hq with rfl|hq;decide;cases hq) hg) (blk_grown h.t hg (Kd.R_ne h.r5 h.t (by decide))) (by decide) 5 v',rfarA (Kd.R_tight rfl hr) (blk_grown h.t hg (Kd.R_ne h.r5 h.t (by decide))) (by decide) 5 v',rfarA (Kd.R_over' h.r6 (Kd.R_typed h.r5) (by intro q hq;rcases List.mem_cons.1 hq with rfl|hq;decide;cases hq) hg) (blk_grown h.t hg (Kd.R_ne h.r5 h.t (by decide))) (by decide) 5 v'⟩
theorem LS.app6 {p:TInner} {ok:Nat→Prop} (h:LS w wS W ga N G V2 V3 v4 v5 v6 d4 d5 d6) (hr:Kd.R k56 56 w4 wS.heap.size ok v' (d6 ++ [p])) (hb:Below wS.heap.size W w4) (hg:W.grownBy w4 v6.ownBlock):LS w wS (w4.setCell ⟨ga,6,none⟩ v') ga N G V2 V3 v4 v5 v' d4 d5 (d6 ++ [p]):=by
 have hw:Below w.heap.size w w4:=h.b.trans ⟨hb.os,hb.tape,hb.output,hb.size,fun k hk=>hb.block k (Nat.lt_of_lt_of_le hk h.z)⟩
 have hk:Kept wS w4 (fun k=>k=ga):=⟨Nat.le_trans h.k.1 hb.size,fun i hi hn=>(hb.block i hi).trans (h.k.2 i hi hn)⟩
 exact⟨hw.setCell h.g _,hk.setCell (p:=⟨ga,6,none⟩) (.inl rfl) _,h.g,h.z,blk_put (blk_grown h.t hg (Kd.R_ne h.r6 h.t (by decide))) 6 v' rfl,rfarA (Kd.R_over' h.r4 (Kd.R_typed h.r6) (by intro q hq;rcases List.mem_cons.1 hq with rfl|hq;decide;cases hq) hg) (blk_grown h.t hg (Kd.R_ne h.r6 h.t (by decide))) (by decide) 6 v',rfarA (Kd.R_over' h.r5 (Kd.R_typed h.r6) (by intro q hq;rcases List.mem_cons.1 hq with rfl|hq;decide;cases hq) hg) (blk_grown h.t hg (Kd.R_ne h.r6 h.t (by decide))) (by decide) 6 v',rfarA (Kd.R_tight rfl hr) (blk_grown h.t hg (Kd.R_ne h.r6 h.t (by decide))) (by decide) 6 v'⟩
theorem LS.row (h:LS w wS W ga N G V2 V3 v4 v5 v6 d4 d5 d6) {α:Type} {d:Kd α} {e B:Nat} {v:Value} {xs:List α} {cs:Array Value} (hR:d.R e wS B (fun k=>some k=v.ownBlock) v xs) (hS:wS.heap[ga]? = some (.cells cs 30 (0,0))) (hd:e≠30):d.R e W B (fun k=>some k=v.ownBlock) v xs:=
 Kd.R_step hR (fun k hk hlt=>h.k.2 k hlt (fun e=>Kd.R_ne hR hS hd (by rw [←e];exact hk)))
theorem LS.blk (h:LS w wS W ga N G V2 V3 v4 v5 v6 d4 d5 d6) {g:Nat} {ob:Obj} (hg:wS.heap[g]? = some ob) (hne:g≠ga):W.heap[g]? = some ob:=(h.k.2 g (blk_lt hg) hne).trans hg
end
structure RT (w wq:World) (AS:Option Addr) (cS:Nat) (S:List S46) (ga:Nat) (N G:Int) (Z2:Option Addr) (z2:Nat) (x2:List Int) (Z3:Option Addr) (z3:Nat) (x3:List Int) (Z4:Option Addr) (z4:Nat) (x4:List TOpen) (Z5:Option Addr) (z5:Nat) (x5:List TClose) (Z6:Option Addr) (z6:Nat) (x6:List TInner):Prop where
 b:Below w.heap.size w wq
 s:Kd.C k46 wq AS S.length S∧S.length≤cS
 a2:Kd.C (Kd.int .i64) wq Z2 x2.length x2∧x2.length≤z2
 a3:Kd.C (Kd.int .i64) wq Z3 x3.length x3∧x3.length≤z3
 a4:Kd.C k52 wq Z4 x4.length x4∧x4.length≤z4
 a5:Kd.C k54 wq Z5 x5.length x5∧x5.length≤z5
 a6:Kd.C k56 wq Z6 x6.length x6∧x6.length≤z6
 a:wq.heap[ga]? = some (.cells #[.int .i64 N,.int .i64 G,.slice Z2 x2.length z2,.slice Z3 x3.length z3,.slice Z4 x4.length z4,.slice Z5 x5.length z5,.slice Z6 x6.length z6] 30 (0,0))
theorem RT.below {w wq w' : World} {AS:Option Addr} {cS:Nat} {S:List S46} {ga:Nat} {N G:Int} {Z2:Option Addr} {z2:Nat} {x2:List Int} {Z3:Option Addr} {z3:Nat} {x3:List Int} {Z4:Option Addr} {z4:Nat} {x4:List TOpen} {Z5:Option Addr} {z5:Nat} {x5:List TClose} {Z6:Option Addr} {z6:Nat} {x6:List TInner} (h:RT w wq AS cS S ga N G Z2 z2 x2 Z3 z3 x3 Z4 z4 x4 Z5 z5 x5 Z6 z6 x6) (hb:Below wq.heap.size wq w'):RT w w' AS cS S ga N G Z2 z2 x2 Z3 z3 x3 Z4 z4 x4 Z5 z5 x5 Z6 z6 x6:=
 ⟨below_then h.b h.b.size hb,⟨Kd.C_below h.s.1 hb,h.s.2⟩,⟨Kd.C_below h.a2.1 hb,h.a2.2⟩,⟨Kd.C_below h.a3.1 hb,h.a3.2⟩,⟨Kd.C_below h.a4.1 hb,h.a4.2⟩,⟨Kd.C_below h.a5.1 hb,h.a5.2⟩,⟨Kd.C_below h.a6.1 hb,h.a6.2⟩,blk_below h.a hb⟩
def L27t.T:Bool × List (List Nat × List Nat):=(true,[([],[]),([],[]),([],[]),([2],[2]),([],[]),([4,3],[4]),([0,1,3,5,5],[0,1,3,5]),([6],[6]),([7],[7]),([8,6],[8]),([9],[9]),([9],[9]),([9],[9]),([10,11,12,9,9],[9,10,11,12]),([9],[9]),([9],[9]),([9],[9]),([14,15,16,13,9],[9,14,15,16]),([13,17,9],[9,13,17]),([9,18],[9,18]),([19,17],[19]),([20],[20]),([20],[20]),([20],[20]),([20],[20]),([23,24,20,20],[20,23,24]),([21,22,25,25,20],[20,21,22,25]),([20],[20]),([20],[20]),([20],[20]),([20],[20]),([29,30,26,20],[20,29,30]),([27,28,31,31,20],[20,27,28,31]),([26,32,20],[20,26,32]),([20,33],[20,33]),([34,32,0,1,2,3,4,5,6,7,8,9,10,11,12,13,14,15,16,17,18,19,20,21,22,23,24,25,26,27,28,29,30,31,32,33,34],[34])])
def L27t.B:List Nat:=[0,0,0,4,0,28,63,127,255,511,1023,1023,1023,8191,1023,1023,1023,131071,262143,524287,1048575,2097151,2097151,2097151,2097151,27262975,67108863,2097151,2097151,2097151,2097151,1744830463,4294967295,8589934591,17179869183,34359738367]
theorem L27t.tab:rtab .any (opsOf Try.f7 27)=L27t.T:=by kernel_rfl
theorem L27t.bits:waitsOk L27t.T.2 L27t.B=true:=by kernel_rfl
def canopylaw4_RunsLong.Pure:Prop:=True
set_option maxHeartbeats 16000000 in
set_option maxRecDepth 100000 in
theorem rlong_walk (a0 a3:Int) (A2:Option Addr) (c2:Nat) (ns_:List Int) (A3:Option Addr) (c3:Nat) (ws_:List Int) (w:World) (hr2:Kd.C (Kd.int .i64) w A2 ns_.length ns_) (hc2:ns_.length≤c2) (hm2:ns_.length≤maxLen) (hr3:Kd.C (Kd.int .i64) w A3 ws_.length ws_) (hc3:ws_.length≤c3) (hm3:ws_.length≤maxLen) :
 Calls Try.prog 7 #[.int .i64 a0,.slice A2 ns_.length c2,.slice A3 ws_.length c3,.int .i64 a3] w fun e w'=>e=.returned (.bool true)∧Below w.heap.size w w':=by
 obtain⟨S,hS,hOk⟩:∃S,canopylaw1_Syms.f 0 []=some S∧symOk S:=⟨_,syms_eq 0 [] (by decide),symsL_ok 0 []⟩
 have hN:=makeN_in a0 (most:=3) (by decide)
 have hG:=makeG_in a0
 obtain⟨hI,hL⟩:=mkAll_inv hOk (N:=makeN a0 3) (G:=makeG a0) (by omega) (by omega) ns_
 have HS0:=Aside0.mk (And.intro hS hOk)
 have HINV:=Aside0.mk hI
 have HLEN:=Aside0.mk hL
 have HN:=Aside0.mk hN
 have HI2:=Aside0.mk (And.intro hr2 hc2)
 have HI3:=Aside0.mk (And.intro hr3 (And.intro hc3 hm3))
 clear hS hOk hI hL hN hG hr2 hc2 hm2 hr3 hc3 hm3
 go_enter Try.func7,Try.ntmps7
 go_wp2_with fail
 refine(canopylaw4_known.calls true _ rfl).mono ?_
 rintro e w1 ⟨rfl,hb1⟩
 have HB1:Aside0 (Below w.heap.size w w1):=⟨hb1⟩
 clear hb1
 go_wp2_with fail
 refine(canopylaw1_Syms.calls 0 none 0 [] S _ (Kd.C_nil _ _) (Nat.le_refl _) HS0.out.1).mono ?_
 rintro e w2 ⟨v1,rfl,hr1,hb2⟩
 obtain⟨AS,cS,rfl⟩:=Kd.R_slice hr1
 have HS:Aside0 (Kd.R k46 46 w2 w1.heap.size (fun k=>some k=(.slice AS S.length cS:Value).ownBlock) (.slice AS S.length cS) S):=⟨Kd.R_tight rfl hr1⟩
 have HB2:=Aside0.mk (below_then HB1.out HB1.out.size hb2)
 clear hr1 hb2
 go_wp2_with fail
 refine(make_own AS cS S a0 A2 c2 ns_ 3 _ (Kd.R_reads' HS.out).2.2 (Kd.R_reads' HS.out).2.1 (Kd.C_below HI2.out.1 HB2.out) HS0.out.2 (by decide) (by decide)).mono ?_
 rintro e w3 ⟨v2,v3,v4,v5,v6,rfl,hv,hb3⟩
 obtain⟨st,hst⟩:∃st,st=mkAll S (makeN a0 3) (makeG a0) ns_:=⟨_,rfl⟩
 rw [←hst] at HLEN HINV hv
 obtain⟨N,hN⟩:∃N,N=makeN a0 3:=⟨_,rfl⟩
 obtain⟨G,hG⟩:∃G,G=makeG a0:=⟨_,rfl⟩
 rw [←hN] at HN
 rw [←hN,←hG] at HINV hv ⊢
 have HV:Aside0 (OutV w3 w2.heap.size v2 v3 v4 v5 v6 (mkJ st) st.f st.o st.c st.n):=⟨hv⟩
 have HB3:=Aside0.mk (below_then HB2.out HB2.out.size hb3)
 have HS3:=Aside0.mk (Kd.R_below HS.out hb3)
 clear hst hN hG hv hb3 HB2 HS HB1
 have HLI:Aside0 (1≤(mkJ st).length∧(mkJ st).length≤25∧st.f.length≤24∧st.o.length≤24∧st.c.length≤24∧st.n.length≤24∧∀s∈mkJ st,0≤s∧s < N):=⟨by
  unfold mkJ
  obtain⟨h1,h2,h3,h4,h5⟩:=HLEN.out
  refine⟨?_,?_,h2,h3,h4,h5,?_⟩
  ·split
   ·simp
   ·omega
  ·split
   ·simp
   ·omega
  ·split
   ·intro s hs;rw [List.mem_singleton.1 hs];have:=HN.out;omega
   ·exact HINV.out.i⟩
 obtain⟨i,hi⟩:∃i,i=mkJ st:=⟨_,rfl⟩
 rw [←hi] at HV HLI
 clear hi HLEN
 have q2:=HV.out.r2
 have q3:=HV.out.r3
 have q4:=HV.out.r4
 have q5:=HV.out.r5
 have q6:=HV.out.r6
 obtain⟨Z2,z2,rfl⟩:=Kd.R_slice q2
 obtain⟨Z3,z3,rfl⟩:=Kd.R_slice q3
 obtain⟨Z4,z4,rfl⟩:=Kd.R_slice q4
 obtain⟨Z5,z5,rfl⟩:=Kd.R_slice q5
 obtain⟨Z6,z6,rfl⟩:=Kd.R_slice q6
 clear q2 q3 q4 q5 q6
 have HA3:Aside0 ((w3.alloc (.cells #[.int .i64 N,.int .i64 G,.slice Z2 i.length z2,.slice Z3 st.f.length z3,.slice Z4 st.o.length z4,.slice Z5 st.c.length z5,.slice Z6 st.n.length z6] 30)).heap[w3.heap.size]? = some (.cells #[.int .i64 N,.int .i64 G,.slice Z2 i.length z2,.slice Z3 st.f.length z3,.slice Z4 st.o.length z4,.slice Z5 st.c.length z5,.slice Z6 st.n.length z6] 30 (0,0))):=⟨blk_newAt _ rfl⟩
 have HB3a:=Aside0.mk (below_alloc HB3.out (.cells #[.int .i64 N,.int .i64 G,.slice Z2 i.length z2,.slice Z3 st.f.length z3,.slice Z4 st.o.length z4,.slice Z5 st.c.length z5,.slice Z6 st.n.length z6] 30))
 have HS3a:=Aside0.mk (Kd.R_alloc HS3.out (.cells #[.int .i64 N,.int .i64 G,.slice Z2 i.length z2,.slice Z3 st.f.length z3,.slice Z4 st.o.length z4,.slice Z5 st.c.length z5,.slice Z6 st.n.length z6] 30))
 have HGA:Aside0 (w.heap.size≤w3.heap.size):=⟨HB3.out.size⟩
 have HR2:=Aside0.mk (Kd.R_alloc HV.out.r2 (.cells #[.int .i64 N,.int .i64 G,.slice Z2 i.length z2,.slice Z3 st.f.length z3,.slice Z4 st.o.length z4,.slice Z5 st.c.length z5,.slice Z6 st.n.length z6] 30))
 have HR3:=Aside0.mk (Kd.R_alloc HV.out.r3 (.cells #[.int .i64 N,.int .i64 G,.slice Z2 i.length z2,.slice Z3 st.f.length z3,.slice Z4 st.o.length z4,.slice Z5 st.c.length z5,.slice Z6 st.n.length z6] 30))
 have HR4:=Aside0.mk (Kd.R_alloc HV.out.r4 (.cells #[.int .i64 N,.int .i64 G,.slice Z2 i.length z2,.slice Z3 st.f.length z3,.slice Z4 st.o.length z4,.slice Z5 st.c.length z5,.slice Z6 st.n.length z6] 30))
 have HR5:=Aside0.mk (Kd.R_alloc HV.out.r5 (.cells #[.int .i64 N,.int .i64 G,.slice Z2 i.length z2,.slice Z3 st.f.length z3,.slice Z4 st.o.length z4,.slice Z5 st.c.length z5,.slice Z6 st.n.length z6] 30))
 have HR6:=Aside0.mk (Kd.R_alloc HV.out.r6 (.cells #[.int .i64 N,.int .i64 G,.slice Z2 i.length z2,.slice Z3 st.f.length z3,.slice Z4 st.o.length z4,.slice Z5 st.c.length z5,.slice Z6 st.n.length z6] 30))
 clear HV HS3 HB3
 go_upto_region 5 with (fail)
 obtain⟨wq,hwq⟩:∃W:World,W=w3.alloc (.cells #[.int .i64 N,.int .i64 G,.slice Z2 i.length z2,.slice Z3 st.f.length z3,.slice Z4 st.o.length z4,.slice Z5 st.c.length z5,.slice Z6 st.n.length z6] 30):=⟨_,rfl⟩
 obtain⟨ga,hga⟩:∃g,g=w3.heap.size:=⟨_,rfl⟩
 rw [←hwq,←hga] at HA3
 rw [←hwq] at HB3a HS3a HR2 HR3 HR4 HR5 HR6
 rw [←hga] at HGA
 rw [←hwq,←hga]
 clear hwq hga w3
 obtain⟨i0_,hi0,_,hsz0,_⟩:=info_parts infoInt
 have hcut:=cut_to (P:=Try.prog) 22 3 .i64 Try.underlying22 hi0 Z2 i.length z2 1 (by decide) (by have:=HLI.out.1;omega) (Kd.R_reads' HR2.out).2.1
 rw [show ((1:Int).toNat)=1 from rfl] at hcut
 obtain⟨f0,hf0⟩:∃f0,i.take 1 = [f0]:=by
  have h:=HLI.out.1
  cases e:i with
  | nil=>rw [e] at h;simp at h
  | cons x t=>exact⟨x,rfl⟩
 have HF0:Aside0 (0≤f0∧f0 < N):=⟨HLI.out.2.2.2.2.2.2 f0 (List.mem_of_mem_take (by rw [hf0];exact List.mem_singleton.2 rfl))⟩
 have HR2c:Aside0 (Kd.R (Kd.int .i64) 3 wq w2.heap.size (fun k=>some k=(.slice Z2 1 z2:Value).ownBlock) (.slice Z2 1 z2) ([f0])):=⟨by have h:=Kd.R_take HR2.out (m:=1) HLI.out.1;rw [hf0] at h;exact Kd.R_tight rfl h⟩
 clear hi0 hsz0 hf0
 have b2:wq.cell? ⟨ga,2,none⟩=some (.slice Z2 i.length z2):=(blk_cell HA3.out 2).trans rfl
 have f2:=blk_frozen HA3.out 2
 go_upto_region 6 with (fail)
 clear hcut b2 f2
 obtain⟨wn,hwn⟩:∃W:World,W=wq.setCell ⟨ga,2,none⟩ (.slice Z2 1 z2):=⟨_,rfl⟩
 have HA4:Aside0 (wn.heap[ga]? = some (.cells #[.int .i64 N,.int .i64 G,.slice Z2 1 z2,.slice Z3 st.f.length z3,.slice Z4 st.o.length z4,.slice Z5 st.c.length z5,.slice Z6 st.n.length z6] 30 (0,0))):=⟨by rw [hwn];exact blk_put HA3.out 2 _ rfl⟩
 have HB4:Aside0 (Below w.heap.size w wn):=⟨by rw [hwn];exact HB3a.out.setCell HGA.out _⟩
 have HS4:Aside0 (Kd.R k46 46 wn w1.heap.size (fun k=>some k=(.slice AS S.length cS:Value).ownBlock) (.slice AS S.length cS) S):=⟨by rw [hwn];exact rfarA HS3a.out HA3.out (by decide) 2 _⟩
 have HQ2:Aside0 (Kd.R (Kd.int .i64) 3 wn w2.heap.size (fun k=>some k=(.slice Z2 1 z2:Value).ownBlock) (.slice Z2 1 z2) ([f0])):=⟨by rw [hwn];exact rfarA HR2c.out HA3.out (by decide) 2 _⟩
 have HQ3:Aside0 (Kd.R (Kd.int .i64) 3 wn w2.heap.size (fun k=>some k=(.slice Z3 st.f.length z3:Value).ownBlock) (.slice Z3 st.f.length z3) (st.f)):=⟨by rw [hwn];exact rfarA HR3.out HA3.out (by decide) 2 _⟩
 have HQ4:Aside0 (Kd.R k52 52 wn w2.heap.size (fun k=>some k=(.slice Z4 st.o.length z4:Value).ownBlock) (.slice Z4 st.o.length z4) (st.o)):=⟨by rw [hwn];exact rfarA HR4.out HA3.out (by decide) 2 _⟩
 have HQ5:Aside0 (Kd.R k54 54 wn w2.heap.size (fun k=>some k=(.slice Z5 st.c.length z5:Value).ownBlock) (.slice Z5 st.c.length z5) (st.c)):=⟨by rw [hwn];exact rfarA HR5.out HA3.out (by decide) 2 _⟩
 have HQ6:Aside0 (Kd.R k56 56 wn w2.heap.size (fun k=>some k=(.slice Z6 st.n.length z6:Value).ownBlock) (.slice Z6 st.n.length z6) (st.n)):=⟨by rw [hwn];exact rfarA HR6.out HA3.out (by decide) 2 _⟩
 rw [←hwn]
 clear hwn HA3 HB3a HS3a HR2 HR3 HR4 HR5 HR6 HR2c wq
 obtain⟨wq,rfl⟩:∃W:World,W=wn:=⟨_,rfl⟩
 -- MARK1
 obtain⟨b0,b1,b2,b3,b4,b5,b6⟩:=rt_cells HA4.out
 go_wp2_with fail
 refine(refnorm_own N G Z2 z2 [f0] Z3 z3 (st.f) Z4 z4 (st.o) Z5 z5 (st.c) Z6 z6 (st.n) wq (Kd.R_reads' HQ2.out).2.2 (Kd.R_reads' HQ2.out).2.1 (by simp) (Kd.R_reads' HQ3.out).2.2 (Kd.R_reads' HQ3.out).2.1 (by have:=HLI.out;omega) (Kd.R_reads' HQ4.out).2.2 (Kd.R_reads' HQ4.out).2.1 (by have:=HLI.out;omega) (Kd.R_reads' HQ5.out).2.2 (Kd.R_reads' HQ5.out).2.1 (by have:=HLI.out;omega) (Kd.R_reads' HQ6.out).2.2 (Kd.R_reads' HQ6.out).2.1 (by have:=HLI.out;omega)).mono ?_
 rintro e w4 ⟨u2,u3,u4,u5,u6,rfl,hv,hb4⟩
 obtain⟨l2,hl2⟩:∃l,l=onceC cmpInt [f0]:=⟨_,rfl⟩
 obtain⟨l3,hl3⟩:∃l,l=onceC cmpInt st.f:=⟨_,rfl⟩
 obtain⟨l4,hl4⟩:∃l,l=(onceC cmpOpen (st.o.map toOpen4)).map ofOpen4:=⟨_,rfl⟩
 obtain⟨l5,hl5⟩:∃l,l=(onceC cmpOpen (st.c.map toOpen5)).map ofOpen5:=⟨_,rfl⟩
 obtain⟨l6,hl6⟩:∃l,l=(onceC cmpOpen (st.n.map toOpen6)).map ofOpen6:=⟨_,rfl⟩
 rw [←hl2,←hl3,←hl4,←hl5,←hl6] at hv
 have HLL:=Aside0.mk (And.intro hl4 (And.intro hl5 hl6))
 have HLN:Aside0 (l4.length≤24∧l5.length≤24∧l6.length≤24):=⟨by
  have h:=HLI.out
  have h4:=once_len1 totalOpen (st.o.map toOpen4)
  have h5:=once_len1 totalOpen (st.c.map toOpen5)
  have h6:=once_len1 totalOpen (st.n.map toOpen6)
  rw [List.length_map] at h4 h5 h6
  rw [hl4,hl5,hl6,List.length_map,List.length_map,List.length_map]
  omega⟩
 clear hl2 hl3 hl4 hl5 hl6
 have q2:=hv.r2
 have q3:=hv.r3
 have q4:=hv.r4
 have q5:=hv.r5
 have q6:=hv.r6
 obtain⟨Y2,y2,rfl⟩:=Kd.R_slice q2
 obtain⟨Y3,y3,rfl⟩:=Kd.R_slice q3
 obtain⟨Y4,y4,rfl⟩:=Kd.R_slice q4
 obtain⟨Y5,y5,rfl⟩:=Kd.R_slice q5
 obtain⟨Y6,y6,rfl⟩:=Kd.R_slice q6
 have hbt:Below w4.heap.size w4 (w4.alloc (.cells #[.int .i64 N,.int .i64 G,.slice Y2 l2.length y2,.slice Y3 l3.length y3,.slice Y4 l4.length y4,.slice Y5 l5.length y5,.slice Y6 l6.length y6] 30)):=below_alloc (Below.refl _ _) _
 have HB5:=Aside0.mk (below_then (below_then HB4.out HB4.out.size hb4) (below_then HB4.out HB4.out.size hb4).size hbt)
 have HA5:=Aside0.mk (blk_below (blk_below HA4.out hb4) hbt)
 have HT5:Aside0 ((w4.alloc (.cells #[.int .i64 N,.int .i64 G,.slice Y2 l2.length y2,.slice Y3 l3.length y3,.slice Y4 l4.length y4,.slice Y5 l5.length y5,.slice Y6 l6.length y6] 30)).heap[w4.heap.size]? = some (.cells #[.int .i64 N,.int .i64 G,.slice Y2 l2.length y2,.slice Y3 l3.length y3,.slice Y4 l4.length y4,.slice Y5 l5.length y5,.slice Y6 l6.length y6] 30 (0,0))):=⟨blk_newAt _ rfl⟩
 have HGT:Aside0 (w4.heap.size≠ga):=⟨by have h1:=blk_lt HA4.out;have h2:=hb4.size;omega⟩
 have HS5:=Aside0.mk (Kd.R_below (Kd.R_below HS4.out hb4) hbt)
 have HP2:=Aside0.mk (Kd.R_below (Kd.R_below HQ2.out hb4) hbt)
 have HP3:=Aside0.mk (Kd.R_below (Kd.R_below HQ3.out hb4) hbt)
 have HM4:=Aside0.mk (Kd.R_below hv.r4 hbt)
 have HM5:=Aside0.mk (Kd.R_below hv.r5 hbt)
 have HM6:=Aside0.mk (Kd.R_below hv.r6 hbt)
 clear q2 q3 q4 q5 q6 hv hb4 hbt HB4 HA4 HS4 HQ2 HQ3 HQ4 HQ5 HQ6 b0 b1 b2 b3 b4 b5 b6
 go_upto_region 7 with (fail)
 obtain⟨wn,hwn⟩:∃W:World,W=w4.alloc (.cells #[.int .i64 N,.int .i64 G,.slice Y2 l2.length y2,.slice Y3 l3.length y3,.slice Y4 l4.length y4,.slice Y5 l5.length y5,.slice Y6 l6.length y6] 30):=⟨_,rfl⟩
 obtain⟨gb,hgb⟩:∃g,g=w4.heap.size:=⟨_,rfl⟩
 rw [←hwn] at HB5 HA5 HT5 HS5 HP2 HP3 HM4 HM5 HM6
 rw [←hgb] at HT5 HGT
 rw [←hwn,←hgb]
 clear hwn hgb w4
 obtain⟨b0,b1,b2,b3,b4,b5,b6⟩:=rt_cells HA5.out
 have f4:=blk_frozen HA5.out 4
 have f5:=blk_frozen HA5.out 5
 have f6:=blk_frozen HA5.out 6
 go_upto_region 8 with (fail)
 clear b0 b1 b2 b3 b4 b5 b6 f4 f5 f6
 -- MARK2
 obtain⟨wS,hwS⟩:∃W:World,W=(((wn.setCell ⟨ga,4,none⟩ (.slice none 0 0)).setCell ⟨ga,5,none⟩ (.slice none 0 0)).setCell ⟨ga,6,none⟩ (.slice none 0 0)):=⟨_,rfl⟩
 have HAS:Aside0 (wS.heap[ga]? = some (.cells #[.int .i64 N,.int .i64 G,.slice Z2 1 z2,.slice Z3 st.f.length z3,.slice none 0 0,.slice none 0 0,.slice none 0 0] 30 (0,0))):=⟨by rw [hwS];exact blk_put (blk_put (blk_put HA5.out 4 _ rfl) 5 _ rfl) 6 _ rfl⟩
 have HTS:Aside0 (wS.heap[gb]? = some (.cells #[.int .i64 N,.int .i64 G,.slice Y2 l2.length y2,.slice Y3 l3.length y3,.slice Y4 l4.length y4,.slice Y5 l5.length y5,.slice Y6 l6.length y6] 30 (0,0))):=⟨by rw [hwS];exact blk_far (blk_far (blk_far HT5.out HGT.out _) HGT.out _) HGT.out _⟩
 have HBS:Aside0 (Below w.heap.size w wS):=⟨by rw [hwS];exact((HB5.out.setCell HGA.out _).setCell HGA.out _).setCell HGA.out _⟩
 have HSS:=Aside0.mk (rfar3 HS5.out HA5.out (by decide) (.slice none 0 0) (.slice none 0 0) (.slice none 0 0))
 have HI2S:=Aside0.mk (rfar3 HP2.out HA5.out (by decide) (.slice none 0 0) (.slice none 0 0) (.slice none 0 0))
 have HI3S:=Aside0.mk (rfar3 HP3.out HA5.out (by decide) (.slice none 0 0) (.slice none 0 0) (.slice none 0 0))
 have HM4S:=Aside0.mk (rfar3 HM4.out HA5.out (by decide) (.slice none 0 0) (.slice none 0 0) (.slice none 0 0))
 have HM5S:=Aside0.mk (rfar3 HM5.out HA5.out (by decide) (.slice none 0 0) (.slice none 0 0) (.slice none 0 0))
 have HM6S:=Aside0.mk (rfar3 HM6.out HA5.out (by decide) (.slice none 0 0) (.slice none 0 0) (.slice none 0 0))
 rw [←hwS] at HSS HI2S HI3S HM4S HM5S HM6S ⊢
 clear hwS HA5 HT5 HB5 HS5 HP2 HP3 HM4 HM5 HM6 wn
 try clear wq
 have HL:Aside0 (LS w wS wS ga N G (.slice Z2 1 z2) (.slice Z3 st.f.length z3) (.slice none 0 0) (.slice none 0 0) (.slice none 0 0) (dd neO none (l4.take 0)) (dd neC none (l5.take 0)) (dd neN none (l6.take 0))):=⟨⟨HBS.out,Kept.refl _ _,HGA.out,HBS.out.size,HAS.out,Kd.R_nil _ _ _ _ _,Kd.R_nil _ _ _ _ _,Kd.R_nil _ _ _ _ _⟩⟩
 obtain⟨wl,hwl⟩:∃W:World,W=wS:=⟨_,rfl⟩
 have HL0:Aside0 (LS w wS wl ga N G (.slice Z2 1 z2) (.slice Z3 st.f.length z3) (.slice none 0 0) (.slice none 0 0) (.slice none 0 0) (dd neO none (l4.take 0)) (dd neC none (l5.take 0)) (dd neN none (l6.take 0))):=⟨by rw [hwl];exact HL.out⟩
 rw [←hwl]
 clear hwl HL HBS
 have HL:=HL0
 clear HL0
 go_wp2
 go_loopg [12] l4.length (fun gk vi w'=>∃(i_:Nat) (u_:Value),vi=.int .i64 (i_:Int)∧Aside0 (i_≤l4.length∧l4.length - i_≤gk)∧Aside0 (LS w wS w' ga N G (.slice Z2 1 z2) (.slice Z3 st.f.length z3) u_ (.slice none 0 0) (.slice none 0 0) (dd neO none (l4.take i_)) (dd neC none (l5.take 0)) (dd neN none (l6.take 0))))
 case atStart=>exact⟨0,_,rfl,⟨by omega,by omega⟩,HL⟩
 case round=>
  try clear s3
  clear HL
  obtain⟨i_,u_,rfl,Hi,HL⟩:=hrel
  try clear wl
  obtain⟨wl,rfl⟩:∃W:World,W=wr:=⟨_,rfl⟩
  have t4:wl.cell? ⟨gb,4,none⟩=some (.slice Y4 l4.length y4):=(blk_cell (HL.out.blk HTS.out HGT.out) 4).trans rfl
  by_cases hl_:i_ < l4.length
  ·as_aux_lemma=>
    have HLT:=Aside0.mk hl_
    have HC:=Aside0.mk (Kd.R_reads' (HL.out.row HM4S.out HAS.out (by decide))).2.2
    obtain⟨ad,eA,e0,e1,e2,e3⟩:=at_T52 HC.out (i_:Int) (by omega) (by omega)
    have hrd:rd_T52 l4 (i_:Int)=l4[i_]:=by unfold rd_T52;rw [Int.toNat_natCast,List.getD_eq_getElem?_getD,List.getElem?_eq_getElem hl_];rfl
    rw [hrd,Int.toNat_natCast] at e0 e1 e2 e3
    have hr_:l4[i_]? = some l4[i_]:=List.getElem?_eq_getElem hl_
    generalize l4[i_]=r_ at e0 e1 e2 e3 hr_
    have HR_:=Aside0.mk hr_
    have s3:=eq_true (show (i_:Int) < (l4.length:Int) by omega)
    have s4:=eq_true (show (0:Int)≤(i_:Int) by omega)
    subst eA
    clear hrd hr_ hl_
    obtain⟨x0,x1,x2,x3⟩:=r_
    go_upto_region 12 with (fail)
    obtain⟨rb,hrb⟩:∃g,g=wl.heap.size:=⟨_,rfl⟩
    have HRB:Aside0 ((wl.alloc (.cells #[.int .i64 x0,.int .i64 x1,.int .i64 x2,.int .i64 x3] 52)).heap[rb]? = some (.cells #[.int .i64 x0,.int .i64 x1,.int .i64 x2,.int .i64 x3] 52 (0,0))):=⟨by rw [hrb];exact blk_newAt _ rfl⟩
    have HL1:=Aside0.mk (HL.out.below (below_alloc (Below.refl _ _) (.cells #[.int .i64 x0,.int .i64 x1,.int .i64 x2,.int .i64 x3] 52)))
    clear HL HC
    have HL:=HL1
    clear HL1
    rw [←hrb]
    clear hrb e0 e1 e2 e3 t4 s3 s4
    obtain⟨wd,hwd⟩:∃W:World,W=wl.alloc (.cells #[.int .i64 x0,.int .i64 x1,.int .i64 x2,.int .i64 x3] 52):=⟨_,rfl⟩
    rw [←hwd] at HL HRB ⊢
    clear hwd
    try clear wl
    obtain⟨wl,rfl⟩:∃W:World,W=wd:=⟨_,rfl⟩
    by_cases h0:i_=0
    ·as_aux_lemma=>
      have q0:((i_:Int) == 0)=true:=beq_iff_eq.2 (by omega)
      have HZ:=Aside0.mk h0
      clear h0
      have t4:wl.cell? ⟨gb,4,none⟩=some (.slice (some ad) l4.length y4):=(blk_cell (HL.out.blk HTS.out HGT.out) 4).trans rfl
      have r0:wl.cell? ⟨rb,0,none⟩=some (.int .i64 x0):=(blk_cell HRB.out 0).trans rfl
      have r1:wl.cell? ⟨rb,1,none⟩=some (.int .i64 x1):=(blk_cell HRB.out 1).trans rfl
      go_wp2_with fail
      go_quiet (fail)
      clear q0 t4 r0 r1
      have HL1:=Aside0.mk (HL.out.below (pw_below_drewN (Below.refl _ _) nq))
      have HRB1:=Aside0.mk (blk_below HRB.out (pw_below_drewN (Below.refl _ _) nq))
      clear HL HRB
      have HL:=HL1
      have HRB:=HRB1
      clear HL1 HRB1
      obtain⟨wd,hwd⟩:∃W:World,W=wl.drewN nq:=⟨_,rfl⟩
      rw [←hwd] at HL HRB ⊢
      clear hwd
      try clear wl
      obtain⟨wl,rfl⟩:∃W:World,W=wd:=⟨_,rfl⟩
      have r0:wl.cell? ⟨rb,0,none⟩=some (.int .i64 x0):=(blk_cell HRB.out 0).trans rfl
      have r1:wl.cell? ⟨rb,1,none⟩=some (.int .i64 x1):=(blk_cell HRB.out 1).trans rfl
      have r2:wl.cell? ⟨rb,2,none⟩=some (.int .i64 x2):=(blk_cell HRB.out 2).trans rfl
      have r3:wl.cell? ⟨rb,3,none⟩=some (.int .i64 x3):=(blk_cell HRB.out 3).trans rfl
      have HD:Aside0 (dd neO none (l4.take (i_+1))=dd neO none (l4.take i_) ++ [⟨x0,x1,x2,x3⟩]):=⟨by have hz:=HZ.out;subst hz;have h:=HR_.out;rw [List.getElem?_eq_getElem HLT.out] at h;rw [dd_zero _ _ HLT.out,Option.some.inj h]⟩
      have hvl:=HL.out.r4
      have hdl:(dd neO none (l4.take i_)).length≤24:=Nat.le_trans (dd_len _ _ _) (by rw [List.length_take];have:=HLN.out;omega)
      have HDL:=Aside0.mk hdl
      clear hdl hvl
      have c4:wl.cell? ⟨ga,4,none⟩=some u_:=(blk_cell HL.out.t 4).trans rfl
      obtain⟨dr,hdr⟩:∃l,l=dd neO none (l4.take i_):=⟨_,rfl⟩
      rw [←hdr] at HL HD HDL
      clear hdr
      go_wp2_with ((with_reducible refine gate_builtin (b:=.append) (xs:=#[.tmp 74,.tmp 76]) rfl ?_);at_builtin;go_loud (refine Kd.R_append k52 (w0:=wl) wS.heap.size rfl (.tmp 74) (.tmp 76) 26 52 (.agg #[.int .i64 0,.int .i64 0,.int .i64 0,.int .i64 0]) 32 rfl Try.underlying26 mkOpenI rfl (by decide) (by decide) u_ dr (⟨x0,x1,x2,x3⟩) [.int .i64 x0,.int .i64 x1,.int .i64 x2,.int .i64 x3] (fun k=>some k=(u_:Value).ownBlock∨wl.heap.size≤k) (fun _=>False) rfl rfl (k52_mkM _ _ _ _) (fun _ h=>h.elim) (fun k h=>.inr h) (Kd.R_mono HL.out.r4 (fun k h=>.inl h)) (Below.refl _ _) HL.out.k.1 ?ql ?_);(case ql=>have:=HDL.out;omega);intro v1 w4 hr1 hb1 hg1 hat1;obtain⟨A1,m1,k1,rfl⟩:=mkSl3 hr1;have HL1:=Aside0.mk (HL.out.app4 hr1 hb1 hg1);have HT1:=Aside0.mk (blk_grown HL.out.t hg1 (Kd.R_ne HL.out.r4 HL.out.t (by decide)));have hc2:=(blk_cell HT1.out 4).trans (show (#[Value.int .i64 N,.int .i64 G,.slice Z2 1 z2,.slice Z3 st.f.length z3,u_,(.slice none 0 0),(.slice none 0 0)]:Array Value)[4]? = some u_ from rfl);have hf2:=blk_frozen HT1.out 4;clear hr1 hb1 hg1 hat1 c4)
      go_wp2
      go_roundg (l4.length - (i_+1))
      case measure=>have:=Hi.out;have:=HLT.out;omega
      case rel=>exact⟨i_+1,_,by first|rfl|rw [show wrap64 ((i_:Int)+1)=((i_+1:Nat):Int) by have:=HLT.out;have:=HLN.out;unfold wrap64;omega],⟨HLT.out,Nat.le_refl _⟩,⟨by rw [HD.out];exact HL1.out⟩⟩
    obtain⟨p_,hp_⟩:∃p_,i_=p_+1:=⟨i_ - 1,by omega⟩
    have HP:=Aside0.mk hp_
    have q0:((i_:Int) == 0)=false:=beq_eq_false_iff_ne.2 (by omega)
    have q1:wrap64 ((i_:Int) - 1)=(p_:Int):=by have:=HLT.out;have:=HLN.out;unfold wrap64;omega
    have hpl:p_ < l4.length:=by have:=HLT.out;omega
    have q2:=eq_true (show (p_:Int) < (l4.length:Int) by omega)
    have q3:=eq_true (show (0:Int)≤(p_:Int) by omega)
    obtain⟨ad2,eB,e0,e1,e2,e3⟩:=at_T52 (Kd.R_reads' (HL.out.row HM4S.out HAS.out (by decide))).2.2 (p_:Int) (by omega) (by omega)
    obtain rfl:ad=ad2:=Option.some.inj eB
    have hrd:rd_T52 l4 (p_:Int)=l4[p_]:=by unfold rd_T52;rw [Int.toNat_natCast,List.getD_eq_getElem?_getD,List.getElem?_eq_getElem hpl];rfl
    rw [hrd,Int.toNat_natCast] at e0 e1 e2 e3
    have HDN:Aside0 (dd neO none (l4.take (i_+1))=dd neO none (l4.take i_) ++ (if neO l4[p_] ⟨x0,x1,x2,x3⟩=true then [⟨x0,x1,x2,x3⟩] else [])):=⟨by
     have h:=dd_next neO l4 p_ (by have:=HLT.out;omega)
     have hr:=HR_.out
     subst hp_
     rw [List.getElem?_eq_getElem HLT.out] at hr
     rw [h,Option.some.inj hr]⟩
    generalize l4[p_]=y_ at HDN e0 e1 e2 e3
    obtain⟨y0,y1,y2,y3⟩:=y_
    clear hrd hpl h0 hp_ eB
    have t4:wl.cell? ⟨gb,4,none⟩=some (.slice (some ad) l4.length y4):=(blk_cell (HL.out.blk HTS.out HGT.out) 4).trans rfl
    have r0:wl.cell? ⟨rb,0,none⟩=some (.int .i64 x0):=(blk_cell HRB.out 0).trans rfl
    have r1:wl.cell? ⟨rb,1,none⟩=some (.int .i64 x1):=(blk_cell HRB.out 1).trans rfl
    by_cases d0:y0=x0
    rotate_left
    ·as_aux_lemma=>
      have m0:(y0 != x0)=true:=bne_iff_ne.2 d0
      have HNE:Aside0 (neO ⟨y0,y1,y2,y3⟩ ⟨x0,x1,x2,x3⟩=true):=⟨by unfold neO;simp [d0]⟩
      clear d0
      go_wp2_with fail
      go_quiet (fail)
      clear q0 q1 q2 q3 e0 e1 e2 e3 m0 t4 r0 r1
      have HL1:=Aside0.mk (HL.out.below (pw_below_drewN (Below.refl _ _) nq))
      have HRB1:=Aside0.mk (blk_below HRB.out (pw_below_drewN (Below.refl _ _) nq))
      clear HL HRB
      have HL:=HL1
      have HRB:=HRB1
      clear HL1 HRB1
      obtain⟨wd,hwd⟩:∃W:World,W=wl.drewN nq:=⟨_,rfl⟩
      rw [←hwd] at HL HRB ⊢
      clear hwd
      try clear wl
      obtain⟨wl,rfl⟩:∃W:World,W=wd:=⟨_,rfl⟩
      have r0:wl.cell? ⟨rb,0,none⟩=some (.int .i64 x0):=(blk_cell HRB.out 0).trans rfl
      have r1:wl.cell? ⟨rb,1,none⟩=some (.int .i64 x1):=(blk_cell HRB.out 1).trans rfl
      have r2:wl.cell? ⟨rb,2,none⟩=some (.int .i64 x2):=(blk_cell HRB.out 2).trans rfl
      have r3:wl.cell? ⟨rb,3,none⟩=some (.int .i64 x3):=(blk_cell HRB.out 3).trans rfl
      have HD:Aside0 (dd neO none (l4.take (i_+1))=dd neO none (l4.take i_) ++ [⟨x0,x1,x2,x3⟩]):=⟨by rw [HDN.out,if_pos HNE.out]⟩
      have hvl:=HL.out.r4
      have hdl:(dd neO none (l4.take i_)).length≤24:=Nat.le_trans (dd_len _ _ _) (by rw [List.length_take];have:=HLN.out;omega)
      have HDL:=Aside0.mk hdl
      clear hdl hvl
      have c4:wl.cell? ⟨ga,4,none⟩=some u_:=(blk_cell HL.out.t 4).trans rfl
      obtain⟨dr,hdr⟩:∃l,l=dd neO none (l4.take i_):=⟨_,rfl⟩
      rw [←hdr] at HL HD HDL
      clear hdr
      go_wp2_with ((with_reducible refine gate_builtin (b:=.append) (xs:=#[.tmp 74,.tmp 76]) rfl ?_);at_builtin;go_loud (refine Kd.R_append k52 (w0:=wl) wS.heap.size rfl (.tmp 74) (.tmp 76) 26 52 (.agg #[.int .i64 0,.int .i64 0,.int .i64 0,.int .i64 0]) 32 rfl Try.underlying26 mkOpenI rfl (by decide) (by decide) u_ dr (⟨x0,x1,x2,x3⟩) [.int .i64 x0,.int .i64 x1,.int .i64 x2,.int .i64 x3] (fun k=>some k=(u_:Value).ownBlock∨wl.heap.size≤k) (fun _=>False) rfl rfl (k52_mkM _ _ _ _) (fun _ h=>h.elim) (fun k h=>.inr h) (Kd.R_mono HL.out.r4 (fun k h=>.inl h)) (Below.refl _ _) HL.out.k.1 ?ql ?_);(case ql=>have:=HDL.out;omega);intro v1 w4 hr1 hb1 hg1 hat1;obtain⟨A1,m1,k1,rfl⟩:=mkSl3 hr1;have HL1:=Aside0.mk (HL.out.app4 hr1 hb1 hg1);have HT1:=Aside0.mk (blk_grown HL.out.t hg1 (Kd.R_ne HL.out.r4 HL.out.t (by decide)));have hc2:=(blk_cell HT1.out 4).trans (show (#[Value.int .i64 N,.int .i64 G,.slice Z2 1 z2,.slice Z3 st.f.length z3,u_,(.slice none 0 0),(.slice none 0 0)]:Array Value)[4]? = some u_ from rfl);have hf2:=blk_frozen HT1.out 4;clear hr1 hb1 hg1 hat1 c4)
      go_wp2
      go_roundg (l4.length - (i_+1))
      case measure=>have:=Hi.out;have:=HLT.out;omega
      case rel=>exact⟨i_+1,_,by first|rfl|rw [show wrap64 ((i_:Int)+1)=((i_+1:Nat):Int) by have:=HLT.out;have:=HLN.out;unfold wrap64;omega],⟨HLT.out,Nat.le_refl _⟩,⟨by rw [HD.out];exact HL1.out⟩⟩
    have m0:(y0 != x0)=false:=by rw [d0];exact bne_self_eq_false _
    by_cases d1:y1=x1
    rotate_left
    ·as_aux_lemma=>
      have m1:(y1 != x1)=true:=bne_iff_ne.2 d1
      have HNE:Aside0 (neO ⟨y0,y1,y2,y3⟩ ⟨x0,x1,x2,x3⟩=true):=⟨by unfold neO;simp [d1]⟩
      clear d0 d1
      go_wp2_with fail
      go_quiet (fail)
      clear q0 q1 q2 q3 e0 e1 e2 e3 m0 m1 t4 r0 r1
      have HL1:=Aside0.mk (HL.out.below (pw_below_drewN (Below.refl _ _) nq))
      have HRB1:=Aside0.mk (blk_below HRB.out (pw_below_drewN (Below.refl _ _) nq))
      clear HL HRB
      have HL:=HL1
      have HRB:=HRB1
      clear HL1 HRB1
      obtain⟨wd,hwd⟩:∃W:World,W=wl.drewN nq:=⟨_,rfl⟩
      rw [←hwd] at HL HRB ⊢
      clear hwd
      try clear wl
      obtain⟨wl,rfl⟩:∃W:World,W=wd:=⟨_,rfl⟩
      have r0:wl.cell? ⟨rb,0,none⟩=some (.int .i64 x0):=(blk_cell HRB.out 0).trans rfl
      have r1:wl.cell? ⟨rb,1,none⟩=some (.int .i64 x1):=(blk_cell HRB.out 1).trans rfl
      have r2:wl.cell? ⟨rb,2,none⟩=some (.int .i64 x2):=(blk_cell HRB.out 2).trans rfl
      have r3:wl.cell? ⟨rb,3,none⟩=some (.int .i64 x3):=(blk_cell HRB.out 3).trans rfl
      have HD:Aside0 (dd neO none (l4.take (i_+1))=dd neO none (l4.take i_) ++ [⟨x0,x1,x2,x3⟩]):=⟨by rw [HDN.out,if_pos HNE.out]⟩
      have hvl:=HL.out.r4
      have hdl:(dd neO none (l4.take i_)).length≤24:=Nat.le_trans (dd_len _ _ _) (by rw [List.length_take];have:=HLN.out;omega)
      have HDL:=Aside0.mk hdl
      clear hdl hvl
      have c4:wl.cell? ⟨ga,4,none⟩=some u_:=(blk_cell HL.out.t 4).trans rfl
      obtain⟨dr,hdr⟩:∃l,l=dd neO none (l4.take i_):=⟨_,rfl⟩
      rw [←hdr] at HL HD HDL
      clear hdr
      go_wp2_with ((with_reducible refine gate_builtin (b:=.append) (xs:=#[.tmp 74,.tmp 76]) rfl ?_);at_builtin;go_loud (refine Kd.R_append k52 (w0:=wl) wS.heap.size rfl (.tmp 74) (.tmp 76) 26 52 (.agg #[.int .i64 0,.int .i64 0,.int .i64 0,.int .i64 0]) 32 rfl Try.underlying26 mkOpenI rfl (by decide) (by decide) u_ dr (⟨x0,x1,x2,x3⟩) [.int .i64 x0,.int .i64 x1,.int .i64 x2,.int .i64 x3] (fun k=>some k=(u_:Value).ownBlock∨wl.heap.size≤k) (fun _=>False) rfl rfl (k52_mkM _ _ _ _) (fun _ h=>h.elim) (fun k h=>.inr h) (Kd.R_mono HL.out.r4 (fun k h=>.inl h)) (Below.refl _ _) HL.out.k.1 ?ql ?_);(case ql=>have:=HDL.out;omega);intro v1 w4 hr1 hb1 hg1 hat1;obtain⟨A1,m1,k1,rfl⟩:=mkSl3 hr1;have HL1:=Aside0.mk (HL.out.app4 hr1 hb1 hg1);have HT1:=Aside0.mk (blk_grown HL.out.t hg1 (Kd.R_ne HL.out.r4 HL.out.t (by decide)));have hc2:=(blk_cell HT1.out 4).trans (show (#[Value.int .i64 N,.int .i64 G,.slice Z2 1 z2,.slice Z3 st.f.length z3,u_,(.slice none 0 0),(.slice none 0 0)]:Array Value)[4]? = some u_ from rfl);have hf2:=blk_frozen HT1.out 4;clear hr1 hb1 hg1 hat1 c4)
      go_wp2
      go_roundg (l4.length - (i_+1))
      case measure=>have:=Hi.out;have:=HLT.out;omega
      case rel=>exact⟨i_+1,_,by first|rfl|rw [show wrap64 ((i_:Int)+1)=((i_+1:Nat):Int) by have:=HLT.out;have:=HLN.out;unfold wrap64;omega],⟨HLT.out,Nat.le_refl _⟩,⟨by rw [HD.out];exact HL1.out⟩⟩
    have m1:(y1 != x1)=false:=by rw [d1];exact bne_self_eq_false _
    have HNE:Aside0 (¬neO ⟨y0,y1,y2,y3⟩ ⟨x0,x1,x2,x3⟩=true):=⟨by unfold neO;simp [d0,d1]⟩
    clear d0 d1
    go_wp2_with fail
    go_quiet (fail)
    clear q0 q1 q2 q3 e0 e1 e2 e3 m0 m1 t4 r0 r1
    have HL1:=Aside0.mk (HL.out.below (pw_below_drewN (Below.refl _ _) nq))
    have HRB1:=Aside0.mk (blk_below HRB.out (pw_below_drewN (Below.refl _ _) nq))
    clear HL HRB
    have HL:=HL1
    have HRB:=HRB1
    clear HL1 HRB1
    obtain⟨wd,hwd⟩:∃W:World,W=wl.drewN nq:=⟨_,rfl⟩
    rw [←hwd] at HL HRB ⊢
    clear hwd
    try clear wl
    obtain⟨wl,rfl⟩:∃W:World,W=wd:=⟨_,rfl⟩
    go_wp2
    go_roundg (l4.length - (i_+1))
    case measure=>have:=Hi.out;have:=HLT.out;omega
    case rel=>exact⟨i_+1,_,by first|rfl|rw [show wrap64 ((i_:Int)+1)=((i_+1:Nat):Int) by have:=HLT.out;have:=HLN.out;unfold wrap64;omega],⟨HLT.out,Nat.le_refl _⟩,⟨by rw [HDN.out,if_neg HNE.out,List.append_nil];exact HL.out⟩⟩
  have e4:l4.take i_=l4:=List.take_of_length_le (by omega)
  rw [e4] at HL
  have s3:=eq_false (show ¬(i_:Int) < (l4.length:Int) by omega)
  clear hl_ e4 Hi
  obtain⟨d4,hd4⟩:∃d,d=dd neO none l4:=⟨_,rfl⟩
  rw [←hd4] at HL
  have HD4:=Aside0.mk hd4
  clear hd4
  obtain⟨u4,hu4⟩:∃u:Value,u=u_:=⟨_,rfl⟩
  rw [←hu4] at HL
  clear hu4
  -- MARK4_4
  go_wp2
  go_loopg [14] l5.length (fun gk vi w'=>∃(i_:Nat) (u_:Value),vi=.int .i64 (i_:Int)∧Aside0 (i_≤l5.length∧l5.length - i_≤gk)∧Aside0 (LS w wS w' ga N G (.slice Z2 1 z2) (.slice Z3 st.f.length z3) u4 u_ (.slice none 0 0) (d4) (dd neC none (l5.take i_)) (dd neN none (l6.take 0))))
  case atStart=>exact⟨0,_,rfl,⟨by omega,by omega⟩,HL⟩
  case round=>
   try clear s3
   clear HL
   obtain⟨i_,u_,rfl,Hi,HL⟩:=hrel
   try clear wl
   obtain⟨wl,rfl⟩:∃W:World,W=wr:=⟨_,rfl⟩
   have t5:wl.cell? ⟨gb,5,none⟩=some (.slice Y5 l5.length y5):=(blk_cell (HL.out.blk HTS.out HGT.out) 5).trans rfl
   by_cases hl_:i_ < l5.length
   ·as_aux_lemma=>
     have HLT:=Aside0.mk hl_
     have HC:=Aside0.mk (Kd.R_reads' (HL.out.row HM5S.out HAS.out (by decide))).2.2
     obtain⟨ad,eA,e0,e1,e2,e3⟩:=at_T54 HC.out (i_:Int) (by omega) (by omega)
     have hrd:rd_T54 l5 (i_:Int)=l5[i_]:=by unfold rd_T54;rw [Int.toNat_natCast,List.getD_eq_getElem?_getD,List.getElem?_eq_getElem hl_];rfl
     rw [hrd,Int.toNat_natCast] at e0 e1 e2 e3
     have hr_:l5[i_]? = some l5[i_]:=List.getElem?_eq_getElem hl_
     generalize l5[i_]=r_ at e0 e1 e2 e3 hr_
     have HR_:=Aside0.mk hr_
     have s3:=eq_true (show (i_:Int) < (l5.length:Int) by omega)
     have s4:=eq_true (show (0:Int)≤(i_:Int) by omega)
     subst eA
     clear hrd hr_ hl_
     obtain⟨x0,x1,x2,x3⟩:=r_
     go_upto_region 18 with (fail)
     obtain⟨rb,hrb⟩:∃g,g=wl.heap.size:=⟨_,rfl⟩
     have HRB:Aside0 ((wl.alloc (.cells #[.int .i64 x0,.int .i64 x1,.int .i64 x2,.int .i64 x3] 54)).heap[rb]? = some (.cells #[.int .i64 x0,.int .i64 x1,.int .i64 x2,.int .i64 x3] 54 (0,0))):=⟨by rw [hrb];exact blk_newAt _ rfl⟩
     have HL1:=Aside0.mk (HL.out.below (below_alloc (Below.refl _ _) (.cells #[.int .i64 x0,.int .i64 x1,.int .i64 x2,.int .i64 x3] 54)))
     clear HL HC
     have HL:=HL1
     clear HL1
     rw [←hrb]
     clear hrb e0 e1 e2 e3 t5 s3 s4
     obtain⟨wd,hwd⟩:∃W:World,W=wl.alloc (.cells #[.int .i64 x0,.int .i64 x1,.int .i64 x2,.int .i64 x3] 54):=⟨_,rfl⟩
     rw [←hwd] at HL HRB ⊢
     clear hwd
     try clear wl
     obtain⟨wl,rfl⟩:∃W:World,W=wd:=⟨_,rfl⟩
     by_cases h0:i_=0
     ·as_aux_lemma=>
       have q0:((i_:Int) == 0)=true:=beq_iff_eq.2 (by omega)
       have HZ:=Aside0.mk h0
       clear h0
       have t5:wl.cell? ⟨gb,5,none⟩=some (.slice (some ad) l5.length y5):=(blk_cell (HL.out.blk HTS.out HGT.out) 5).trans rfl
       have r0:wl.cell? ⟨rb,0,none⟩=some (.int .i64 x0):=(blk_cell HRB.out 0).trans rfl
       have r1:wl.cell? ⟨rb,1,none⟩=some (.int .i64 x1):=(blk_cell HRB.out 1).trans rfl
       have r2:wl.cell? ⟨rb,2,none⟩=some (.int .i64 x2):=(blk_cell HRB.out 2).trans rfl
       go_wp2_with fail
       go_quiet (fail)
       clear q0 t5 r0 r1 r2
       have HL1:=Aside0.mk (HL.out.below (pw_below_drewN (Below.refl _ _) nq))
       have HRB1:=Aside0.mk (blk_below HRB.out (pw_below_drewN (Below.refl _ _) nq))
       clear HL HRB
       have HL:=HL1
       have HRB:=HRB1
       clear HL1 HRB1
       obtain⟨wd,hwd⟩:∃W:World,W=wl.drewN nq:=⟨_,rfl⟩
       rw [←hwd] at HL HRB ⊢
       clear hwd
       try clear wl
       obtain⟨wl,rfl⟩:∃W:World,W=wd:=⟨_,rfl⟩
       have r0:wl.cell? ⟨rb,0,none⟩=some (.int .i64 x0):=(blk_cell HRB.out 0).trans rfl
       have r1:wl.cell? ⟨rb,1,none⟩=some (.int .i64 x1):=(blk_cell HRB.out 1).trans rfl
       have r2:wl.cell? ⟨rb,2,none⟩=some (.int .i64 x2):=(blk_cell HRB.out 2).trans rfl
       have r3:wl.cell? ⟨rb,3,none⟩=some (.int .i64 x3):=(blk_cell HRB.out 3).trans rfl
       have HD:Aside0 (dd neC none (l5.take (i_+1))=dd neC none (l5.take i_) ++ [⟨x0,x1,x2,x3⟩]):=⟨by have hz:=HZ.out;subst hz;have h:=HR_.out;rw [List.getElem?_eq_getElem HLT.out] at h;rw [dd_zero _ _ HLT.out,Option.some.inj h]⟩
       have hvl:=HL.out.r5
       have hdl:(dd neC none (l5.take i_)).length≤24:=Nat.le_trans (dd_len _ _ _) (by rw [List.length_take];have:=HLN.out;omega)
       have HDL:=Aside0.mk hdl
       clear hdl hvl
       have c5:wl.cell? ⟨ga,5,none⟩=some u_:=(blk_cell HL.out.t 5).trans rfl
       obtain⟨dr,hdr⟩:∃l,l=dd neC none (l5.take i_):=⟨_,rfl⟩
       rw [←hdr] at HL HD HDL
       clear hdr
       go_wp2_with ((with_reducible refine gate_builtin (b:=.append) (xs:=#[.tmp 130,.tmp 132]) rfl ?_);at_builtin;go_loud (refine Kd.R_append k54 (w0:=wl) wS.heap.size rfl (.tmp 130) (.tmp 132) 27 54 (.agg #[.int .i64 0,.int .i64 0,.int .i64 0,.int .i64 0]) 32 rfl Try.underlying27 mkCloseI rfl (by decide) (by decide) u_ dr (⟨x0,x1,x2,x3⟩) [.int .i64 x0,.int .i64 x1,.int .i64 x2,.int .i64 x3] (fun k=>some k=(u_:Value).ownBlock∨wl.heap.size≤k) (fun _=>False) rfl rfl (k54_mkM _ _ _ _) (fun _ h=>h.elim) (fun k h=>.inr h) (Kd.R_mono HL.out.r5 (fun k h=>.inl h)) (Below.refl _ _) HL.out.k.1 ?ql ?_);(case ql=>have:=HDL.out;omega);intro v1 w4 hr1 hb1 hg1 hat1;obtain⟨A1,m1,k1,rfl⟩:=mkSl3 hr1;have HL1:=Aside0.mk (HL.out.app5 hr1 hb1 hg1);have HT1:=Aside0.mk (blk_grown HL.out.t hg1 (Kd.R_ne HL.out.r5 HL.out.t (by decide)));have hc2:=(blk_cell HT1.out 5).trans (show (#[Value.int .i64 N,.int .i64 G,.slice Z2 1 z2,.slice Z3 st.f.length z3,u4,u_,(.slice none 0 0)]:Array Value)[5]? = some u_ from rfl);have hf2:=blk_frozen HT1.out 5;clear hr1 hb1 hg1 hat1 c5)
       go_wp2
       go_roundg (l5.length - (i_+1))
       case measure=>have:=Hi.out;have:=HLT.out;omega
       case rel=>exact⟨i_+1,_,by first|rfl|rw [show wrap64 ((i_:Int)+1)=((i_+1:Nat):Int) by have:=HLT.out;have:=HLN.out;unfold wrap64;omega],⟨HLT.out,Nat.le_refl _⟩,⟨by rw [HD.out];exact HL1.out⟩⟩
     obtain⟨p_,hp_⟩:∃p_,i_=p_+1:=⟨i_ - 1,by omega⟩
     have HP:=Aside0.mk hp_
     have q0:((i_:Int) == 0)=false:=beq_eq_false_iff_ne.2 (by omega)
     have q1:wrap64 ((i_:Int) - 1)=(p_:Int):=by have:=HLT.out;have:=HLN.out;unfold wrap64;omega
     have hpl:p_ < l5.length:=by have:=HLT.out;omega
     have q2:=eq_true (show (p_:Int) < (l5.length:Int) by omega)
     have q3:=eq_true (show (0:Int)≤(p_:Int) by omega)
     obtain⟨ad2,eB,e0,e1,e2,e3⟩:=at_T54 (Kd.R_reads' (HL.out.row HM5S.out HAS.out (by decide))).2.2 (p_:Int) (by omega) (by omega)
     obtain rfl:ad=ad2:=Option.some.inj eB
     have hrd:rd_T54 l5 (p_:Int)=l5[p_]:=by unfold rd_T54;rw [Int.toNat_natCast,List.getD_eq_getElem?_getD,List.getElem?_eq_getElem hpl];rfl
     rw [hrd,Int.toNat_natCast] at e0 e1 e2 e3
     have HDN:Aside0 (dd neC none (l5.take (i_+1))=dd neC none (l5.take i_) ++ (if neC l5[p_] ⟨x0,x1,x2,x3⟩=true then [⟨x0,x1,x2,x3⟩] else [])):=⟨by
      have h:=dd_next neC l5 p_ (by have:=HLT.out;omega)
      have hr:=HR_.out
      subst hp_
      rw [List.getElem?_eq_getElem HLT.out] at hr
      rw [h,Option.some.inj hr]⟩
     generalize l5[p_]=y_ at HDN e0 e1 e2 e3
     obtain⟨y0,y1,y2,y3⟩:=y_
     clear hrd hpl h0 hp_ eB
     have t5:wl.cell? ⟨gb,5,none⟩=some (.slice (some ad) l5.length y5):=(blk_cell (HL.out.blk HTS.out HGT.out) 5).trans rfl
     have r0:wl.cell? ⟨rb,0,none⟩=some (.int .i64 x0):=(blk_cell HRB.out 0).trans rfl
     have r1:wl.cell? ⟨rb,1,none⟩=some (.int .i64 x1):=(blk_cell HRB.out 1).trans rfl
     have r2:wl.cell? ⟨rb,2,none⟩=some (.int .i64 x2):=(blk_cell HRB.out 2).trans rfl
     by_cases d0:y0=x0
     rotate_left
     ·as_aux_lemma=>
       have m0:(y0 != x0)=true:=bne_iff_ne.2 d0
       have HNE:Aside0 (neC ⟨y0,y1,y2,y3⟩ ⟨x0,x1,x2,x3⟩=true):=⟨by unfold neC;simp [d0]⟩
       clear d0
       go_wp2_with fail
       go_quiet (fail)
       clear q0 q1 q2 q3 e0 e1 e2 e3 m0 t5 r0 r1 r2
       have HL1:=Aside0.mk (HL.out.below (pw_below_drewN (Below.refl _ _) nq))
       have HRB1:=Aside0.mk (blk_below HRB.out (pw_below_drewN (Below.refl _ _) nq))
       clear HL HRB
       have HL:=HL1
       have HRB:=HRB1
       clear HL1 HRB1
       obtain⟨wd,hwd⟩:∃W:World,W=wl.drewN nq:=⟨_,rfl⟩
       rw [←hwd] at HL HRB ⊢
       clear hwd
       try clear wl
       obtain⟨wl,rfl⟩:∃W:World,W=wd:=⟨_,rfl⟩
       have r0:wl.cell? ⟨rb,0,none⟩=some (.int .i64 x0):=(blk_cell HRB.out 0).trans rfl
       have r1:wl.cell? ⟨rb,1,none⟩=some (.int .i64 x1):=(blk_cell HRB.out 1).trans rfl
       have r2:wl.cell? ⟨rb,2,none⟩=some (.int .i64 x2):=(blk_cell HRB.out 2).trans rfl
       have r3:wl.cell? ⟨rb,3,none⟩=some (.int .i64 x3):=(blk_cell HRB.out 3).trans rfl
       have HD:Aside0 (dd neC none (l5.take (i_+1))=dd neC none (l5.take i_) ++ [⟨x0,x1,x2,x3⟩]):=⟨by rw [HDN.out,if_pos HNE.out]⟩
       have hvl:=HL.out.r5
       have hdl:(dd neC none (l5.take i_)).length≤24:=Nat.le_trans (dd_len _ _ _) (by rw [List.length_take];have:=HLN.out;omega)
       have HDL:=Aside0.mk hdl
       clear hdl hvl
       have c5:wl.cell? ⟨ga,5,none⟩=some u_:=(blk_cell HL.out.t 5).trans rfl
       obtain⟨dr,hdr⟩:∃l,l=dd neC none (l5.take i_):=⟨_,rfl⟩
       rw [←hdr] at HL HD HDL
       clear hdr
       go_wp2_with ((with_reducible refine gate_builtin (b:=.append) (xs:=#[.tmp 130,.tmp 132]) rfl ?_);at_builtin;go_loud (refine Kd.R_append k54 (w0:=wl) wS.heap.size rfl (.tmp 130) (.tmp 132) 27 54 (.agg #[.int .i64 0,.int .i64 0,.int .i64 0,.int .i64 0]) 32 rfl Try.underlying27 mkCloseI rfl (by decide) (by decide) u_ dr (⟨x0,x1,x2,x3⟩) [.int .i64 x0,.int .i64 x1,.int .i64 x2,.int .i64 x3] (fun k=>some k=(u_:Value).ownBlock∨wl.heap.size≤k) (fun _=>False) rfl rfl (k54_mkM _ _ _ _) (fun _ h=>h.elim) (fun k h=>.inr h) (Kd.R_mono HL.out.r5 (fun k h=>.inl h)) (Below.refl _ _) HL.out.k.1 ?ql ?_);(case ql=>have:=HDL.out;omega);intro v1 w4 hr1 hb1 hg1 hat1;obtain⟨A1,m1,k1,rfl⟩:=mkSl3 hr1;have HL1:=Aside0.mk (HL.out.app5 hr1 hb1 hg1);have HT1:=Aside0.mk (blk_grown HL.out.t hg1 (Kd.R_ne HL.out.r5 HL.out.t (by decide)));have hc2:=(blk_cell HT1.out 5).trans (show (#[Value.int .i64 N,.int .i64 G,.slice Z2 1 z2,.slice Z3 st.f.length z3,u4,u_,(.slice none 0 0)]:Array Value)[5]? = some u_ from rfl);have hf2:=blk_frozen HT1.out 5;clear hr1 hb1 hg1 hat1 c5)
       go_wp2
       go_roundg (l5.length - (i_+1))
       case measure=>have:=Hi.out;have:=HLT.out;omega
       case rel=>exact⟨i_+1,_,by first|rfl|rw [show wrap64 ((i_:Int)+1)=((i_+1:Nat):Int) by have:=HLT.out;have:=HLN.out;unfold wrap64;omega],⟨HLT.out,Nat.le_refl _⟩,⟨by rw [HD.out];exact HL1.out⟩⟩
     have m0:(y0 != x0)=false:=by rw [d0];exact bne_self_eq_false _
     by_cases d1:y1=x1
     rotate_left
     ·as_aux_lemma=>
       have m1:(y1 != x1)=true:=bne_iff_ne.2 d1
       have HNE:Aside0 (neC ⟨y0,y1,y2,y3⟩ ⟨x0,x1,x2,x3⟩=true):=⟨by unfold neC;simp [d1]⟩
       clear d0 d1
       go_wp2_with fail
       go_quiet (fail)
       clear q0 q1 q2 q3 e0 e1 e2 e3 m0 m1 t5 r0 r1 r2
       have HL1:=Aside0.mk (HL.out.below (pw_below_drewN (Below.refl _ _) nq))
       have HRB1:=Aside0.mk (blk_below HRB.out (pw_below_drewN (Below.refl _ _) nq))
       clear HL HRB
       have HL:=HL1
       have HRB:=HRB1
       clear HL1 HRB1
       obtain⟨wd,hwd⟩:∃W:World,W=wl.drewN nq:=⟨_,rfl⟩
       rw [←hwd] at HL HRB ⊢
       clear hwd
       try clear wl
       obtain⟨wl,rfl⟩:∃W:World,W=wd:=⟨_,rfl⟩
       have r0:wl.cell? ⟨rb,0,none⟩=some (.int .i64 x0):=(blk_cell HRB.out 0).trans rfl
       have r1:wl.cell? ⟨rb,1,none⟩=some (.int .i64 x1):=(blk_cell HRB.out 1).trans rfl
       have r2:wl.cell? ⟨rb,2,none⟩=some (.int .i64 x2):=(blk_cell HRB.out 2).trans rfl
       have r3:wl.cell? ⟨rb,3,none⟩=some (.int .i64 x3):=(blk_cell HRB.out 3).trans rfl
       have HD:Aside0 (dd neC none (l5.take (i_+1))=dd neC none (l5.take i_) ++ [⟨x0,x1,x2,x3⟩]):=⟨by rw [HDN.out,if_pos HNE.out]⟩
       have hvl:=HL.out.r5
       have hdl:(dd neC none (l5.take i_)).length≤24:=Nat.le_trans (dd_len _ _ _) (by rw [List.length_take];have:=HLN.out;omega)
       have HDL:=Aside0.mk hdl
       clear hdl hvl
       have c5:wl.cell? ⟨ga,5,none⟩=some u_:=(blk_cell HL.out.t 5).trans rfl
       obtain⟨dr,hdr⟩:∃l,l=dd neC none (l5.take i_):=⟨_,rfl⟩
       rw [←hdr] at HL HD HDL
       clear hdr
       go_wp2_with ((with_reducible refine gate_builtin (b:=.append) (xs:=#[.tmp 130,.tmp 132]) rfl ?_);at_builtin;go_loud (refine Kd.R_append k54 (w0:=wl) wS.heap.size rfl (.tmp 130) (.tmp 132) 27 54 (.agg #[.int .i64 0,.int .i64 0,.int .i64 0,.int .i64 0]) 32 rfl Try.underlying27 mkCloseI rfl (by decide) (by decide) u_ dr (⟨x0,x1,x2,x3⟩) [.int .i64 x0,.int .i64 x1,.int .i64 x2,.int .i64 x3] (fun k=>some k=(u_:Value).ownBlock∨wl.heap.size≤k) (fun _=>False) rfl rfl (k54_mkM _ _ _ _) (fun _ h=>h.elim) (fun k h=>.inr h) (Kd.R_mono HL.out.r5 (fun k h=>.inl h)) (Below.refl _ _) HL.out.k.1 ?ql ?_);(case ql=>have:=HDL.out;omega);intro v1 w4 hr1 hb1 hg1 hat1;obtain⟨A1,m1,k1,rfl⟩:=mkSl3 hr1;have HL1:=Aside0.mk (HL.out.app5 hr1 hb1 hg1);have HT1:=Aside0.mk (blk_grown HL.out.t hg1 (Kd.R_ne HL.out.r5 HL.out.t (by decide)));have hc2:=(blk_cell HT1.out 5).trans (show (#[Value.int .i64 N,.int .i64 G,.slice Z2 1 z2,.slice Z3 st.f.length z3,u4,u_,(.slice none 0 0)]:Array Value)[5]? = some u_ from rfl);have hf2:=blk_frozen HT1.out 5;clear hr1 hb1 hg1 hat1 c5)
       go_wp2
       go_roundg (l5.length - (i_+1))
       case measure=>have:=Hi.out;have:=HLT.out;omega
       case rel=>exact⟨i_+1,_,by first|rfl|rw [show wrap64 ((i_:Int)+1)=((i_+1:Nat):Int) by have:=HLT.out;have:=HLN.out;unfold wrap64;omega],⟨HLT.out,Nat.le_refl _⟩,⟨by rw [HD.out];exact HL1.out⟩⟩
     have m1:(y1 != x1)=false:=by rw [d1];exact bne_self_eq_false _
     by_cases d2:y2=x2
     rotate_left
     ·as_aux_lemma=>
       have m2:(y2 != x2)=true:=bne_iff_ne.2 d2
       have HNE:Aside0 (neC ⟨y0,y1,y2,y3⟩ ⟨x0,x1,x2,x3⟩=true):=⟨by unfold neC;simp [d2]⟩
       clear d0 d1 d2
       go_wp2_with fail
       go_quiet (fail)
       clear q0 q1 q2 q3 e0 e1 e2 e3 m0 m1 m2 t5 r0 r1 r2
       have HL1:=Aside0.mk (HL.out.below (pw_below_drewN (Below.refl _ _) nq))
       have HRB1:=Aside0.mk (blk_below HRB.out (pw_below_drewN (Below.refl _ _) nq))
       clear HL HRB
       have HL:=HL1
       have HRB:=HRB1
       clear HL1 HRB1
       obtain⟨wd,hwd⟩:∃W:World,W=wl.drewN nq:=⟨_,rfl⟩
       rw [←hwd] at HL HRB ⊢
       clear hwd
       try clear wl
       obtain⟨wl,rfl⟩:∃W:World,W=wd:=⟨_,rfl⟩
       have r0:wl.cell? ⟨rb,0,none⟩=some (.int .i64 x0):=(blk_cell HRB.out 0).trans rfl
       have r1:wl.cell? ⟨rb,1,none⟩=some (.int .i64 x1):=(blk_cell HRB.out 1).trans rfl
       have r2:wl.cell? ⟨rb,2,none⟩=some (.int .i64 x2):=(blk_cell HRB.out 2).trans rfl
       have r3:wl.cell? ⟨rb,3,none⟩=some (.int .i64 x3):=(blk_cell HRB.out 3).trans rfl
       have HD:Aside0 (dd neC none (l5.take (i_+1))=dd neC none (l5.take i_) ++ [⟨x0,x1,x2,x3⟩]):=⟨by rw [HDN.out,if_pos HNE.out]⟩
       have hvl:=HL.out.r5
       have hdl:(dd neC none (l5.take i_)).length≤24:=Nat.le_trans (dd_len _ _ _) (by rw [List.length_take];have:=HLN.out;omega)
       have HDL:=Aside0.mk hdl
       clear hdl hvl
       have c5:wl.cell? ⟨ga,5,none⟩=some u_:=(blk_cell HL.out.t 5).trans rfl
       obtain⟨dr,hdr⟩:∃l,l=dd neC none (l5.take i_):=⟨_,rfl⟩
       rw [←hdr] at HL HD HDL
       clear hdr
       go_wp2_with ((with_reducible refine gate_builtin (b:=.append) (xs:=#[.tmp 130,.tmp 132]) rfl ?_);at_builtin;go_loud (refine Kd.R_append k54 (w0:=wl) wS.heap.size rfl (.tmp 130) (.tmp 132) 27 54 (.agg #[.int .i64 0,.int .i64 0,.int .i64 0,.int .i64 0]) 32 rfl Try.underlying27 mkCloseI rfl (by decide) (by decide) u_ dr (⟨x0,x1,x2,x3⟩) [.int .i64 x0,.int .i64 x1,.int .i64 x2,.int .i64 x3] (fun k=>some k=(u_:Value).ownBlock∨wl.heap.size≤k) (fun _=>False) rfl rfl (k54_mkM _ _ _ _) (fun _ h=>h.elim) (fun k h=>.inr h) (Kd.R_mono HL.out.r5 (fun k h=>.inl h)) (Below.refl _ _) HL.out.k.1 ?ql ?_);(case ql=>have:=HDL.out;omega);intro v1 w4 hr1 hb1 hg1 hat1;obtain⟨A1,m1,k1,rfl⟩:=mkSl3 hr1;have HL1:=Aside0.mk (HL.out.app5 hr1 hb1 hg1);have HT1:=Aside0.mk (blk_grown HL.out.t hg1 (Kd.R_ne HL.out.r5 HL.out.t (by decide)));have hc2:=(blk_cell HT1.out 5).trans (show (#[Value.int .i64 N,.int .i64 G,.slice Z2 1 z2,.slice Z3 st.f.length z3,u4,u_,(.slice none 0 0)]:Array Value)[5]? = some u_ from rfl);have hf2:=blk_frozen HT1.out 5;clear hr1 hb1 hg1 hat1 c5)
       go_wp2
       go_roundg (l5.length - (i_+1))
       case measure=>have:=Hi.out;have:=HLT.out;omega
       case rel=>exact⟨i_+1,_,by first|rfl|rw [show wrap64 ((i_:Int)+1)=((i_+1:Nat):Int) by have:=HLT.out;have:=HLN.out;unfold wrap64;omega],⟨HLT.out,Nat.le_refl _⟩,⟨by rw [HD.out];exact HL1.out⟩⟩
     have m2:(y2 != x2)=false:=by rw [d2];exact bne_self_eq_false _
     have HNE:Aside0 (¬neC ⟨y0,y1,y2,y3⟩ ⟨x0,x1,x2,x3⟩=true):=⟨by unfold neC;simp [d0,d1,d2]⟩
     clear d0 d1 d2
     go_wp2_with fail
     go_quiet (fail)
     clear q0 q1 q2 q3 e0 e1 e2 e3 m0 m1 m2 t5 r0 r1 r2
     have HL1:=Aside0.mk (HL.out.below (pw_below_drewN (Below.refl _ _) nq))
     have HRB1:=Aside0.mk (blk_below HRB.out (pw_below_drewN (Below.refl _ _) nq))
     clear HL HRB
     have HL:=HL1
     have HRB:=HRB1
     clear HL1 HRB1
     obtain⟨wd,hwd⟩:∃W:World,W=wl.drewN nq:=⟨_,rfl⟩
     rw [←hwd] at HL HRB ⊢
     clear hwd
     try clear wl
     obtain⟨wl,rfl⟩:∃W:World,W=wd:=⟨_,rfl⟩
     go_wp2
     go_roundg (l5.length - (i_+1))
     case measure=>have:=Hi.out;have:=HLT.out;omega
     case rel=>exact⟨i_+1,_,by first|rfl|rw [show wrap64 ((i_:Int)+1)=((i_+1:Nat):Int) by have:=HLT.out;have:=HLN.out;unfold wrap64;omega],⟨HLT.out,Nat.le_refl _⟩,⟨by rw [HDN.out,if_neg HNE.out,List.append_nil];exact HL.out⟩⟩
   have e4:l5.take i_=l5:=List.take_of_length_le (by omega)
   rw [e4] at HL
   have s3:=eq_false (show ¬(i_:Int) < (l5.length:Int) by omega)
   clear hl_ e4 Hi
   obtain⟨d5,hd5⟩:∃d,d=dd neC none l5:=⟨_,rfl⟩
   rw [←hd5] at HL
   have HD5:=Aside0.mk hd5
   clear hd5
   obtain⟨u5,hu5⟩:∃u:Value,u=u_:=⟨_,rfl⟩
   rw [←hu5] at HL
   clear hu5
   -- MARK4_5
   go_wp2
   go_loopg [16] l6.length (fun gk vi w'=>∃(i_:Nat) (u_:Value),vi=.int .i64 (i_:Int)∧Aside0 (i_≤l6.length∧l6.length - i_≤gk)∧Aside0 (LS w wS w' ga N G (.slice Z2 1 z2) (.slice Z3 st.f.length z3) u4 u5 u_ (d4) (d5) (dd neN none (l6.take i_))))
   case atStart=>exact⟨0,_,rfl,⟨by omega,by omega⟩,HL⟩
   case round=>
    try clear s3
    clear HL
    obtain⟨i_,u_,rfl,Hi,HL⟩:=hrel
    try clear wl
    obtain⟨wl,rfl⟩:∃W:World,W=wr:=⟨_,rfl⟩
    have t6:wl.cell? ⟨gb,6,none⟩=some (.slice Y6 l6.length y6):=(blk_cell (HL.out.blk HTS.out HGT.out) 6).trans rfl
    by_cases hl_:i_ < l6.length
    ·as_aux_lemma=>
      have HLT:=Aside0.mk hl_
      have HC:=Aside0.mk (Kd.R_reads' (HL.out.row HM6S.out HAS.out (by decide))).2.2
      obtain⟨ad,eA,e0,e1,e2⟩:=at_T56 HC.out (i_:Int) (by omega) (by omega)
      have hrd:rd_T56 l6 (i_:Int)=l6[i_]:=by unfold rd_T56;rw [Int.toNat_natCast,List.getD_eq_getElem?_getD,List.getElem?_eq_getElem hl_];rfl
      rw [hrd,Int.toNat_natCast] at e0 e1 e2
      have hr_:l6[i_]? = some l6[i_]:=List.getElem?_eq_getElem hl_
      generalize l6[i_]=r_ at e0 e1 e2 hr_
      have HR_:=Aside0.mk hr_
      have s3:=eq_true (show (i_:Int) < (l6.length:Int) by omega)
      have s4:=eq_true (show (0:Int)≤(i_:Int) by omega)
      subst eA
      clear hrd hr_ hl_
      obtain⟨x0,x1,x2⟩:=r_
      go_upto_region 24 with (fail)
      obtain⟨rb,hrb⟩:∃g,g=wl.heap.size:=⟨_,rfl⟩
      have HRB:Aside0 ((wl.alloc (.cells #[.int .i64 x0,.int .i64 x1,.int .i64 x2] 56)).heap[rb]? = some (.cells #[.int .i64 x0,.int .i64 x1,.int .i64 x2] 56 (0,0))):=⟨by rw [hrb];exact blk_newAt _ rfl⟩
      have HL1:=Aside0.mk (HL.out.below (below_alloc (Below.refl _ _) (.cells #[.int .i64 x0,.int .i64 x1,.int .i64 x2] 56)))
      clear HL HC
      have HL:=HL1
      clear HL1
      rw [←hrb]
      clear hrb e0 e1 e2 t6 s3 s4
      obtain⟨wd,hwd⟩:∃W:World,W=wl.alloc (.cells #[.int .i64 x0,.int .i64 x1,.int .i64 x2] 56):=⟨_,rfl⟩
      rw [←hwd] at HL HRB ⊢
      clear hwd
      try clear wl
      obtain⟨wl,rfl⟩:∃W:World,W=wd:=⟨_,rfl⟩
      by_cases h0:i_=0
      ·as_aux_lemma=>
        have q0:((i_:Int) == 0)=true:=beq_iff_eq.2 (by omega)
        have HZ:=Aside0.mk h0
        clear h0
        have t6:wl.cell? ⟨gb,6,none⟩=some (.slice (some ad) l6.length y6):=(blk_cell (HL.out.blk HTS.out HGT.out) 6).trans rfl
        have r0:wl.cell? ⟨rb,0,none⟩=some (.int .i64 x0):=(blk_cell HRB.out 0).trans rfl
        have r1:wl.cell? ⟨rb,1,none⟩=some (.int .i64 x1):=(blk_cell HRB.out 1).trans rfl
        go_wp2_with fail
        go_quiet (fail)
        clear q0 t6 r0 r1
        have HL1:=Aside0.mk (HL.out.below (pw_below_drewN (Below.refl _ _) nq))
        have HRB1:=Aside0.mk (blk_below HRB.out (pw_below_drewN (Below.refl _ _) nq))
        clear HL HRB
        have HL:=HL1
        have HRB:=HRB1
        clear HL1 HRB1
        obtain⟨wd,hwd⟩:∃W:World,W=wl.drewN nq:=⟨_,rfl⟩
        rw [←hwd] at HL HRB ⊢
        clear hwd
        try clear wl
        obtain⟨wl,rfl⟩:∃W:World,W=wd:=⟨_,rfl⟩
        have r0:wl.cell? ⟨rb,0,none⟩=some (.int .i64 x0):=(blk_cell HRB.out 0).trans rfl
        have r1:wl.cell? ⟨rb,1,none⟩=some (.int .i64 x1):=(blk_cell HRB.out 1).trans rfl
        have r2:wl.cell? ⟨rb,2,none⟩=some (.int .i64 x2):=(blk_cell HRB.out 2).trans rfl
        have HD:Aside0 (dd neN none (l6.take (i_+1))=dd neN none (l6.take i_) ++ [⟨x0,x1,x2⟩]):=⟨by have hz:=HZ.out;subst hz;have h:=HR_.out;rw [List.getElem?_eq_getElem HLT.out] at h;rw [dd_zero _ _ HLT.out,Option.some.inj h]⟩
        have hvl:=HL.out.r6
        have hdl:(dd neN none (l6.take i_)).length≤24:=Nat.le_trans (dd_len _ _ _) (by rw [List.length_take];have:=HLN.out;omega)
        have HDL:=Aside0.mk hdl
        clear hdl hvl
        have c6:wl.cell? ⟨ga,6,none⟩=some u_:=(blk_cell HL.out.t 6).trans rfl
        obtain⟨dr,hdr⟩:∃l,l=dd neN none (l6.take i_):=⟨_,rfl⟩
        rw [←hdr] at HL HD HDL
        clear hdr
        go_wp2_with ((with_reducible refine gate_builtin (b:=.append) (xs:=#[.tmp 174,.tmp 176]) rfl ?_);at_builtin;go_loud (refine Kd.R_append k56 (w0:=wl) wS.heap.size rfl (.tmp 174) (.tmp 176) 28 56 (.agg #[.int .i64 0,.int .i64 0,.int .i64 0]) 24 rfl Try.underlying28 mkInnerI rfl (by decide) (by decide) u_ dr (⟨x0,x1,x2⟩) [.int .i64 x0,.int .i64 x1,.int .i64 x2] (fun k=>some k=(u_:Value).ownBlock∨wl.heap.size≤k) (fun _=>False) rfl rfl (k56_mkM _ _ _ _) (fun _ h=>h.elim) (fun k h=>.inr h) (Kd.R_mono HL.out.r6 (fun k h=>.inl h)) (Below.refl _ _) HL.out.k.1 ?ql ?_);(case ql=>have:=HDL.out;omega);intro v1 w4 hr1 hb1 hg1 hat1;obtain⟨A1,m1,k1,rfl⟩:=mkSl3 hr1;have HL1:=Aside0.mk (HL.out.app6 hr1 hb1 hg1);have HT1:=Aside0.mk (blk_grown HL.out.t hg1 (Kd.R_ne HL.out.r6 HL.out.t (by decide)));have hc2:=(blk_cell HT1.out 6).trans (show (#[Value.int .i64 N,.int .i64 G,.slice Z2 1 z2,.slice Z3 st.f.length z3,u4,u5,u_]:Array Value)[6]? = some u_ from rfl);have hf2:=blk_frozen HT1.out 6;clear hr1 hb1 hg1 hat1 c6)
        go_wp2
        go_roundg (l6.length - (i_+1))
        case measure=>have:=Hi.out;have:=HLT.out;omega
        case rel=>exact⟨i_+1,_,by first|rfl|rw [show wrap64 ((i_:Int)+1)=((i_+1:Nat):Int) by have:=HLT.out;have:=HLN.out;unfold wrap64;omega],⟨HLT.out,Nat.le_refl _⟩,⟨by rw [HD.out];exact HL1.out⟩⟩
      obtain⟨p_,hp_⟩:∃p_,i_=p_+1:=⟨i_ - 1,by omega⟩
      have HP:=Aside0.mk hp_
      have q0:((i_:Int) == 0)=false:=beq_eq_false_iff_ne.2 (by omega)
      have q1:wrap64 ((i_:Int) - 1)=(p_:Int):=by have:=HLT.out;have:=HLN.out;unfold wrap64;omega
      have hpl:p_ < l6.length:=by have:=HLT.out;omega
      have q2:=eq_true (show (p_:Int) < (l6.length:Int) by omega)
      have q3:=eq_true (show (0:Int)≤(p_:Int) by omega)
      obtain⟨ad2,eB,e0,e1,e2⟩:=at_T56 (Kd.R_reads' (HL.out.row HM6S.out HAS.out (by decide))).2.2 (p_:Int) (by omega) (by omega)
      obtain rfl:ad=ad2:=Option.some.inj eB
      have hrd:rd_T56 l6 (p_:Int)=l6[p_]:=by unfold rd_T56;rw [Int.toNat_natCast,List.getD_eq_getElem?_getD,List.getElem?_eq_getElem hpl];rfl
      rw [hrd,Int.toNat_natCast] at e0 e1 e2
      have HDN:Aside0 (dd neN none (l6.take (i_+1))=dd neN none (l6.take i_) ++ (if neN l6[p_] ⟨x0,x1,x2⟩=true then [⟨x0,x1,x2⟩] else [])):=⟨by
       have h:=dd_next neN l6 p_ (by have:=HLT.out;omega)
       have hr:=HR_.out
       subst hp_
       rw [List.getElem?_eq_getElem HLT.out] at hr
       rw [h,Option.some.inj hr]⟩
      generalize l6[p_]=y_ at HDN e0 e1 e2
      obtain⟨y0,y1,y2⟩:=y_
      clear hrd hpl h0 hp_ eB
      have t6:wl.cell? ⟨gb,6,none⟩=some (.slice (some ad) l6.length y6):=(blk_cell (HL.out.blk HTS.out HGT.out) 6).trans rfl
      have r0:wl.cell? ⟨rb,0,none⟩=some (.int .i64 x0):=(blk_cell HRB.out 0).trans rfl
      have r1:wl.cell? ⟨rb,1,none⟩=some (.int .i64 x1):=(blk_cell HRB.out 1).trans rfl
      by_cases d0:y0=x0
      rotate_left
      ·as_aux_lemma=>
        have m0:(y0 != x0)=true:=bne_iff_ne.2 d0
        have HNE:Aside0 (neN ⟨y0,y1,y2⟩ ⟨x0,x1,x2⟩=true):=⟨by unfold neN;simp [d0]⟩
        clear d0
        go_wp2_with fail
        go_quiet (fail)
        clear q0 q1 q2 q3 e0 e1 e2 m0 t6 r0 r1
        have HL1:=Aside0.mk (HL.out.below (pw_below_drewN (Below.refl _ _) nq))
        have HRB1:=Aside0.mk (blk_below HRB.out (pw_below_drewN (Below.refl _ _) nq))
        clear HL HRB
        have HL:=HL1
        have HRB:=HRB1
        clear HL1 HRB1
        obtain⟨wd,hwd⟩:∃W:World,W=wl.drewN nq:=⟨_,rfl⟩
        rw [←hwd] at HL HRB ⊢
        clear hwd
        try clear wl
        obtain⟨wl,rfl⟩:∃W:World,W=wd:=⟨_,rfl⟩
        have r0:wl.cell? ⟨rb,0,none⟩=some (.int .i64 x0):=(blk_cell HRB.out 0).trans rfl
        have r1:wl.cell? ⟨rb,1,none⟩=some (.int .i64 x1):=(blk_cell HRB.out 1).trans rfl
        have r2:wl.cell? ⟨rb,2,none⟩=some (.int .i64 x2):=(blk_cell HRB.out 2).trans rfl
        have HD:Aside0 (dd neN none (l6.take (i_+1))=dd neN none (l6.take i_) ++ [⟨x0,x1,x2⟩]):=⟨by rw [HDN.out,if_pos HNE.out]⟩
        have hvl:=HL.out.r6
        have hdl:(dd neN none (l6.take i_)).length≤24:=Nat.le_trans (dd_len _ _ _) (by rw [List.length_take];have:=HLN.out;omega)
        have HDL:=Aside0.mk hdl
        clear hdl hvl
        have c6:wl.cell? ⟨ga,6,none⟩=some u_:=(blk_cell HL.out.t 6).trans rfl
        obtain⟨dr,hdr⟩:∃l,l=dd neN none (l6.take i_):=⟨_,rfl⟩
        rw [←hdr] at HL HD HDL
        clear hdr
        go_wp2_with ((with_reducible refine gate_builtin (b:=.append) (xs:=#[.tmp 174,.tmp 176]) rfl ?_);at_builtin;go_loud (refine Kd.R_append k56 (w0:=wl) wS.heap.size rfl (.tmp 174) (.tmp 176) 28 56 (.agg #[.int .i64 0,.int .i64 0,.int .i64 0]) 24 rfl Try.underlying28 mkInnerI rfl (by decide) (by decide) u_ dr (⟨x0,x1,x2⟩) [.int .i64 x0,.int .i64 x1,.int .i64 x2] (fun k=>some k=(u_:Value).ownBlock∨wl.heap.size≤k) (fun _=>False) rfl rfl (k56_mkM _ _ _ _) (fun _ h=>h.elim) (fun k h=>.inr h) (Kd.R_mono HL.out.r6 (fun k h=>.inl h)) (Below.refl _ _) HL.out.k.1 ?ql ?_);(case ql=>have:=HDL.out;omega);intro v1 w4 hr1 hb1 hg1 hat1;obtain⟨A1,m1,k1,rfl⟩:=mkSl3 hr1;have HL1:=Aside0.mk (HL.out.app6 hr1 hb1 hg1);have HT1:=Aside0.mk (blk_grown HL.out.t hg1 (Kd.R_ne HL.out.r6 HL.out.t (by decide)));have hc2:=(blk_cell HT1.out 6).trans (show (#[Value.int .i64 N,.int .i64 G,.slice Z2 1 z2,.slice Z3 st.f.length z3,u4,u5,u_]:Array Value)[6]? = some u_ from rfl);have hf2:=blk_frozen HT1.out 6;clear hr1 hb1 hg1 hat1 c6)
        go_wp2
        go_roundg (l6.length - (i_+1))
        case measure=>have:=Hi.out;have:=HLT.out;omega
        case rel=>exact⟨i_+1,_,by first|rfl|rw [show wrap64 ((i_:Int)+1)=((i_+1:Nat):Int) by have:=HLT.out;have:=HLN.out;unfold wrap64;omega],⟨HLT.out,Nat.le_refl _⟩,⟨by rw [HD.out];exact HL1.out⟩⟩
      have m0:(y0 != x0)=false:=by rw [d0];exact bne_self_eq_false _
      by_cases d1:y1=x1
      rotate_left
      ·as_aux_lemma=>
        have m1:(y1 != x1)=true:=bne_iff_ne.2 d1
        have HNE:Aside0 (neN ⟨y0,y1,y2⟩ ⟨x0,x1,x2⟩=true):=⟨by unfold neN;simp [d1]⟩
        clear d0 d1
        go_wp2_with fail
        go_quiet (fail)
        clear q0 q1 q2 q3 e0 e1 e2 m0 m1 t6 r0 r1
        have HL1:=Aside0.mk (HL.out.below (pw_below_drewN (Below.refl _ _) nq))
        have HRB1:=Aside0.mk (blk_below HRB.out (pw_below_drewN (Below.refl _ _) nq))
        clear HL HRB
        have HL:=HL1
        have HRB:=HRB1
        clear HL1 HRB1
        obtain⟨wd,hwd⟩:∃W:World,W=wl.drewN nq:=⟨_,rfl⟩
        rw [←hwd] at HL HRB ⊢
        clear hwd
        try clear wl
        obtain⟨wl,rfl⟩:∃W:World,W=wd:=⟨_,rfl⟩
        have r0:wl.cell? ⟨rb,0,none⟩=some (.int .i64 x0):=(blk_cell HRB.out 0).trans rfl
        have r1:wl.cell? ⟨rb,1,none⟩=some (.int .i64 x1):=(blk_cell HRB.out 1).trans rfl
        have r2:wl.cell? ⟨rb,2,none⟩=some (.int .i64 x2):=(blk_cell HRB.out 2).trans rfl
        have HD:Aside0 (dd neN none (l6.take (i_+1))=dd neN none (l6.take i_) ++ [⟨x0,x1,x2⟩]):=⟨by rw [HDN.out,if_pos HNE.out]⟩
        have hvl:=HL.out.r6
        have hdl:(dd neN none (l6.take i_)).length≤24:=Nat.le_trans (dd_len _ _ _) (by rw [List.length_take];have:=HLN.out;omega)
        have HDL:=Aside0.mk hdl
        clear hdl hvl
        have c6:wl.cell? ⟨ga,6,none⟩=some u_:=(blk_cell HL.out.t 6).trans rfl
        obtain⟨dr,hdr⟩:∃l,l=dd neN none (l6.take i_):=⟨_,rfl⟩
        rw [←hdr] at HL HD HDL
        clear hdr
        go_wp2_with ((with_reducible refine gate_builtin (b:=.append) (xs:=#[.tmp 174,.tmp 176]) rfl ?_);at_builtin;go_loud (refine Kd.R_append k56 (w0:=wl) wS.heap.size rfl (.tmp 174) (.tmp 176) 28 56 (.agg #[.int .i64 0,.int .i64 0,.int .i64 0]) 24 rfl Try.underlying28 mkInnerI rfl (by decide) (by decide) u_ dr (⟨x0,x1,x2⟩) [.int .i64 x0,.int .i64 x1,.int .i64 x2] (fun k=>some k=(u_:Value).ownBlock∨wl.heap.size≤k) (fun _=>False) rfl rfl (k56_mkM _ _ _ _) (fun _ h=>h.elim) (fun k h=>.inr h) (Kd.R_mono HL.out.r6 (fun k h=>.inl h)) (Below.refl _ _) HL.out.k.1 ?ql ?_);(case ql=>have:=HDL.out;omega);intro v1 w4 hr1 hb1 hg1 hat1;obtain⟨A1,m1,k1,rfl⟩:=mkSl3 hr1;have HL1:=Aside0.mk (HL.out.app6 hr1 hb1 hg1);have HT1:=Aside0.mk (blk_grown HL.out.t hg1 (Kd.R_ne HL.out.r6 HL.out.t (by decide)));have hc2:=(blk_cell HT1.out 6).trans (show (#[Value.int .i64 N,.int .i64 G,.slice Z2 1 z2,.slice Z3 st.f.length z3,u4,u5,u_]:Array Value)[6]? = some u_ from rfl);have hf2:=blk_frozen HT1.out 6;clear hr1 hb1 hg1 hat1 c6)
        go_wp2
        go_roundg (l6.length - (i_+1))
        case measure=>have:=Hi.out;have:=HLT.out;omega
        case rel=>exact⟨i_+1,_,by first|rfl|rw [show wrap64 ((i_:Int)+1)=((i_+1:Nat):Int) by have:=HLT.out;have:=HLN.out;unfold wrap64;omega],⟨HLT.out,Nat.le_refl _⟩,⟨by rw [HD.out];exact HL1.out⟩⟩
      have m1:(y1 != x1)=false:=by rw [d1];exact bne_self_eq_false _
      have HNE:Aside0 (¬neN ⟨y0,y1,y2⟩ ⟨x0,x1,x2⟩=true):=⟨by unfold neN;simp [d0,d1]⟩
      clear d0 d1
      go_wp2_with fail
      go_quiet (fail)
      clear q0 q1 q2 q3 e0 e1 e2 m0 m1 t6 r0 r1
      have HL1:=Aside0.mk (HL.out.below (pw_below_drewN (Below.refl _ _) nq))
      have HRB1:=Aside0.mk (blk_below HRB.out (pw_below_drewN (Below.refl _ _) nq))
      clear HL HRB
      have HL:=HL1
      have HRB:=HRB1
      clear HL1 HRB1
      obtain⟨wd,hwd⟩:∃W:World,W=wl.drewN nq:=⟨_,rfl⟩
      rw [←hwd] at HL HRB ⊢
      clear hwd
      try clear wl
      obtain⟨wl,rfl⟩:∃W:World,W=wd:=⟨_,rfl⟩
      go_wp2
      go_roundg (l6.length - (i_+1))
      case measure=>have:=Hi.out;have:=HLT.out;omega
      case rel=>exact⟨i_+1,_,by first|rfl|rw [show wrap64 ((i_:Int)+1)=((i_+1:Nat):Int) by have:=HLT.out;have:=HLN.out;unfold wrap64;omega],⟨HLT.out,Nat.le_refl _⟩,⟨by rw [HDN.out,if_neg HNE.out,List.append_nil];exact HL.out⟩⟩
    have e4:l6.take i_=l6:=List.take_of_length_le (by omega)
    rw [e4] at HL
    have s3:=eq_false (show ¬(i_:Int) < (l6.length:Int) by omega)
    clear hl_ e4 Hi
    obtain⟨d6,hd6⟩:∃d,d=dd neN none l6:=⟨_,rfl⟩
    rw [←hd6] at HL
    have HD6:=Aside0.mk hd6
    clear hd6
    obtain⟨u6,hu6⟩:∃u:Value,u=u_:=⟨_,rfl⟩
    rw [←hu6] at HL
    clear hu6
    -- MARK4_6
    have q4:=HL.out.r4
    have q5:=HL.out.r5
    have q6:=HL.out.r6
    obtain⟨D4,k4,rfl⟩:=Kd.R_slice q4
    obtain⟨D5,k5,rfl⟩:=Kd.R_slice q5
    obtain⟨D6,k6,rfl⟩:=Kd.R_slice q6
    clear q4 q5 q6
    have HT:Aside0 (RT w wl AS cS S ga N G Z2 z2 [f0] Z3 z3 (st.f) D4 k4 d4 D5 k5 d5 D6 k6 d6):=⟨⟨HL.out.b,⟨(Kd.R_reads' (HL.out.row HSS.out HAS.out (by decide))).2.2,(Kd.R_reads' (HL.out.row HSS.out HAS.out (by decide))).2.1⟩,⟨(Kd.R_reads' (HL.out.row HI2S.out HAS.out (by decide))).2.2,(Kd.R_reads' (HL.out.row HI2S.out HAS.out (by decide))).2.1⟩,⟨(Kd.R_reads' (HL.out.row HI3S.out HAS.out (by decide))).2.2,(Kd.R_reads' (HL.out.row HI3S.out HAS.out (by decide))).2.1⟩,⟨(Kd.R_reads' (HL.out.r4)).2.2,(Kd.R_reads' (HL.out.r4)).2.1⟩,⟨(Kd.R_reads' (HL.out.r5)).2.2,(Kd.R_reads' (HL.out.r5)).2.1⟩,⟨(Kd.R_reads' (HL.out.r6)).2.2,(Kd.R_reads' (HL.out.r6)).2.1⟩,HL.out.t⟩⟩
    have HLD:Aside0 (d4.length≤24∧d5.length≤24∧d6.length≤24∧st.f.length≤24):=⟨by
     have h:=HLI.out
     have h4:=dd_len4 st.o
     have h5:=dd_len5 st.c
     have h6:=dd_len6 st.n
     rw [HD4.out,HD5.out,HD6.out,HLL.out.1,HLL.out.2.1,HLL.out.2.2]
     omega⟩
    have HINS:Aside0 (insB N [f0] st.f d4 d5 d6=true):=⟨by rw [HD4.out,HD5.out,HD6.out,HLL.out.1,HLL.out.2.1,HLL.out.2.2];exact long_ins HINV.out HF0.out⟩
    have HSl:Aside0 (S.length≤1000000):=⟨by have:=HS0.out.2.2.1;omega⟩
    have HTK:Aside0 (∀u:List Int,u.length≤1000→runs_Takes.f S N G [f0] st.f d4 d5 d6 u=some (takesB S [f0] st.f d4 d5 d6 u)∧canopyref4_Takes.f S N G [f0] st.f d4 d5 d6 u=some (takesB S [f0] st.f d4 d5 d6 u)):=⟨fun u hu=>by
     have h:=HLD.out
     have hs:=HSl.out
     have h1:([f0]:List Int).length≤1000000:=by simp
     have hn:=HN.out
     refine⟨by unfold runs_Takes.f;rw [if_pos (by omega)],?_⟩
     unfold canopyref4_Takes.f takesR
     rw [if_pos (by omega),if_pos (by omega),if_pos HINS.out]⟩
    have hst:runs_Step.f S N G [f0] st.f d4 d5 d6 (startL [f0]) (a3 % 3)=some (stepL S d4 d5 d6 (startL [f0]) (a3 % 3)):=by
     have h:=HLD.out
     unfold runs_Step.f
     refine if_pos ⟨?_,fun x hx=>?_⟩
     ·show (1 + 1) * (d4.length + d5.length + d6.length + 1) ≤ 100000000
      omega
     ·rw [(mem_start.1 hx).2];simp
    have hsl:(stepL S d4 d5 d6 (startL [f0]) (a3 % 3)).length≤1:=by
     rw [HD4.out,HD5.out,HD6.out,HLL.out.1,HLL.out.2.1,HLL.out.2.2]
     exact long_step (longO _) (longC _) (longN _) f0 _
    obtain⟨p1,hp1⟩:∃p,p=stepL S d4 d5 d6 (startL [f0]) (a3 % 3):=⟨_,rfl⟩
    rw [←hp1] at hst hsl
    have HST:=Aside0.mk (And.intro hst hsl)
    clear hst hsl hp1 HL HLL HD4 HD5 HD6 HINV HF0 HINS HLI HSS HI2S HI3S HM4S HM5S HM6S HAS HTS HGT HGA
    -- MARK5
    go_wp2_with fail
    obtain⟨wB,rfl⟩:∃W:World,W=wl:=⟨_,rfl⟩
    refine(canopylaw1_Word.calls 1002 AS cS S A3 c3 ws_ 40 (wordL S ws_ 40) _ HT.out.s.1 HT.out.s.2 (Kd.C_below HI3.out.1 HT.out.b) HI3.out.2.1 (word_eq HS0.out.2 ws_ HI3.out.2.2 40 (by decide) (by decide) 1002 (by decide))).mono ?_
    rintro e wn ⟨vw,rfl,hr,hb⟩
    have hwl:=wordL_len S ws_ 40
    obtain⟨ww,hww⟩:∃u,u=wordL S ws_ 40:=⟨_,rfl⟩
    rw [←hww] at hr hwl
    obtain⟨WA,wc,rfl⟩:=Kd.R_slice hr
    have HW:Aside0 (Kd.R (Kd.int .i64) 3 wn wB.heap.size (fun _=>True) (.slice WA ww.length wc) ww):=⟨hr⟩
    have HWL:=Aside0.mk hwl
    have HTB:=HT
    have HBB:Aside0 (Below wB.heap.size wB wn):=⟨hb⟩
    have HT1:=Aside0.mk (HT.out.below hb)
    clear HT hr hb hwl hww
    have HT:=HT1
    clear HT1 s3
    obtain⟨wq,rfl⟩:∃W:World,W=wn:=⟨_,rfl⟩
    go_upto_region 27 with (fail)
    -- MARK6
    obtain⟨hT1,hT2⟩:=HTK.out ww (by have:=HWL.out;omega)
    obtain⟨ww2,hww2⟩:∃l,l=ww ++ ww:=⟨_,rfl⟩
    have HWW:=Aside0.mk hww2
    obtain⟨hU1,hU2⟩:=HTK.out ww2 (by rw [hww2,List.length_append];have:=HWL.out;omega)
    clear hww2
    obtain⟨r,hr⟩:∃r,r=takesB S [f0] st.f d4 d5 d6 ww:=⟨_,rfl⟩
    obtain⟨r',hr'⟩:∃r,r=takesB S [f0] st.f d4 d5 d6 ww2:=⟨_,rfl⟩
    rw [←hr] at hT1 hT2
    rw [←hr'] at hU1 hU2
    have HTW:=Aside0.mk (And.intro hT1 hT2)
    have HUW:=Aside0.mk (And.intro hU1 hU2)
    clear hT1 hT2 hU1 hU2 hr hr' HTK
    have hrr:(r == r)=true:=by cases r<;>rfl
    have hrr' : (r' == r')=true:=by cases r'<;>rfl
    have hl1:decide ((p1.length:Int)≤1)=true:=decide_eq_true (by have:=HST.out.2;omega)
    have hl2:=eq_true (show (p1.length:Int)≤1 by have:=HST.out.2;omega)
    have hl3:=eq_true (show p1.length≤1 from HST.out.2)
    refine start_ (n:=36) (S:=fun w'=>w'.cell? ⟨ga,0,none⟩=some (.int .i64 N)∧w'.cell? ⟨ga,1,none⟩=some (.int .i64 G)∧w'.cell? ⟨ga,2,none⟩=some (.slice Z2 1 z2)∧w'.cell? ⟨ga,3,none⟩=some (.slice Z3 st.f.length z3)∧w'.cell? ⟨ga,4,none⟩=some (.slice D4 d4.length k4)∧w'.cell? ⟨ga,5,none⟩=some (.slice D5 d5.length k5)∧w'.cell? ⟨ga,6,none⟩=some (.slice D6 d6.length k6)) (ds:=[]) (pm 0 36) (by kernel_rfl) rfl rfl ⟨(blk_cell (HT.out.below (below_drew (Below.refl wq.heap.size wq))).a 0).trans rfl,(blk_cell (HT.out.below (below_drew (Below.refl wq.heap.size wq))).a 1).trans rfl,(blk_cell (HT.out.below (below_drew (Below.refl wq.heap.size wq))).a 2).trans rfl,(blk_cell (HT.out.below (below_drew (Below.refl wq.heap.size wq))).a 3).trans rfl,(blk_cell (HT.out.below (below_drew (Below.refl wq.heap.size wq))).a 4).trans rfl,(blk_cell (HT.out.below (below_drew (Below.refl wq.heap.size wq))).a 5).trans rfl,(blk_cell (HT.out.below (below_drew (Below.refl wq.heap.size wq))).a 6).trans rfl⟩ (fun hHeld=>?_)
    refine with_tabW L27t.tab L27t.bits (fun HT_ HW_=>?_)
    have hb:=(below_drew (Below.refl wq.heap.size wq))
    have HB1:=Aside0.mk (below_then HBB.out HBB.out.size hb)
    have HT1:=Aside0.mk (HTB.out.below HB1.out)
    have HW1:=Aside0.mk (Kd.R_below HW.out hb)
    clear HT HW HBB
    have HT:=HT1
    have HW:=HW1
    have HBB:=HB1
    clear HT1 HW1 HB1
    clear hb
    obtain⟨wd,hwd⟩:∃W:World,W=wq.drew:=⟨_,rfl⟩
    rw [←hwd] at HT HW HBB hHeld ⊢
    clear hwd
    try clear wq
    obtain⟨wq,rfl⟩:∃W:World,W=wd:=⟨_,rfl⟩
    iterate 3 (first|(refine pn_ (v:=?_) (a':=?_) rfl (rfl (a:=some _)) (any_of HT_.out (by kernel_rfl)) (fun _ _ _ h=>h) (Or.inl ⟨by rfl,?_⟩) ?_ ?_;rotate_left;(intro w';go_simp;with_reducible rfl);rotate_left;(simp only [Act.put,List.setIfInBounds_toArray,List.set_cons_zero,List.set_cons_succ,i64_w,i32_w];rfl))|(refine tn_ (v:=?_) (a':=?_) rfl (rfl (a:=some _)) (take_ofW HT_.out HW_.out (by kernel_rfl)) (fun _ _ _ h=>h) (Or.inl ⟨by rfl,?_⟩) hHeld ?_ ?_;rotate_left;(intro w' hS_;obtain⟨s0,s1,s2,s3,s4,s5,s6⟩:=hS_;go_simp;with_reducible rfl);rotate_left;(simp only [Act.put,List.setIfInBounds_toArray,List.set_cons_zero,List.set_cons_succ,i64_w,i32_w];rfl)))
    refine po_ 4 (v:=?_) (a':=?_) rfl (rfl (a:=some _)) (any_of HT_.out (by kernel_rfl)) (fun _ _ _ h=>h) (Or.inl ⟨by rfl,?_⟩) ?_ ?_;rotate_left;(intro w';go_simp;with_reducible rfl);rotate_left;(simp only [Act.put,List.setIfInBounds_toArray,List.set_cons_zero,List.set_cons_succ,i64_w,i32_w];rfl)
    refine one_ (i:=3) (N:=(some 185)) (pm 5 31) rfl rfl (one_of HT_.out (by kernel_rfl)) (by decide) (fun K hK=>?_)
    refine goes_ Try.func17 (by kernel_rfl) rfl #[.agg #[.int .i64 N,.int .i64 G,.slice Z2 1 z2,.slice Z3 st.f.length z3,.slice D4 d4.length k4,.slice D5 d5.length k5,.slice D6 d6.length k6]] rfl rfl rfl (by(try simp only [List.map_toArray,List.map_cons,List.map_nil]);rfl) ?_
    refine(runs_Start.calls N G Z2 z2 [f0] Z3 z3 (st.f) D4 k4 d4 D5 k5 d5 D6 k6 d6 (startL [f0]) _ HT.out.a2.1 HT.out.a2.2 HT.out.a3.1 HT.out.a3.2 HT.out.a4.1 HT.out.a4.2 HT.out.a5.1 HT.out.a5.2 HT.out.a6.1 HT.out.a6.2 (if_pos (by simp))).mono ?_
    rintro e we ⟨vp,rfl,hs,hb⟩
    obtain⟨PA,pc,rfl⟩:=Kd.R_slice (Kd.S_R hs)
    have HP:=Aside0.mk hs
    clear hs
    have HB1:=Aside0.mk (below_then HBB.out HBB.out.size hb)
    have HT1:=Aside0.mk (HTB.out.below HB1.out)
    have HW1:=Aside0.mk (Kd.R_below HW.out hb)
    clear HT HW HBB
    have HT:=HT1
    have HW:=HW1
    have HBB:=HB1
    clear HT1 HW1 HB1
    clear hb hHeld
    refine⟨_,rfl,?_⟩
    refine hK.out _ _ ⟨(blk_cell HT.out.a 0).trans rfl,(blk_cell HT.out.a 1).trans rfl,(blk_cell HT.out.a 2).trans rfl,(blk_cell HT.out.a 3).trans rfl,(blk_cell HT.out.a 4).trans rfl,(blk_cell HT.out.a 5).trans rfl,(blk_cell HT.out.a 6).trans rfl⟩ (fun hHeld=>?_)
    clear hK K
    obtain⟨wq,rfl⟩:∃wq:World,wq=we:=⟨_,rfl⟩
    refine norm_ (a':=?_) ?_ ?_
    rotate_left
    ·show Act.put _ (some 185) _ = _
     simp only [Act.put,List.setIfInBounds_toArray,List.set_cons_zero,List.set_cons_succ,i64_w,i32_w]
     rfl
    refine one_ (i:=5) (N:=(some 187)) (pm 6 30) rfl rfl (one_of HT_.out (by kernel_rfl)) (by decide) (fun K hK=>?_)
    refine goes_ Try.func26 (by kernel_rfl) rfl #[.int .i64 a3,.int .i64 3] rfl rfl rfl (by(try simp only [List.map_toArray,List.map_cons,List.map_nil]);rfl) ?_
    refine(canopylaw4_within.calls a3 3 (a3 % 3) _ (within4_eq (by decide) (by decide))).mono ?_
    rintro e we ⟨rfl,hd⟩
    have hb:=hd.below
    clear hd
    have HB1:=Aside0.mk (below_then HBB.out HBB.out.size hb)
    have HT1:=Aside0.mk (HTB.out.below HB1.out)
    have HW1:=Aside0.mk (Kd.R_below HW.out hb)
    clear HT HW HBB
    have HT:=HT1
    have HW:=HW1
    have HBB:=HB1
    clear HT1 HW1 HB1
    have HP1:=Aside0.mk (Kd.S_below HP.out hb)
    clear HP
    have HP:=HP1
    clear HP1
    clear hb hHeld
    refine⟨_,rfl,?_⟩
    refine hK.out _ _ ⟨(blk_cell HT.out.a 0).trans rfl,(blk_cell HT.out.a 1).trans rfl,(blk_cell HT.out.a 2).trans rfl,(blk_cell HT.out.a 3).trans rfl,(blk_cell HT.out.a 4).trans rfl,(blk_cell HT.out.a 5).trans rfl,(blk_cell HT.out.a 6).trans rfl⟩ (fun hHeld=>?_)
    clear hK K
    obtain⟨wq,rfl⟩:∃wq:World,wq=we:=⟨_,rfl⟩
    refine norm_ (a':=?_) ?_ ?_
    rotate_left
    ·show Act.put _ (some 187) _ = _
     simp only [Act.put,List.setIfInBounds_toArray,List.set_cons_zero,List.set_cons_succ,i64_w,i32_w]
     rfl
    refine one_ (i:=6) (N:=(some 188)) (pm 7 29) rfl rfl (one_of HT_.out (by kernel_rfl)) (by decide) (fun K hK=>?_)
    refine goes_ Try.func21 (by kernel_rfl) rfl #[.slice AS S.length cS,.agg #[.int .i64 N,.int .i64 G,.slice Z2 1 z2,.slice Z3 st.f.length z3,.slice D4 d4.length k4,.slice D5 d5.length k5,.slice D6 d6.length k6],.slice PA (startL [f0]).length pc,.int .i64 (a3 % 3)] rfl rfl rfl (by(try simp only [List.map_toArray,List.map_cons,List.map_nil]);rfl) ?_
    refine(runs_Step.calls AS cS S N G Z2 z2 [f0] Z3 z3 (st.f) D4 k4 d4 D5 k5 d5 D6 k6 d6 PA pc (startL [f0]) (a3 % 3) p1 _ HT.out.s.1 HT.out.s.2 HT.out.a2.1 HT.out.a2.2 HT.out.a3.1 HT.out.a3.2 HT.out.a4.1 HT.out.a4.2 HT.out.a5.1 HT.out.a5.2 HT.out.a6.1 HT.out.a6.2 (Kd.R_reads' (Kd.S_R HP.out)).2.2 (Kd.R_reads' (Kd.S_R HP.out)).2.1 HST.out.1).mono ?_
    rintro e we ⟨vq,rfl,hs,hb⟩
    obtain⟨PB,pb,rfl⟩:=Kd.R_slice (Kd.S_R hs)
    clear hs HP
    have HB1:=Aside0.mk (below_then HBB.out HBB.out.size hb)
    have HT1:=Aside0.mk (HTB.out.below HB1.out)
    have HW1:=Aside0.mk (Kd.R_below HW.out hb)
    clear HT HW HBB
    have HT:=HT1
    have HW:=HW1
    have HBB:=HB1
    clear HT1 HW1 HB1
    clear hb hHeld
    refine⟨_,rfl,?_⟩
    refine hK.out _ _ ⟨(blk_cell HT.out.a 0).trans rfl,(blk_cell HT.out.a 1).trans rfl,(blk_cell HT.out.a 2).trans rfl,(blk_cell HT.out.a 3).trans rfl,(blk_cell HT.out.a 4).trans rfl,(blk_cell HT.out.a 5).trans rfl,(blk_cell HT.out.a 6).trans rfl⟩ (fun hHeld=>?_)
    clear hK K
    obtain⟨wq,rfl⟩:∃wq:World,wq=we:=⟨_,rfl⟩
    refine norm_ (a':=?_) ?_ ?_
    rotate_left
    ·show Act.put _ (some 188) _ = _
     simp only [Act.put,List.setIfInBounds_toArray,List.set_cons_zero,List.set_cons_succ,i64_w,i32_w]
     rfl
    iterate 3 (refine pn_ (v:=?_) (a':=?_) rfl (rfl (a:=some _)) (any_of HT_.out (by kernel_rfl)) (fun _ _ _ h=>h) (Or.inl ⟨by rfl,?_⟩) ?_ ?_;rotate_left;(intro w';go_simp;with_reducible rfl);rotate_left;(simp only [Act.put,List.setIfInBounds_toArray,List.set_cons_zero,List.set_cons_succ,i64_w,i32_w];rfl))
    iterate 3 (first|(refine pn_ (v:=?_) (a':=?_) rfl (rfl (a:=some _)) (any_of HT_.out (by kernel_rfl)) (fun _ _ _ h=>h) (Or.inl ⟨by rfl,?_⟩) ?_ ?_;rotate_left;(intro w';go_simp;with_reducible rfl);rotate_left;(simp only [Act.put,List.setIfInBounds_toArray,List.set_cons_zero,List.set_cons_succ,i64_w,i32_w];rfl))|(refine tn_ (v:=?_) (a':=?_) rfl (rfl (a:=some _)) (take_ofW HT_.out HW_.out (by kernel_rfl)) (fun _ _ _ h=>h) (Or.inl ⟨by rfl,?_⟩) hHeld ?_ ?_;rotate_left;(intro w' hS_;obtain⟨s0,s1,s2,s3,s4,s5,s6⟩:=hS_;go_simp;with_reducible rfl);rotate_left;(simp only [Act.put,List.setIfInBounds_toArray,List.set_cons_zero,List.set_cons_succ,i64_w,i32_w];rfl)))
    refine po_ 14 (v:=?_) (a':=?_) rfl (rfl (a:=some _)) (any_of HT_.out (by kernel_rfl)) (fun _ _ _ h=>h) (Or.inl ⟨by rfl,?_⟩) ?_ ?_;rotate_left;(intro w';go_simp;with_reducible rfl);rotate_left;(simp only [Act.put,List.setIfInBounds_toArray,List.set_cons_zero,List.set_cons_succ,i64_w,i32_w];rfl)
    refine to_ 15 (v:=?_) (a':=?_) rfl (rfl (a:=some _)) (take_ofW HT_.out HW_.out (by kernel_rfl)) (fun _ _ _ h=>h) (Or.inl ⟨by rfl,?_⟩) hHeld ?_ ?_;rotate_left;(intro w' hS_;obtain⟨s0,s1,s2,s3,s4,s5,s6⟩:=hS_;go_simp;with_reducible rfl);rotate_left;(simp only [Act.put,List.setIfInBounds_toArray,List.set_cons_zero,List.set_cons_succ,i64_w,i32_w];rfl)
    refine po_ 16 (v:=?_) (a':=?_) rfl (rfl (a:=some _)) (any_of HT_.out (by kernel_rfl)) (fun _ _ _ h=>h) (Or.inl ⟨by rfl,?_⟩) ?_ ?_;rotate_left;(intro w';go_simp;with_reducible rfl);rotate_left;(simp only [Act.put,List.setIfInBounds_toArray,List.set_cons_zero,List.set_cons_succ,i64_w,i32_w];rfl)
    refine one_ (i:=13) (N:=(some 195)) (pm 17 19) rfl rfl (one_of HT_.out (by kernel_rfl)) (by decide) (fun K hK=>?_)
    refine goes_ Try.func23 (by kernel_rfl) rfl #[.slice AS S.length cS,.agg #[.int .i64 N,.int .i64 G,.slice Z2 1 z2,.slice Z3 st.f.length z3,.slice D4 d4.length k4,.slice D5 d5.length k5,.slice D6 d6.length k6],.slice WA ww.length wc] rfl rfl rfl (by(try simp only [List.map_toArray,List.map_cons,List.map_nil]);rfl) ?_
    refine(runs_Takes.calls AS cS S N G Z2 z2 [f0] Z3 z3 (st.f) D4 k4 d4 D5 k5 d5 D6 k6 d6 WA wc ww r _ HT.out.s.1 HT.out.s.2 HT.out.a2.1 HT.out.a2.2 HT.out.a3.1 HT.out.a3.2 HT.out.a4.1 HT.out.a4.2 HT.out.a5.1 HT.out.a5.2 HT.out.a6.1 HT.out.a6.2 (Kd.R_reads' HW.out).2.2 (Kd.R_reads' HW.out).2.1 HTW.out.1).mono ?_
    rintro e we ⟨rfl,hb⟩
    skip
    have HB1:=Aside0.mk (below_then HBB.out HBB.out.size hb)
    have HT1:=Aside0.mk (HTB.out.below HB1.out)
    have HW1:=Aside0.mk (Kd.R_below HW.out hb)
    clear HT HW HBB
    have HT:=HT1
    have HW:=HW1
    have HBB:=HB1
    clear HT1 HW1 HB1
    clear hb hHeld
    refine⟨_,rfl,?_⟩
    refine hK.out _ _ ⟨(blk_cell HT.out.a 0).trans rfl,(blk_cell HT.out.a 1).trans rfl,(blk_cell HT.out.a 2).trans rfl,(blk_cell HT.out.a 3).trans rfl,(blk_cell HT.out.a 4).trans rfl,(blk_cell HT.out.a 5).trans rfl,(blk_cell HT.out.a 6).trans rfl⟩ (fun hHeld=>?_)
    clear hK K
    obtain⟨wq,rfl⟩:∃wq:World,wq=we:=⟨_,rfl⟩
    refine norm_ (a':=?_) ?_ ?_
    rotate_left
    ·show Act.put _ (some 195) _ = _
     simp only [Act.put,List.setIfInBounds_toArray,List.set_cons_zero,List.set_cons_succ,i64_w,i32_w]
     rfl
    refine one_ (i:=17) (N:=(some 199)) (pm 18 18) rfl rfl (one_of HT_.out (by kernel_rfl)) (by decide) (fun K hK=>?_)
    refine goes_ Try.func27 (by kernel_rfl) rfl #[.slice AS S.length cS,.agg #[.int .i64 N,.int .i64 G,.slice Z2 1 z2,.slice Z3 st.f.length z3,.slice D4 d4.length k4,.slice D5 d5.length k5,.slice D6 d6.length k6],.slice WA ww.length wc] rfl rfl rfl (by(try simp only [List.map_toArray,List.map_cons,List.map_nil]);rfl) ?_
    refine(canopyref4_Takes.calls AS cS S N G Z2 z2 [f0] Z3 z3 (st.f) D4 k4 d4 D5 k5 d5 D6 k6 d6 WA wc ww r _ HT.out.s.1 HT.out.s.2 HT.out.a2.1 HT.out.a2.2 HT.out.a3.1 HT.out.a3.2 HT.out.a4.1 HT.out.a4.2 HT.out.a5.1 HT.out.a5.2 HT.out.a6.1 HT.out.a6.2 (Kd.R_reads' HW.out).2.2 (Kd.R_reads' HW.out).2.1 HTW.out.2).mono ?_
    rintro e we ⟨rfl,hb⟩
    skip
    have HB1:=Aside0.mk (below_then HBB.out HBB.out.size hb)
    have HT1:=Aside0.mk (HTB.out.below HB1.out)
    have HW1:=Aside0.mk (Kd.R_below HW.out hb)
    clear HT HW HBB
    have HT:=HT1
    have HW:=HW1
    have HBB:=HB1
    clear HT1 HW1 HB1
    clear hb hHeld
    refine⟨_,rfl,?_⟩
    refine hK.out _ _ ⟨(blk_cell HT.out.a 0).trans rfl,(blk_cell HT.out.a 1).trans rfl,(blk_cell HT.out.a 2).trans rfl,(blk_cell HT.out.a 3).trans rfl,(blk_cell HT.out.a 4).trans rfl,(blk_cell HT.out.a 5).trans rfl,(blk_cell HT.out.a 6).trans rfl⟩ (fun hHeld=>?_)
    clear hK K
    obtain⟨wq,rfl⟩:∃wq:World,wq=we:=⟨_,rfl⟩
    refine norm_ (a':=?_) ?_ ?_
    rotate_left
    ·show Act.put _ (some 199) _ = _
     simp only [Act.put,List.setIfInBounds_toArray,List.set_cons_zero,List.set_cons_succ,i64_w,i32_w]
     rfl
    iterate 3 (refine pn_ (v:=?_) (a':=?_) rfl (rfl (a:=some _)) (any_of HT_.out (by kernel_rfl)) (fun _ _ _ h=>h) (Or.inl ⟨by rfl,?_⟩) ?_ ?_;rotate_left;(intro w';go_simp;with_reducible rfl);rotate_left;(simp only [Act.put,List.setIfInBounds_toArray,List.set_cons_zero,List.set_cons_succ,i64_w,i32_w];rfl))
    iterate 4 (first|(refine pn_ (v:=?_) (a':=?_) rfl (rfl (a:=some _)) (any_of HT_.out (by kernel_rfl)) (fun _ _ _ h=>h) (Or.inl ⟨by rfl,?_⟩) ?_ ?_;rotate_left;(intro w';go_simp;with_reducible rfl);rotate_left;(simp only [Act.put,List.setIfInBounds_toArray,List.set_cons_zero,List.set_cons_succ,i64_w,i32_w];rfl))|(refine tn_ (v:=?_) (a':=?_) rfl (rfl (a:=some _)) (take_ofW HT_.out HW_.out (by kernel_rfl)) (fun _ _ _ h=>h) (Or.inl ⟨by rfl,?_⟩) hHeld ?_ ?_;rotate_left;(intro w' hS_;obtain⟨s0,s1,s2,s3,s4,s5,s6⟩:=hS_;go_simp;with_reducible rfl);rotate_left;(simp only [Act.put,List.setIfInBounds_toArray,List.set_cons_zero,List.set_cons_succ,i64_w,i32_w];rfl)))
    refine po_ 27 (v:=?_) (a':=?_) rfl (rfl (a:=some _)) (any_of HT_.out (by kernel_rfl)) (fun _ _ _ h=>h) (Or.inl ⟨by rfl,?_⟩) ?_ ?_;rotate_left;(intro w';go_simp;with_reducible rfl);rotate_left;(simp only [Act.put,List.setIfInBounds_toArray,List.set_cons_zero,List.set_cons_succ,i64_w,i32_w];rfl)
    refine to_ 28 (v:=?_) (a':=?_) rfl (rfl (a:=some _)) (take_ofW HT_.out HW_.out (by kernel_rfl)) (fun _ _ _ h=>h) (Or.inl ⟨by rfl,?_⟩) hHeld ?_ ?_;rotate_left;(intro w' hS_;obtain⟨s0,s1,s2,s3,s4,s5,s6⟩:=hS_;go_simp;with_reducible rfl);rotate_left;(simp only [Act.put,List.setIfInBounds_toArray,List.set_cons_zero,List.set_cons_succ,i64_w,i32_w];rfl)
    refine po_ 29 (v:=?_) (a':=?_) rfl (rfl (a:=some _)) (any_of HT_.out (by kernel_rfl)) (fun _ _ _ h=>h) (Or.inl ⟨by rfl,?_⟩) ?_ ?_;rotate_left;(intro w';go_simp;with_reducible rfl);rotate_left;(simp only [Act.put,List.setIfInBounds_toArray,List.set_cons_zero,List.set_cons_succ,i64_w,i32_w];rfl)
    refine po_ 30 (v:=?_) (a':=?_) rfl (rfl (a:=some _)) (any_of HT_.out (by kernel_rfl)) (fun _ _ _ h=>h) (Or.inl ⟨by rfl,?_⟩) ?_ ?_;rotate_left;(intro w';go_simp;with_reducible rfl);rotate_left;(simp only [Act.put,List.setIfInBounds_toArray,List.set_cons_zero,List.set_cons_succ,i64_w,i32_w];rfl)
    refine one_ (i:=25) (N:=(some 207)) #[true,true,true,true,true,true,true,true,true,true,true,true,true,true,true,true,true,true,true,true,true,true,true,true,true,true,false,true,true,true,true,false,false,false,false,false] rfl rfl (one_of HT_.out (by kernel_rfl)) (by decide) (fun K hK=>?_)
    refine twice_step (w0:=wB) wB.heap.size rfl (.tmp 205) (.tmp 206) 22 3 (.int .i64 0) 8 rfl Try.underlying22 infoInt rfl (by decide) (.slice WA ww.length wc) ww (fun _=>True) rfl rfl HW.out HBB.out HBB.out.size (by have:=HWL.out;omega) ?_
    intro v1 we h1 h2 h3
    rw [←HWW.out] at h1
    obtain⟨EA,Ec,rfl⟩:=Kd.R_slice h1
    have HV:=Aside0.mk h1
    have HW1:=Aside0.mk h2
    have HB1:=Aside0.mk h3
    have HT1:=Aside0.mk (HTB.out.below h3)
    clear h1 h2 h3 hHeld HW HT HBB
    have HT:=HT1
    have HW:=HW1
    have HBB:=HB1
    clear HT1 HW1 HB1
    refine hK.out _ _ ⟨(blk_cell HT.out.a 0).trans rfl,(blk_cell HT.out.a 1).trans rfl,(blk_cell HT.out.a 2).trans rfl,(blk_cell HT.out.a 3).trans rfl,(blk_cell HT.out.a 4).trans rfl,(blk_cell HT.out.a 5).trans rfl,(blk_cell HT.out.a 6).trans rfl⟩ (fun hHeld=>?_)
    clear hK K
    obtain⟨wq,rfl⟩:∃wq:World,wq=we:=⟨_,rfl⟩
    refine norm_ (a':=?_) ?_ ?_
    rotate_left
    ·show Act.put _ (some 207) _ = _
     simp only [Act.put,List.setIfInBounds_toArray,List.set_cons_zero,List.set_cons_succ,i64_w,i32_w]
     rfl
    refine one_ (i:=26) (N:=(some 208)) (pm 31 5) rfl rfl (one_of HT_.out (by kernel_rfl)) (by decide) (fun K hK=>?_)
    refine goes_ Try.func23 (by kernel_rfl) rfl #[.slice AS S.length cS,.agg #[.int .i64 N,.int .i64 G,.slice Z2 1 z2,.slice Z3 st.f.length z3,.slice D4 d4.length k4,.slice D5 d5.length k5,.slice D6 d6.length k6],.slice EA ww2.length Ec] rfl rfl rfl (by(try simp only [List.map_toArray,List.map_cons,List.map_nil]);rfl) ?_
    refine(runs_Takes.calls AS cS S N G Z2 z2 [f0] Z3 z3 (st.f) D4 k4 d4 D5 k5 d5 D6 k6 d6 EA Ec ww2 r' _ HT.out.s.1 HT.out.s.2 HT.out.a2.1 HT.out.a2.2 HT.out.a3.1 HT.out.a3.2 HT.out.a4.1 HT.out.a4.2 HT.out.a5.1 HT.out.a5.2 HT.out.a6.1 HT.out.a6.2 (Kd.R_reads' HV.out).2.2 (Kd.R_reads' HV.out).2.1 HUW.out.1).mono ?_
    rintro e we ⟨rfl,hb⟩
    skip
    have HB1:=Aside0.mk (below_then HBB.out HBB.out.size hb)
    have HT1:=Aside0.mk (HTB.out.below HB1.out)
    have HW1:=Aside0.mk (Kd.R_below HW.out hb)
    clear HT HW HBB
    have HT:=HT1
    have HW:=HW1
    have HBB:=HB1
    clear HT1 HW1 HB1
    have HV1:=Aside0.mk (Kd.R_below HV.out hb)
    clear HV
    have HV:=HV1
    clear HV1
    clear hb hHeld
    refine⟨_,rfl,?_⟩
    refine hK.out _ _ ⟨(blk_cell HT.out.a 0).trans rfl,(blk_cell HT.out.a 1).trans rfl,(blk_cell HT.out.a 2).trans rfl,(blk_cell HT.out.a 3).trans rfl,(blk_cell HT.out.a 4).trans rfl,(blk_cell HT.out.a 5).trans rfl,(blk_cell HT.out.a 6).trans rfl⟩ (fun hHeld=>?_)
    clear hK K
    obtain⟨wq,rfl⟩:∃wq:World,wq=we:=⟨_,rfl⟩
    refine norm_ (a':=?_) ?_ ?_
    rotate_left
    ·show Act.put _ (some 208) _ = _
     simp only [Act.put,List.setIfInBounds_toArray,List.set_cons_zero,List.set_cons_succ,i64_w,i32_w]
     rfl
    clear HV
    refine one_ (i:=31) (N:=(some 213)) (pm 32 4) rfl rfl (one_of HT_.out (by kernel_rfl)) (by decide) (fun K hK=>?_)
    refine twice_step (w0:=wB) wB.heap.size rfl (.tmp 211) (.tmp 212) 22 3 (.int .i64 0) 8 rfl Try.underlying22 infoInt rfl (by decide) (.slice WA ww.length wc) ww (fun _=>True) rfl rfl HW.out HBB.out HBB.out.size (by have:=HWL.out;omega) ?_
    intro v1 we h1 h2 h3
    rw [←HWW.out] at h1
    obtain⟨GA,Gc,rfl⟩:=Kd.R_slice h1
    have HV:=Aside0.mk h1
    have HW1:=Aside0.mk h2
    have HB1:=Aside0.mk h3
    have HT1:=Aside0.mk (HTB.out.below h3)
    clear h1 h2 h3 hHeld HW HT HBB
    have HT:=HT1
    have HW:=HW1
    have HBB:=HB1
    clear HT1 HW1 HB1
    refine hK.out _ _ ⟨(blk_cell HT.out.a 0).trans rfl,(blk_cell HT.out.a 1).trans rfl,(blk_cell HT.out.a 2).trans rfl,(blk_cell HT.out.a 3).trans rfl,(blk_cell HT.out.a 4).trans rfl,(blk_cell HT.out.a 5).trans rfl,(blk_cell HT.out.a 6).trans rfl⟩ (fun hHeld=>?_)
    clear hK K
    obtain⟨wq,rfl⟩:∃wq:World,wq=we:=⟨_,rfl⟩
    refine norm_ (a':=?_) ?_ ?_
    rotate_left
    ·show Act.put _ (some 213) _ = _
     simp only [Act.put,List.setIfInBounds_toArray,List.set_cons_zero,List.set_cons_succ,i64_w,i32_w]
     rfl
    refine one_ (i:=32) (N:=(some 214)) (pm 33 3) rfl rfl (one_of HT_.out (by kernel_rfl)) (by decide) (fun K hK=>?_)
    refine goes_ Try.func27 (by kernel_rfl) rfl #[.slice AS S.length cS,.agg #[.int .i64 N,.int .i64 G,.slice Z2 1 z2,.slice Z3 st.f.length z3,.slice D4 d4.length k4,.slice D5 d5.length k5,.slice D6 d6.length k6],.slice GA ww2.length Gc] rfl rfl rfl (by(try simp only [List.map_toArray,List.map_cons,List.map_nil]);rfl) ?_
    refine(canopyref4_Takes.calls AS cS S N G Z2 z2 [f0] Z3 z3 (st.f) D4 k4 d4 D5 k5 d5 D6 k6 d6 GA Gc ww2 r' _ HT.out.s.1 HT.out.s.2 HT.out.a2.1 HT.out.a2.2 HT.out.a3.1 HT.out.a3.2 HT.out.a4.1 HT.out.a4.2 HT.out.a5.1 HT.out.a5.2 HT.out.a6.1 HT.out.a6.2 (Kd.R_reads' HV.out).2.2 (Kd.R_reads' HV.out).2.1 HUW.out.2).mono ?_
    rintro e we ⟨rfl,hb⟩
    skip
    have HB1:=Aside0.mk (below_then HBB.out HBB.out.size hb)
    have HT1:=Aside0.mk (HTB.out.below HB1.out)
    have HW1:=Aside0.mk (Kd.R_below HW.out hb)
    clear HT HW HBB
    have HT:=HT1
    have HW:=HW1
    have HBB:=HB1
    clear HT1 HW1 HB1
    have HV1:=Aside0.mk (Kd.R_below HV.out hb)
    clear HV
    have HV:=HV1
    clear HV1
    clear hb hHeld
    refine⟨_,rfl,?_⟩
    refine hK.out _ _ ⟨(blk_cell HT.out.a 0).trans rfl,(blk_cell HT.out.a 1).trans rfl,(blk_cell HT.out.a 2).trans rfl,(blk_cell HT.out.a 3).trans rfl,(blk_cell HT.out.a 4).trans rfl,(blk_cell HT.out.a 5).trans rfl,(blk_cell HT.out.a 6).trans rfl⟩ (fun hHeld=>?_)
    clear hK K
    obtain⟨wq,rfl⟩:∃wq:World,wq=we:=⟨_,rfl⟩
    refine norm_ (a':=?_) ?_ ?_
    rotate_left
    ·show Act.put _ (some 214) _ = _
     simp only [Act.put,List.setIfInBounds_toArray,List.set_cons_zero,List.set_cons_succ,i64_w,i32_w]
     rfl
    iterate 3 (refine pn_ (v:=?_) (a':=?_) rfl (rfl (a:=some _)) (any_of HT_.out (by kernel_rfl)) (fun _ _ _ h=>h) (Or.inl ⟨by rfl,?_⟩) ?_ ?_;rotate_left;(intro w';go_simp;with_reducible rfl);rotate_left;(simp only [Act.put,List.setIfInBounds_toArray,List.set_cons_zero,List.set_cons_succ,i64_w,i32_w];rfl))
    refine done_ (done_of HT_.out (by kernel_rfl)) ?_
    go_wp2
    go_ret
    exact⟨rfl,HT.out.b⟩
theorem canopylaw4_RunsLong.walk (P:canopylaw4_RunsLong.Pure) (a0:Int) (a1:Option Addr) (len1 cap1:Nat) (z1:List Int) (a2:Option Addr) (len2 cap2:Nat) (z2:List Int) (a3:Int) (w:World) (w0:(Lit.int .i64 a0).wf=true) (w1:(a1=none∧len1=0∧cap1=0∧z1 = [])∨∃x,a1=some x∧len1≤cap1∧cap1≤maxLen∧z1.length=cap1∧(∀i,i < z1.length→w.cell? (x.add i)=some (.int .i64 (z1.getD i 0)))∧∀n∈z1,(Lit.int .i64 n).wf=true) (y1:len1*8≤140737488351232) (w2:(a2=none∧len2=0∧cap2=0∧z2 = [])∨∃x,a2=some x∧len2≤cap2∧cap2≤maxLen∧z2.length=cap2∧(∀i,i < z2.length→w.cell? (x.add i)=some (.int .i64 (z2.getD i 0)))∧∀n∈z2,(Lit.int .i64 n).wf=true) (y2:len2*8≤140737488351232) (w3:(Lit.int .i64 a3).wf=true) :
 Calls Try.prog 7 #[.int .i64 a0,.slice a1 len1 cap1,.slice a2 len2 cap2,.int .i64 a3] w fun e w'=>e=.returned (.bool true)∧Below w.heap.size w w':=by
 obtain⟨l1,rfl,hr1,hm1,hw1,hc1⟩:=ReadsInt.ofRowC w1
 obtain⟨l2,rfl,hr2,hm2,hw2,hc2⟩:=ReadsInt.ofRowC w2
 exact rlong_walk a0 a3 _ _ l1 _ _ l2 w (Kd.C_of_reads (d:=(0:Int)) (h1:=fun _=>rfl) hr1) hc1 hm1 (Kd.C_of_reads (d:=(0:Int)) (h1:=fun _=>rfl) hr2) hc2 hm2
end Go.Proofs.Ytjkhdldgmkkhjaa.P
