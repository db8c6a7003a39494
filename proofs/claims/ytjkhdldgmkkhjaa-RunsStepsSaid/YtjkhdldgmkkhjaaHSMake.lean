/- Words and walks of this claim: SMake. -/
import Derived.Test.YtjkhdldgmkkhjaaHMFar
import Derived.Test.YtjkhdldgmkkhjaaHUSymsEtc
import Derived.Test.YtjkhdldgmkkhjaaHMIntsEtc
set_option linter.unusedVariables false
set_option linter.unusedSimpArgs false
set_option linter.unnecessarySimpa false
namespace Go.Proofs.Ytjkhdldgmkkhjaa.P
open Go.RowKit Go.Proofs.YtjkhdldgmkkhjaaW.PrintWords Go.Proofs.YtjkhdldgmkkhjaaW.PrintLast Go.Proofs.YtjkhdldgmkkhjaaW.PrintMore Go.Proofs.Ytjkhdldgmkkhjaa.M
theorem foldl_nx {α β:Type} (f:β→α→β) (b:β) (l:List α) (i:Nat) (h:i < l.length):(l.take (i+1)).foldl f b=f ((l.take i).foldl f b) l[i]:=by
 rw [List.take_add_one,List.getElem?_eq_getElem h,List.foldl_append]
 rfl
theorem mkSl3 {α:Type} {d:Kd α} {e base:Nat} {ok:Nat→Prop} {w:World} {v:Value} {xs:List α} (h:d.R e w base ok v xs):∃A m c,v=.slice A m c:=by
 obtain⟨A,c,rfl⟩:=Kd.R_slice h
 exact⟨A,_,c,rfl⟩
theorem mkOpenI:(Try.prog.info? 52).map (fun i=>(i.zero,i.size,i.bytes))=some (some (.agg #[.int .i64 0,.int .i64 0,.int .i64 0,.int .i64 0]),4,32):=by kernel_rfl
theorem mkCloseI:(Try.prog.info? 54).map (fun i=>(i.zero,i.size,i.bytes))=some (some (.agg #[.int .i64 0,.int .i64 0,.int .i64 0,.int .i64 0]),4,32):=by kernel_rfl
theorem mkInnerI:(Try.prog.info? 56).map (fun i=>(i.zero,i.size,i.bytes))=some (some (.agg #[.int .i64 0,.int .i64 0,.int .i64 0]),3,24):=by kernel_rfl
theorem quoI {t:Int} (h0:0≤t) (h1:t < 1099511627776) {d:Int} (hd:0 < d):wrap64 (Int.tdiv t d)=t / d∧0≤t / d∧t / d < 1099511627776:=by
 have h2:0≤t / d:=Int.ediv_nonneg h0 (by omega)
 have h3:t / d≤t:=Int.ediv_le_self _ h0
 rw [Int.tdiv_eq_ediv_of_nonneg h0]
 refine⟨?_,h2,by omega⟩
 unfold wrap64
 omega
theorem remI {t d:Int} (h0:0≤t) (hd:0 < d):Int.tmod t d=t % d∧0≤t % d∧t % d < d:=⟨Int.tmod_eq_emod_of_nonneg h0,Int.emod_nonneg _ (by omega),Int.emod_lt_of_pos _ hd⟩
def stAt (l:List SSym) (N G:Int) (ns:List Int) (i:Nat):MSt:=(ns.take i).foldl (mkOne l N G) ⟨[],[],[],[],[]⟩
theorem stAt_next (l:List SSym) (N G:Int) (ns:List Int) (i:Nat) (h:i < ns.length):stAt l N G ns (i+1)=mkT l N G (stAt l N G ns i) (ns[i] % 1099511627776):=by
 unfold stAt
 rw [foldl_nx _ _ _ _ h]
 rfl
theorem stAt_len (l:List SSym) (N G:Int) (ns:List Int):∀i:Nat,MkLen (stAt l N G ns i) i
 | 0=>⟨by simp [stAt],by simp [stAt],by simp [stAt],by simp [stAt],by simp [stAt]⟩
 | i+1=>by
  by_cases h:i < ns.length
  ·rw [stAt_next _ _ _ _ _ h]
   have:=mkOne_len (l:=l) (N:=N) (G:=G) (stAt_len l N G ns i) ns[i]
   exact this
  have e : stAt l N G ns (i + 1) = stAt l N G ns i := by unfold stAt; rw [List.take_of_length_le (by omega), List.take_of_length_le (by omega)]
  rw [e]
  have h2:=stAt_len l N G ns i
  unfold MkLen at h2 ⊢
  omega
theorem R_one1 (w:World) (x:Int):Kd.R (Kd.int .i64) 3 (w.alloc (.cells #[.int .i64 x] 3)) w.heap.size (fun k=>some k=(Value.slice (some ⟨w.heap.size,0,none⟩) 1 1).ownBlock) (.slice (some ⟨w.heap.size,0,none⟩) 1 1) [x]:=
 ⟨fun k hk=>hk.symm,[.int .i64 x],World.ownsRow_lit (base:=w.heap.size) (e:=3) (size:=1) w #[.int .i64 x] 1 (Nat.le_refl _) (by decide) rfl,Reps.one (show Kd.M (Kd.int .i64) _ _ _ x [.int .i64 x] from rfl) (Reps.none _ _)⟩
section
variable {w w' wO : World} {go B B' : Nat} {N G v2 v3 v4 v5 v6 : Value} {r2 r3 : List Int} {r4 : List TOpen} {r5 : List TClose} {r6 : List TInner}
theorem OutR.put2 (h:OutR w wO go N G v2 v3 v4 v5 v6 r2 r3 r4 r5 r6) (hz:r2 = []):OutR ((w.alloc (.cells #[.int .i64 0] 3)).setCell ⟨go,2,none⟩ (.slice (some ⟨w.heap.size,0,none⟩) 1 1)) wO go N G (.slice (some ⟨w.heap.size,0,none⟩) 1 1) v3 v4 v5 v6 [0] r3 r4 r5 r6:=by
 subst hz
 exact h.app2 (p:=0) (Kd.R_lower (R_one1 w 0) h.b.size) (below_alloc h.b _) (World.grownBy_alloc w _ _) (.inr ⟨_,rfl,Nat.le_refl _⟩)
end
set_option maxHeartbeats 16000000 in
set_option maxRecDepth 100000 in
theorem make_own (A0:Option Addr) (c0:Nat) (l:List SSym) (size:Int) (A2:Option Addr) (c2:Nat) (ns:List Int) (most:Int) (w:World) (h0:Kd.C k46 w A0 l.length l) (hc0:l.length≤c0) (h2:Kd.C (Kd.int .i64) w A2 ns.length ns) (hl:symOk l) (hm:0 < most) (hm2:most≤100) :
 Calls Try.prog 14 #[.slice A0 l.length c0,.int .i64 size,.slice A2 ns.length c2,.int .i64 most] w fun e w'=>∃v2 v3 v4 v5 v6:Value,e=.returned (.agg #[.int .i64 (makeN size most),.int .i64 (makeG size),v2,v3,v4,v5,v6])∧
  OutV w' w.heap.size v2 v3 v4 v5 v6 (mkFin (makeN size most) (makeG size) (mkAll l (makeN size most) (makeG size) ns)).2.2.1 (mkAll l (makeN size most) (makeG size) ns).f (mkAll l (makeN size most) (makeG size) ns).o (mkAll l (makeN size most) (makeG size) ns).c (mkAll l (makeN size most) (makeG size) ns).n∧Below w.heap.size w w':=by
 have hN:=makeN_in size hm
 have hG:=makeG_in size
 obtain⟨N,eN⟩:∃N,N=makeN size most:=⟨_,rfl⟩
 obtain⟨G,eG⟩:∃G,G=makeG size:=⟨_,rfl⟩
 rw [←eN,←eG]
 have HNG:Aside0 (wrap64 (1+size % most)=N∧wrap64 (1+wrap64 (Int.tdiv size 7) % 2)=G∧1+wrap64 (Int.tdiv size 7) % 2=G):=⟨by rw [eN];exact wrap_id (by unfold makeN at hN;omega) (by unfold makeN at hN;omega),by rw [eG];exact wrap_id (by unfold makeG at hG;omega) (by unfold makeG at hG;omega),eG.symm⟩
 rw [←eN] at hN
 rw [←eG] at hG
 have HN:Aside0 (1≤N∧N≤100∧1≤G∧G≤2):=⟨by omega⟩
 have HM:=Aside0.mk (And.intro hm hm2)
 have HI0:=Aside0.mk (And.intro h0 (And.intro hc0 hl))
 have HI2:=Aside0.mk h2
 clear eN eG hN hG hm hm2 h0 hc0 h2 hl
 go_enter Try.func14,Try.ntmps14
 go_wp2_with fail
 refine(canopylaw3_within.calls size most _ _ (within3_eq HM.out.1 (by have:=HM.out;omega))).mono ?_
 rintro e w1 ⟨rfl,hd1⟩
 have HB1:Aside0 (Below w.heap.size w w1):=⟨below_then (below_alloc (Below.refl _ _) _) (below_alloc (Below.refl _ _) _).size hd1.below⟩
 have H81:Aside0 (w1.heap[w.heap.size]? = some (.cells #[.int .i64 0,.int .i64 0,.slice none 0 0,.slice none 0 0,.slice none 0 0,.slice none 0 0,.slice none 0 0] 30 (0,0))):=⟨blk_below (blk_newAt _ rfl) hd1.below⟩
 clear hd1
 go_wp2_with fail
 refine(canopylaw3_within.calls _ 2 _ _ (within3_eq (by decide) (by decide))).mono ?_
 rintro e wO ⟨rfl,hd2⟩
 have HBO:=Aside0.mk (below_then HB1.out HB1.out.size hd2.below)
 have H8:=Aside0.mk (blk_below H81.out hd2.below)
 clear hd2 HB1 H81
 obtain⟨g8,hg8⟩:∃g8,g8=w.heap.size:=⟨_,rfl⟩
 rw [←hg8] at H8 ⊢
 have HG8:=Aside0.mk hg8
 clear hg8
 go_upto_region 2 with (fail)
 rw [HNG.out.1,HNG.out.2.2]
 have HO:Aside0 (OutR (wO.alloc (.cells #[.int .i64 N,.int .i64 G,.slice none 0 0,.slice none 0 0,.slice none 0 0,.slice none 0 0,.slice none 0 0] 30)) wO wO.heap.size (.int .i64 N) (.int .i64 G) (Value.slice none 0 0) (Value.slice none 0 0) (Value.slice none 0 0) (Value.slice none 0 0) (Value.slice none 0 0) [] [] [] [] []):=⟨OutR.made (below_alloc (Below.refl _ _) _) (Nat.le_refl _) (blk_newAt _ rfl)⟩
 obtain⟨wq,hwq⟩:∃wq:World,wq=(wO.alloc (.cells #[.int .i64 N,.int .i64 G,.slice none 0 0,.slice none 0 0,.slice none 0 0,.slice none 0 0,.slice none 0 0] 30)):=⟨_,rfl⟩
 obtain⟨go,hgo⟩:∃go:Nat,go=wO.heap.size:=⟨_,rfl⟩
 rw [←hwq,←hgo] at HO ⊢
 have HGO:=Aside0.mk hgo
 clear hwq hgo HNG
 have n0:=eq_false (show ¬N=0 by have:=HN.out;omega)
 have n1:(N == 0)=false:=beq_eq_false_iff_ne.2 (by have:=HN.out;omega)
 have n2:=eq_false (show ¬G=0 by have:=HN.out;omega)
 have n3:(G == 0)=false:=beq_eq_false_iff_ne.2 (by have:=HN.out;omega)
 obtain⟨G1,hG1⟩:∃G1,G1=G+1:=⟨_,rfl⟩
 have w1_:wrap64 (G+1)=G1:=by rw [hG1];have:=HN.out;unfold wrap64;omega
 have n4:=eq_false (show ¬G1=0 by have:=HN.out;omega)
 have n5:(G1 == 0)=false:=beq_eq_false_iff_ne.2 (by have:=HN.out;omega)
 have HG1:=Aside0.mk hG1
 clear hG1
 go_wp2
 go_loopg [10] 24 (fun gk v10 w'=>∃(i:Nat) (v2 v3 v4 v5 v6:Value),v10=.int .i64 (i:Int)∧Aside0 (i≤ns.length∧i≤24∧24 - i≤gk)∧Aside0 (OutR w' wO go (.int .i64 N) (.int .i64 G) v2 v3 v4 v5 v6 (stAt l N G ns i).i (stAt l N G ns i).f (stAt l N G ns i).o (stAt l N G ns i).c (stAt l N G ns i).n))
 case atStart=>exact⟨0,_,_,_,_,_,rfl,⟨by omega,by omega,by omega⟩,HO⟩
 case' round=>skip
 clear HO
 obtain⟨i,v2,v3,v4,v5,v6,rfl,Hi,HO⟩:=hrel
 try clear wq
 obtain⟨wq,rfl⟩:∃wq:World,wq=wr:=⟨_,rfl⟩
 by_cases hlt:¬i < ns.length
 ·have hend : ns.take i = ns.take 24 := by rw [List.take_of_length_le (by omega), List.take_of_length_le (by have := Hi.out; omega)]
  have t1:=eq_false (show ¬(i:Int) < (ns.length:Int) by omega)
  have t2:=decide_eq_false (show ¬(i:Int) < (ns.length:Int) by omega)
  clear hlt
  have hE:stAt l N G ns i=mkAll l N G ns:=by unfold stAt mkAll;rw [show ns.take i=ns.take 24 from hend]
  have HO1:Aside0 (OutR wq wO go (.int .i64 N) (.int .i64 G) v2 v3 v4 v5 v6 (mkAll l N G ns).i (mkAll l N G ns).f (mkAll l N G ns).o (mkAll l N G ns).c (mkAll l N G ns).n):=⟨by rw [←hE];exact HO.out⟩
  clear HO hE hend Hi
  have HMA:=Aside0.mk (show mkFin N G (mkAll l N G ns)=(N,G,(if ((mkAll l N G ns).i.length:Int)=0 then [0] else (mkAll l N G ns).i),(mkAll l N G ns).f,(mkAll l N G ns).o,(mkAll l N G ns).c,(mkAll l N G ns).n) from rfl)
  obtain⟨st,hst⟩:∃st,st=mkAll l N G ns:=⟨_,rfl⟩
  rw [←hst] at HO1 HMA
  have HST:=Aside0.mk hst
  clear hst
  have HO:=HO1
  clear HO1
  obtain⟨A2_,c2_,hv2⟩:=Kd.R_slice HO.out.r2
  subst hv2
  have b2:=(blk_cell HO.out.t 2).trans (show (#[.int .i64 N,.int .i64 G,.slice A2_ st.i.length c2_,v3,v4,v5,v6]:Array Value)[2]? = some (.slice A2_ st.i.length c2_) from rfl)
  by_cases hz:(st.i.length:Int)=0
  ·have s1 := eq_true hz
   have s2:((st.i.length:Int) == 0)=true:=beq_iff_eq.2 hz
   have HZ:=Aside0.mk hz
   clear hz
   have f2:=blk_frozen (blk_old HO.out.t (.cells #[.int .i64 0] 3)) 2
   have c2:=(blk_cell (blk_old HO.out.t (.cells #[.int .i64 0] 3)) 2).trans (show (#[.int .i64 N,.int .i64 G,.slice A2_ st.i.length c2_,v3,v4,v5,v6]:Array Value)[2]? = some (.slice A2_ st.i.length c2_) from rfl)
   go_upto_region 27 with (fail)
   clear s1 s2 b2 f2 c2 t1 t2
   have HP:Aside0 (OutR ((wq.alloc (.cells #[.int .i64 0] 3)).setCell ⟨go,2,none⟩ (.slice (some ⟨wq.heap.size,0,none⟩) 1 1)) wO go (.int .i64 N) (.int .i64 G) (.slice (some ⟨wq.heap.size,0,none⟩) 1 1) v3 v4 v5 v6 [0] st.f st.o st.c st.n):=⟨HO.out.put2 (List.eq_nil_of_length_eq_zero (by have:=HZ.out;omega))⟩
   obtain⟨w5,hw5⟩:∃w5:World,w5=((wq.alloc (.cells #[.int .i64 0] 3)).setCell ⟨go,2,none⟩ (.slice (some ⟨wq.heap.size,0,none⟩) 1 1)):=⟨_,rfl⟩
   obtain⟨vz,hvz⟩:∃vz:Value,vz=.slice (some ⟨wq.heap.size,0,none⟩) 1 1:=⟨_,rfl⟩
   rw [←hw5,←hvz] at HP
   rw [←hw5]
   clear hw5 hvz HO
   have HRS:Aside0 ((mkFin N G st).2.2.1 = [0]):=⟨by rw [HMA.out];exact if_pos HZ.out⟩
   have q2:=HP.out.r2
   have q3:=HP.out.r3
   have q4:=HP.out.r4
   have q5:=HP.out.r5
   have q6:=HP.out.r6
   obtain⟨Z2,z2,rfl⟩:=Kd.R_slice q2
   obtain⟨Z3,z3,rfl⟩:=Kd.R_slice q3
   obtain⟨Z4,z4,rfl⟩:=Kd.R_slice q4
   obtain⟨Z5,z5,rfl⟩:=Kd.R_slice q5
   obtain⟨Z6,z6,rfl⟩:=Kd.R_slice q6
   clear q2 q3 q4 q5 q6
   have b0:=(blk_cell HP.out.t 0).trans (show (#[.int .i64 N,.int .i64 G,.slice Z2 ([0]:List Int).length z2,.slice Z3 st.f.length z3,.slice Z4 st.o.length z4,.slice Z5 st.c.length z5,.slice Z6 st.n.length z6]:Array Value)[0]? = some (.int .i64 N) from rfl)
   have b1:=(blk_cell HP.out.t 1).trans (show (#[.int .i64 N,.int .i64 G,.slice Z2 ([0]:List Int).length z2,.slice Z3 st.f.length z3,.slice Z4 st.o.length z4,.slice Z5 st.c.length z5,.slice Z6 st.n.length z6]:Array Value)[1]? = some (.int .i64 G) from rfl)
   have b2:=(blk_cell HP.out.t 2).trans (show (#[.int .i64 N,.int .i64 G,.slice Z2 ([0]:List Int).length z2,.slice Z3 st.f.length z3,.slice Z4 st.o.length z4,.slice Z5 st.c.length z5,.slice Z6 st.n.length z6]:Array Value)[2]? = some (.slice Z2 ([0]:List Int).length z2) from rfl)
   have b3:=(blk_cell HP.out.t 3).trans (show (#[.int .i64 N,.int .i64 G,.slice Z2 ([0]:List Int).length z2,.slice Z3 st.f.length z3,.slice Z4 st.o.length z4,.slice Z5 st.c.length z5,.slice Z6 st.n.length z6]:Array Value)[3]? = some (.slice Z3 st.f.length z3) from rfl)
   have b4:=(blk_cell HP.out.t 4).trans (show (#[.int .i64 N,.int .i64 G,.slice Z2 ([0]:List Int).length z2,.slice Z3 st.f.length z3,.slice Z4 st.o.length z4,.slice Z5 st.c.length z5,.slice Z6 st.n.length z6]:Array Value)[4]? = some (.slice Z4 st.o.length z4) from rfl)
   have b5:=(blk_cell HP.out.t 5).trans (show (#[.int .i64 N,.int .i64 G,.slice Z2 ([0]:List Int).length z2,.slice Z3 st.f.length z3,.slice Z4 st.o.length z4,.slice Z5 st.c.length z5,.slice Z6 st.n.length z6]:Array Value)[5]? = some (.slice Z5 st.c.length z5) from rfl)
   have b6:=(blk_cell HP.out.t 6).trans (show (#[.int .i64 N,.int .i64 G,.slice Z2 ([0]:List Int).length z2,.slice Z3 st.f.length z3,.slice Z4 st.o.length z4,.slice Z5 st.c.length z5,.slice Z6 st.n.length z6]:Array Value)[6]? = some (.slice Z6 st.n.length z6) from rfl)
   have H85:=Aside0.mk (blk_below H8.out HP.out.b)
   have y0:=(blk_cell H85.out 0).trans (show (#[.int .i64 0,.int .i64 0,.slice none 0 0,.slice none 0 0,.slice none 0 0,.slice none 0 0,.slice none 0 0]:Array Value)[0]? = some (.int .i64 0) from rfl)
   have g0:=blk_frozen H85.out 0
   have y1:=(blk_cell H85.out 1).trans (show (#[.int .i64 0,.int .i64 0,.slice none 0 0,.slice none 0 0,.slice none 0 0,.slice none 0 0,.slice none 0 0]:Array Value)[1]? = some (.int .i64 0) from rfl)
   have g1:=blk_frozen H85.out 1
   have y2:=(blk_cell H85.out 2).trans (show (#[.int .i64 0,.int .i64 0,.slice none 0 0,.slice none 0 0,.slice none 0 0,.slice none 0 0,.slice none 0 0]:Array Value)[2]? = some (.slice none 0 0) from rfl)
   have g2:=blk_frozen H85.out 2
   have y3:=(blk_cell H85.out 3).trans (show (#[.int .i64 0,.int .i64 0,.slice none 0 0,.slice none 0 0,.slice none 0 0,.slice none 0 0,.slice none 0 0]:Array Value)[3]? = some (.slice none 0 0) from rfl)
   have g3:=blk_frozen H85.out 3
   have y4:=(blk_cell H85.out 4).trans (show (#[.int .i64 0,.int .i64 0,.slice none 0 0,.slice none 0 0,.slice none 0 0,.slice none 0 0,.slice none 0 0]:Array Value)[4]? = some (.slice none 0 0) from rfl)
   have g4:=blk_frozen H85.out 4
   have y5:=(blk_cell H85.out 5).trans (show (#[.int .i64 0,.int .i64 0,.slice none 0 0,.slice none 0 0,.slice none 0 0,.slice none 0 0,.slice none 0 0]:Array Value)[5]? = some (.slice none 0 0) from rfl)
   have g5:=blk_frozen H85.out 5
   have y6:=(blk_cell H85.out 6).trans (show (#[.int .i64 0,.int .i64 0,.slice none 0 0,.slice none 0 0,.slice none 0 0,.slice none 0 0,.slice none 0 0]:Array Value)[6]? = some (.slice none 0 0) from rfl)
   have g6:=blk_frozen H85.out 6
   go_wp2
   refine bodyPost_ret (results_cell_row rfl _ _ g8 30 #[.int .i64 N,.int .i64 G,.slice Z2 ([0]:List Int).length z2,.slice Z3 st.f.length z3,.slice Z4 st.o.length z4,.slice Z5 st.c.length z5,.slice Z6 st.n.length z6] (0,0) _ rfl (blk_set (blk_set (blk_set (blk_set (blk_set (blk_set (blk_set (H85.out) 0 (.int .i64 N)) 1 (.int .i64 G)) 2 (.slice Z2 ([0]:List Int).length z2)) 3 (.slice Z3 st.f.length z3)) 4 (.slice Z4 st.o.length z4)) 5 (.slice Z5 st.c.length z5)) 6 (.slice Z6 st.n.length z6)) Try.underlying30 rfl (by kernel_rfl)) rfl ?_
   refine⟨_,_,_,_,_,rfl,?_,?_⟩
   ·rw [← HST.out, HRS.out]
    have hlt8:=blk_lt H8.out
    refine OutV.lower ?_ HBO.out.size
    repeat (refine OutV.set ?_ hlt8 _)
    exact OutV.of_R HP.out
   rw [HG8.out]
   exact below_setCells7g (below_then HBO.out HBO.out.size HP.out.b) (Nat.le_refl _)
  have s1 := eq_false hz
  have s2:((st.i.length:Int) == 0)=false:=beq_eq_false_iff_ne.2 hz
  have HZ:=Aside0.mk hz
  clear hz
  go_upto_region 27 with (fail)
  clear s1 s2 b2 t1 t2
  have HP:=Aside0.mk HO.out
  clear HO
  obtain⟨w5,hw5⟩:∃w5:World,w5=wq:=⟨_,rfl⟩
  obtain⟨vz,hvz⟩:∃vz:Value,vz=.slice A2_ st.i.length c2_:=⟨_,rfl⟩
  rw [←hw5,←hvz] at HP
  rw [←hw5]
  clear hw5 hvz
  have HRS:Aside0 ((mkFin N G st).2.2.1=st.i):=⟨by rw [HMA.out];exact if_neg HZ.out⟩
  have q2:=HP.out.r2
  have q3:=HP.out.r3
  have q4:=HP.out.r4
  have q5:=HP.out.r5
  have q6:=HP.out.r6
  obtain⟨Z2,z2,rfl⟩:=Kd.R_slice q2
  obtain⟨Z3,z3,rfl⟩:=Kd.R_slice q3
  obtain⟨Z4,z4,rfl⟩:=Kd.R_slice q4
  obtain⟨Z5,z5,rfl⟩:=Kd.R_slice q5
  obtain⟨Z6,z6,rfl⟩:=Kd.R_slice q6
  clear q2 q3 q4 q5 q6
  have b0:=(blk_cell HP.out.t 0).trans (show (#[.int .i64 N,.int .i64 G,.slice Z2 (st.i:List Int).length z2,.slice Z3 st.f.length z3,.slice Z4 st.o.length z4,.slice Z5 st.c.length z5,.slice Z6 st.n.length z6]:Array Value)[0]? = some (.int .i64 N) from rfl)
  have b1:=(blk_cell HP.out.t 1).trans (show (#[.int .i64 N,.int .i64 G,.slice Z2 (st.i:List Int).length z2,.slice Z3 st.f.length z3,.slice Z4 st.o.length z4,.slice Z5 st.c.length z5,.slice Z6 st.n.length z6]:Array Value)[1]? = some (.int .i64 G) from rfl)
  have b2:=(blk_cell HP.out.t 2).trans (show (#[.int .i64 N,.int .i64 G,.slice Z2 (st.i:List Int).length z2,.slice Z3 st.f.length z3,.slice Z4 st.o.length z4,.slice Z5 st.c.length z5,.slice Z6 st.n.length z6]:Array Value)[2]? = some (.slice Z2 (st.i:List Int).length z2) from rfl)
  have b3:=(blk_cell HP.out.t 3).trans (show (#[.int .i64 N,.int .i64 G,.slice Z2 (st.i:List Int).length z2,.slice Z3 st.f.length z3,.slice Z4 st.o.length z4,.slice Z5 st.c.length z5,.slice Z6 st.n.length z6]:Array Value)[3]? = some (.slice Z3 st.f.length z3) from rfl)
  have b4:=(blk_cell HP.out.t 4).trans (show (#[.int .i64 N,.int .i64 G,.slice Z2 (st.i:List Int).length z2,.slice Z3 st.f.length z3,.slice Z4 st.o.length z4,.slice Z5 st.c.length z5,.slice Z6 st.n.length z6]:Array Value)[4]? = some (.slice Z4 st.o.length z4) from rfl)
  have b5:=(blk_cell HP.out.t 5).trans (show (#[.int .i64 N,.int .i64 G,.slice Z2 (st.i:List Int).length z2,.slice Z3 st.f.length z3,.slice Z4 st.o.length z4,.slice Z5 st.c.length z5,.slice Z6 st.n.length z6]:Array Value)[5]? = some (.slice Z5 st.c.length z5) from rfl)
  have b6:=(blk_cell HP.out.t 6).trans (show (#[.int .i64 N,.int .i64 G,.slice Z2 (st.i:List Int).length z2,.slice Z3 st.f.length z3,.slice Z4 st.o.length z4,.slice Z5 st.c.length z5,.slice Z6 st.n.length z6]:Array Value)[6]? = some (.slice Z6 st.n.length z6) from rfl)
  have H85:=Aside0.mk (blk_below H8.out HP.out.b)
  have y0:=(blk_cell H85.out 0).trans (show (#[.int .i64 0,.int .i64 0,.slice none 0 0,.slice none 0 0,.slice none 0 0,.slice none 0 0,.slice none 0 0]:Array Value)[0]? = some (.int .i64 0) from rfl)
  have g0:=blk_frozen H85.out 0
  have y1:=(blk_cell H85.out 1).trans (show (#[.int .i64 0,.int .i64 0,.slice none 0 0,.slice none 0 0,.slice none 0 0,.slice none 0 0,.slice none 0 0]:Array Value)[1]? = some (.int .i64 0) from rfl)
  have g1:=blk_frozen H85.out 1
  have y2:=(blk_cell H85.out 2).trans (show (#[.int .i64 0,.int .i64 0,.slice none 0 0,.slice none 0 0,.slice none 0 0,.slice none 0 0,.slice none 0 0]:Array Value)[2]? = some (.slice none 0 0) from rfl)
  have g2:=blk_frozen H85.out 2
  have y3:=(blk_cell H85.out 3).trans (show (#[.int .i64 0,.int .i64 0,.slice none 0 0,.slice none 0 0,.slice none 0 0,.slice none 0 0,.slice none 0 0]:Array Value)[3]? = some (.slice none 0 0) from rfl)
  have g3:=blk_frozen H85.out 3
  have y4:=(blk_cell H85.out 4).trans (show (#[.int .i64 0,.int .i64 0,.slice none 0 0,.slice none 0 0,.slice none 0 0,.slice none 0 0,.slice none 0 0]:Array Value)[4]? = some (.slice none 0 0) from rfl)
  have g4:=blk_frozen H85.out 4
  have y5:=(blk_cell H85.out 5).trans (show (#[.int .i64 0,.int .i64 0,.slice none 0 0,.slice none 0 0,.slice none 0 0,.slice none 0 0,.slice none 0 0]:Array Value)[5]? = some (.slice none 0 0) from rfl)
  have g5:=blk_frozen H85.out 5
  have y6:=(blk_cell H85.out 6).trans (show (#[.int .i64 0,.int .i64 0,.slice none 0 0,.slice none 0 0,.slice none 0 0,.slice none 0 0,.slice none 0 0]:Array Value)[6]? = some (.slice none 0 0) from rfl)
  have g6:=blk_frozen H85.out 6
  go_wp2
  refine bodyPost_ret (results_cell_row rfl _ _ g8 30 #[.int .i64 N,.int .i64 G,.slice Z2 (st.i:List Int).length z2,.slice Z3 st.f.length z3,.slice Z4 st.o.length z4,.slice Z5 st.c.length z5,.slice Z6 st.n.length z6] (0,0) _ rfl (blk_set (blk_set (blk_set (blk_set (blk_set (blk_set (blk_set (H85.out) 0 (.int .i64 N)) 1 (.int .i64 G)) 2 (.slice Z2 (st.i:List Int).length z2)) 3 (.slice Z3 st.f.length z3)) 4 (.slice Z4 st.o.length z4)) 5 (.slice Z5 st.c.length z5)) 6 (.slice Z6 st.n.length z6)) Try.underlying30 rfl (by kernel_rfl)) rfl ?_
  refine⟨_,_,_,_,_,rfl,?_,?_⟩
  ·rw [← HST.out, HRS.out]
   have hlt8:=blk_lt H8.out
   refine OutV.lower ?_ HBO.out.size
   repeat (refine OutV.set ?_ hlt8 _)
   exact OutV.of_R HP.out
  rw [HG8.out]
  exact below_setCells7g (below_then HBO.out HBO.out.size HP.out.b) (Nat.le_refl _)
 have hlt:=Classical.not_not.1 hlt
 have HLT:=Aside0.mk hlt
 have t1:=eq_true (show (i:Int) < (ns.length:Int) by omega)
 have t2:=decide_eq_true (show (i:Int) < (ns.length:Int) by omega)
 clear hlt
 by_cases h24:¬i < 24
 ·have hend : ns.take i = ns.take 24 := by rw [show i = 24 by have := Hi.out; omega]
  have t3:=eq_false (show ¬(i:Int) < 24 by omega)
  have t4:=decide_eq_false (show ¬(i:Int) < 24 by omega)
  clear h24
  have hE:stAt l N G ns i=mkAll l N G ns:=by unfold stAt mkAll;rw [show ns.take i=ns.take 24 from hend]
  have HO1:Aside0 (OutR wq wO go (.int .i64 N) (.int .i64 G) v2 v3 v4 v5 v6 (mkAll l N G ns).i (mkAll l N G ns).f (mkAll l N G ns).o (mkAll l N G ns).c (mkAll l N G ns).n):=⟨by rw [←hE];exact HO.out⟩
  clear HO hE hend Hi
  have HMA:=Aside0.mk (show mkFin N G (mkAll l N G ns)=(N,G,(if ((mkAll l N G ns).i.length:Int)=0 then [0] else (mkAll l N G ns).i),(mkAll l N G ns).f,(mkAll l N G ns).o,(mkAll l N G ns).c,(mkAll l N G ns).n) from rfl)
  obtain⟨st,hst⟩:∃st,st=mkAll l N G ns:=⟨_,rfl⟩
  rw [←hst] at HO1 HMA
  have HST:=Aside0.mk hst
  clear hst
  have HO:=HO1
  clear HO1
  obtain⟨A2_,c2_,hv2⟩:=Kd.R_slice HO.out.r2
  subst hv2
  have b2:=(blk_cell HO.out.t 2).trans (show (#[.int .i64 N,.int .i64 G,.slice A2_ st.i.length c2_,v3,v4,v5,v6]:Array Value)[2]? = some (.slice A2_ st.i.length c2_) from rfl)
  by_cases hz:(st.i.length:Int)=0
  ·have s1 := eq_true hz
   have s2:((st.i.length:Int) == 0)=true:=beq_iff_eq.2 hz
   have HZ:=Aside0.mk hz
   clear hz
   have f2:=blk_frozen (blk_old HO.out.t (.cells #[.int .i64 0] 3)) 2
   have c2:=(blk_cell (blk_old HO.out.t (.cells #[.int .i64 0] 3)) 2).trans (show (#[.int .i64 N,.int .i64 G,.slice A2_ st.i.length c2_,v3,v4,v5,v6]:Array Value)[2]? = some (.slice A2_ st.i.length c2_) from rfl)
   go_upto_region 27 with (fail)
   clear s1 s2 b2 f2 c2 t1 t2 t3 t4
   have HP:Aside0 (OutR ((wq.alloc (.cells #[.int .i64 0] 3)).setCell ⟨go,2,none⟩ (.slice (some ⟨wq.heap.size,0,none⟩) 1 1)) wO go (.int .i64 N) (.int .i64 G) (.slice (some ⟨wq.heap.size,0,none⟩) 1 1) v3 v4 v5 v6 [0] st.f st.o st.c st.n):=⟨HO.out.put2 (List.eq_nil_of_length_eq_zero (by have:=HZ.out;omega))⟩
   obtain⟨w5,hw5⟩:∃w5:World,w5=((wq.alloc (.cells #[.int .i64 0] 3)).setCell ⟨go,2,none⟩ (.slice (some ⟨wq.heap.size,0,none⟩) 1 1)):=⟨_,rfl⟩
   obtain⟨vz,hvz⟩:∃vz:Value,vz=.slice (some ⟨wq.heap.size,0,none⟩) 1 1:=⟨_,rfl⟩
   rw [←hw5,←hvz] at HP
   rw [←hw5]
   clear hw5 hvz HO
   have HRS:Aside0 ((mkFin N G st).2.2.1 = [0]):=⟨by rw [HMA.out];exact if_pos HZ.out⟩
   have q2:=HP.out.r2
   have q3:=HP.out.r3
   have q4:=HP.out.r4
   have q5:=HP.out.r5
   have q6:=HP.out.r6
   obtain⟨Z2,z2,rfl⟩:=Kd.R_slice q2
   obtain⟨Z3,z3,rfl⟩:=Kd.R_slice q3
   obtain⟨Z4,z4,rfl⟩:=Kd.R_slice q4
   obtain⟨Z5,z5,rfl⟩:=Kd.R_slice q5
   obtain⟨Z6,z6,rfl⟩:=Kd.R_slice q6
   clear q2 q3 q4 q5 q6
   have b0:=(blk_cell HP.out.t 0).trans (show (#[.int .i64 N,.int .i64 G,.slice Z2 ([0]:List Int).length z2,.slice Z3 st.f.length z3,.slice Z4 st.o.length z4,.slice Z5 st.c.length z5,.slice Z6 st.n.length z6]:Array Value)[0]? = some (.int .i64 N) from rfl)
   have b1:=(blk_cell HP.out.t 1).trans (show (#[.int .i64 N,.int .i64 G,.slice Z2 ([0]:List Int).length z2,.slice Z3 st.f.length z3,.slice Z4 st.o.length z4,.slice Z5 st.c.length z5,.slice Z6 st.n.length z6]:Array Value)[1]? = some (.int .i64 G) from rfl)
   have b2:=(blk_cell HP.out.t 2).trans (show (#[.int .i64 N,.int .i64 G,.slice Z2 ([0]:List Int).length z2,.slice Z3 st.f.length z3,.slice Z4 st.o.length z4,.slice Z5 st.c.length z5,.slice Z6 st.n.length z6]:Array Value)[2]? = some (.slice Z2 ([0]:List Int).length z2) from rfl)
   have b3:=(blk_cell HP.out.t 3).trans (show (#[.int .i64 N,.int .i64 G,.slice Z2 ([0]:List Int).length z2,.slice Z3 st.f.length z3,.slice Z4 st.o.length z4,.slice Z5 st.c.length z5,.slice Z6 st.n.length z6]:Array Value)[3]? = some (.slice Z3 st.f.length z3) from rfl)
   have b4:=(blk_cell HP.out.t 4).trans (show (#[.int .i64 N,.int .i64 G,.slice Z2 ([0]:List Int).length z2,.slice Z3 st.f.length z3,.slice Z4 st.o.length z4,.slice Z5 st.c.length z5,.slice Z6 st.n.length z6]:Array Value)[4]? = some (.slice Z4 st.o.length z4) from rfl)
   have b5:=(blk_cell HP.out.t 5).trans (show (#[.int .i64 N,.int .i64 G,.slice Z2 ([0]:List Int).length z2,.slice Z3 st.f.length z3,.slice Z4 st.o.length z4,.slice Z5 st.c.length z5,.slice Z6 st.n.length z6]:Array Value)[5]? = some (.slice Z5 st.c.length z5) from rfl)
   have b6:=(blk_cell HP.out.t 6).trans (show (#[.int .i64 N,.int .i64 G,.slice Z2 ([0]:List Int).length z2,.slice Z3 st.f.length z3,.slice Z4 st.o.length z4,.slice Z5 st.c.length z5,.slice Z6 st.n.length z6]:Array Value)[6]? = some (.slice Z6 st.n.length z6) from rfl)
   have H85:=Aside0.mk (blk_below H8.out HP.out.b)
   have y0:=(blk_cell H85.out 0).trans (show (#[.int .i64 0,.int .i64 0,.slice none 0 0,.slice none 0 0,.slice none 0 0,.slice none 0 0,.slice none 0 0]:Array Value)[0]? = some (.int .i64 0) from rfl)
   have g0:=blk_frozen H85.out 0
   have y1:=(blk_cell H85.out 1).trans (show (#[.int .i64 0,.int .i64 0,.slice none 0 0,.slice none 0 0,.slice none 0 0,.slice none 0 0,.slice none 0 0]:Array Value)[1]? = some (.int .i64 0) from rfl)
   have g1:=blk_frozen H85.out 1
   have y2:=(blk_cell H85.out 2).trans (show (#[.int .i64 0,.int .i64 0,.slice none 0 0,.slice none 0 0,.slice none 0 0,.slice none 0 0,.slice none 0 0]:Array Value)[2]? = some (.slice none 0 0) from rfl)
   have g2:=blk_frozen H85.out 2
   have y3:=(blk_cell H85.out 3).trans (show (#[.int .i64 0,.int .i64 0,.slice none 0 0,.slice none 0 0,.slice none 0 0,.slice none 0 0,.slice none 0 0]:Array Value)[3]? = some (.slice none 0 0) from rfl)
   have g3:=blk_frozen H85.out 3
   have y4:=(blk_cell H85.out 4).trans (show (#[.int .i64 0,.int .i64 0,.slice none 0 0,.slice none 0 0,.slice none 0 0,.slice none 0 0,.slice none 0 0]:Array Value)[4]? = some (.slice none 0 0) from rfl)
   have g4:=blk_frozen H85.out 4
   have y5:=(blk_cell H85.out 5).trans (show (#[.int .i64 0,.int .i64 0,.slice none 0 0,.slice none 0 0,.slice none 0 0,.slice none 0 0,.slice none 0 0]:Array Value)[5]? = some (.slice none 0 0) from rfl)
   have g5:=blk_frozen H85.out 5
   have y6:=(blk_cell H85.out 6).trans (show (#[.int .i64 0,.int .i64 0,.slice none 0 0,.slice none 0 0,.slice none 0 0,.slice none 0 0,.slice none 0 0]:Array Value)[6]? = some (.slice none 0 0) from rfl)
   have g6:=blk_frozen H85.out 6
   go_wp2
   refine bodyPost_ret (results_cell_row rfl _ _ g8 30 #[.int .i64 N,.int .i64 G,.slice Z2 ([0]:List Int).length z2,.slice Z3 st.f.length z3,.slice Z4 st.o.length z4,.slice Z5 st.c.length z5,.slice Z6 st.n.length z6] (0,0) _ rfl (blk_set (blk_set (blk_set (blk_set (blk_set (blk_set (blk_set (H85.out) 0 (.int .i64 N)) 1 (.int .i64 G)) 2 (.slice Z2 ([0]:List Int).length z2)) 3 (.slice Z3 st.f.length z3)) 4 (.slice Z4 st.o.length z4)) 5 (.slice Z5 st.c.length z5)) 6 (.slice Z6 st.n.length z6)) Try.underlying30 rfl (by kernel_rfl)) rfl ?_
   refine⟨_,_,_,_,_,rfl,?_,?_⟩
   ·rw [← HST.out, HRS.out]
    have hlt8:=blk_lt H8.out
    refine OutV.lower ?_ HBO.out.size
    repeat (refine OutV.set ?_ hlt8 _)
    exact OutV.of_R HP.out
   rw [HG8.out]
   exact below_setCells7g (below_then HBO.out HBO.out.size HP.out.b) (Nat.le_refl _)
  have s1 := eq_false hz
  have s2:((st.i.length:Int) == 0)=false:=beq_eq_false_iff_ne.2 hz
  have HZ:=Aside0.mk hz
  clear hz
  go_upto_region 27 with (fail)
  clear s1 s2 b2 t1 t2 t3 t4
  have HP:=Aside0.mk HO.out
  clear HO
  obtain⟨w5,hw5⟩:∃w5:World,w5=wq:=⟨_,rfl⟩
  obtain⟨vz,hvz⟩:∃vz:Value,vz=.slice A2_ st.i.length c2_:=⟨_,rfl⟩
  rw [←hw5,←hvz] at HP
  rw [←hw5]
  clear hw5 hvz
  have HRS:Aside0 ((mkFin N G st).2.2.1=st.i):=⟨by rw [HMA.out];exact if_neg HZ.out⟩
  have q2:=HP.out.r2
  have q3:=HP.out.r3
  have q4:=HP.out.r4
  have q5:=HP.out.r5
  have q6:=HP.out.r6
  obtain⟨Z2,z2,rfl⟩:=Kd.R_slice q2
  obtain⟨Z3,z3,rfl⟩:=Kd.R_slice q3
  obtain⟨Z4,z4,rfl⟩:=Kd.R_slice q4
  obtain⟨Z5,z5,rfl⟩:=Kd.R_slice q5
  obtain⟨Z6,z6,rfl⟩:=Kd.R_slice q6
  clear q2 q3 q4 q5 q6
  have b0:=(blk_cell HP.out.t 0).trans (show (#[.int .i64 N,.int .i64 G,.slice Z2 (st.i:List Int).length z2,.slice Z3 st.f.length z3,.slice Z4 st.o.length z4,.slice Z5 st.c.length z5,.slice Z6 st.n.length z6]:Array Value)[0]? = some (.int .i64 N) from rfl)
  have b1:=(blk_cell HP.out.t 1).trans (show (#[.int .i64 N,.int .i64 G,.slice Z2 (st.i:List Int).length z2,.slice Z3 st.f.length z3,.slice Z4 st.o.length z4,.slice Z5 st.c.length z5,.slice Z6 st.n.length z6]:Array Value)[1]? = some (.int .i64 G) from rfl)
  have b2:=(blk_cell HP.out.t 2).trans (show (#[.int .i64 N,.int .i64 G,.slice Z2 (st.i:List Int).length z2,.slice Z3 st.f.length z3,.slice Z4 st.o.length z4,.slice Z5 st.c.length z5,.slice Z6 st.n.length z6]:Array Value)[2]? = some (.slice Z2 (st.i:List Int).length z2) from rfl)
  have b3:=(blk_cell HP.out.t 3).trans (show (#[.int .i64 N,.int .i64 G,.slice Z2 (st.i:List Int).length z2,.slice Z3 st.f.length z3,.slice Z4 st.o.length z4,.slice Z5 st.c.length z5,.slice Z6 st.n.length z6]:Array Value)[3]? = some (.slice Z3 st.f.length z3) from rfl)
  have b4:=(blk_cell HP.out.t 4).trans (show (#[.int .i64 N,.int .i64 G,.slice Z2 (st.i:List Int).length z2,.slice Z3 st.f.length z3,.slice Z4 st.o.length z4,.slice Z5 st.c.length z5,.slice Z6 st.n.length z6]:Array Value)[4]? = some (.slice Z4 st.o.length z4) from rfl)
  have b5:=(blk_cell HP.out.t 5).trans (show (#[.int .i64 N,.int .i64 G,.slice Z2 (st.i:List Int).length z2,.slice Z3 st.f.length z3,.slice Z4 st.o.length z4,.slice Z5 st.c.length z5,.slice Z6 st.n.length z6]:Array Value)[5]? = some (.slice Z5 st.c.length z5) from rfl)
  have b6:=(blk_cell HP.out.t 6).trans (show (#[.int .i64 N,.int .i64 G,.slice Z2 (st.i:List Int).length z2,.slice Z3 st.f.length z3,.slice Z4 st.o.length z4,.slice Z5 st.c.length z5,.slice Z6 st.n.length z6]:Array Value)[6]? = some (.slice Z6 st.n.length z6) from rfl)
  have H85:=Aside0.mk (blk_below H8.out HP.out.b)
  have y0:=(blk_cell H85.out 0).trans (show (#[.int .i64 0,.int .i64 0,.slice none 0 0,.slice none 0 0,.slice none 0 0,.slice none 0 0,.slice none 0 0]:Array Value)[0]? = some (.int .i64 0) from rfl)
  have g0:=blk_frozen H85.out 0
  have y1:=(blk_cell H85.out 1).trans (show (#[.int .i64 0,.int .i64 0,.slice none 0 0,.slice none 0 0,.slice none 0 0,.slice none 0 0,.slice none 0 0]:Array Value)[1]? = some (.int .i64 0) from rfl)
  have g1:=blk_frozen H85.out 1
  have y2:=(blk_cell H85.out 2).trans (show (#[.int .i64 0,.int .i64 0,.slice none 0 0,.slice none 0 0,.slice none 0 0,.slice none 0 0,.slice none 0 0]:Array Value)[2]? = some (.slice none 0 0) from rfl)
  have g2:=blk_frozen H85.out 2
  have y3:=(blk_cell H85.out 3).trans (show (#[.int .i64 0,.int .i64 0,.slice none 0 0,.slice none 0 0,.slice none 0 0,.slice none 0 0,.slice none 0 0]:Array Value)[3]? = some (.slice none 0 0) from rfl)
  have g3:=blk_frozen H85.out 3
  have y4:=(blk_cell H85.out 4).trans (show (#[.int .i64 0,.int .i64 0,.slice none 0 0,.slice none 0 0,.slice none 0 0,.slice none 0 0,.slice none 0 0]:Array Value)[4]? = some (.slice none 0 0) from rfl)
  have g4:=blk_frozen H85.out 4
  have y5:=(blk_cell H85.out 5).trans (show (#[.int .i64 0,.int .i64 0,.slice none 0 0,.slice none 0 0,.slice none 0 0,.slice none 0 0,.slice none 0 0]:Array Value)[5]? = some (.slice none 0 0) from rfl)
  have g5:=blk_frozen H85.out 5
  have y6:=(blk_cell H85.out 6).trans (show (#[.int .i64 0,.int .i64 0,.slice none 0 0,.slice none 0 0,.slice none 0 0,.slice none 0 0,.slice none 0 0]:Array Value)[6]? = some (.slice none 0 0) from rfl)
  have g6:=blk_frozen H85.out 6
  go_wp2
  refine bodyPost_ret (results_cell_row rfl _ _ g8 30 #[.int .i64 N,.int .i64 G,.slice Z2 (st.i:List Int).length z2,.slice Z3 st.f.length z3,.slice Z4 st.o.length z4,.slice Z5 st.c.length z5,.slice Z6 st.n.length z6] (0,0) _ rfl (blk_set (blk_set (blk_set (blk_set (blk_set (blk_set (blk_set (H85.out) 0 (.int .i64 N)) 1 (.int .i64 G)) 2 (.slice Z2 (st.i:List Int).length z2)) 3 (.slice Z3 st.f.length z3)) 4 (.slice Z4 st.o.length z4)) 5 (.slice Z5 st.c.length z5)) 6 (.slice Z6 st.n.length z6)) Try.underlying30 rfl (by kernel_rfl)) rfl ?_
  refine⟨_,_,_,_,_,rfl,?_,?_⟩
  ·rw [← HST.out, HRS.out]
   have hlt8:=blk_lt H8.out
   refine OutV.lower ?_ HBO.out.size
   repeat (refine OutV.set ?_ hlt8 _)
   exact OutV.of_R HP.out
  rw [HG8.out]
  exact below_setCells7g (below_then HBO.out HBO.out.size HP.out.b) (Nat.le_refl _)
 have h24:=Classical.not_not.1 h24
 have H24:=Aside0.mk h24
 have t3:=eq_true (show (i:Int) < 24 by omega)
 have t4:=decide_eq_true (show (i:Int) < 24 by omega)
 have t5:=eq_true (show (0:Int)≤(i:Int) by omega)
 clear h24
 obtain⟨ad,eA,cx⟩:=int_at (Kd.C_below (Kd.C_below HI2.out HBO.out) HO.out.b) i HLT.out
 have HNX:=Aside0.mk (stAt_next l N G ns i HLT.out)
 have HLN:=Aside0.mk (stAt_len l N G ns i)
 generalize ns[i]'HLT.out=x at cx HNX
 subst eA
 generalize stAt l N G ns i=st at HNX HLN HO
 go_wp2_with fail
 refine(canopylaw3_within.calls x 1099511627776 _ _ (within3_eq (by decide) (by decide))).mono ?_
 rintro e w3 ⟨rfl,hd⟩
 have HO1:=Aside0.mk (HO.out.below hd.below)
 clear HO hd cx t1 t2 t3 t4 t5
 have HO:=HO1
 clear HO1
 try clear wq
 obtain⟨wq,rfl⟩:∃wq:World,wq=w3:=⟨_,rfl⟩
 have ht0:0≤x % 1099511627776:=Int.emod_nonneg _ (by decide)
 have ht1:x % 1099511627776 < 1099511627776:=Int.emod_lt_of_pos _ (by decide)
 generalize x % 1099511627776=t at HNX ht0 ht1 ⊢
 try clear x
 have HT:=Aside0.mk (And.intro ht0 ht1)
 obtain⟨t8,e8,h8⟩:∃t8,wrap64 (Int.tdiv t 8)=t8∧t8=t / 8∧0≤t8:=⟨t / 8,(quoI ht0 ht1 (by decide)).1,rfl,(quoI ht0 ht1 (d:=8) (by decide)).2.1⟩
 obtain⟨t80,e80,h80⟩:∃t8,wrap64 (Int.tdiv t 80)=t8∧t8=t / 80∧0≤t8:=⟨t / 80,(quoI ht0 ht1 (by decide)).1,rfl,(quoI ht0 ht1 (d:=80) (by decide)).2.1⟩
 obtain⟨p,ep,hp⟩:∃p,Int.tmod t8 N=p∧p=t / 8 % N:=⟨t8 % N,(remI h8.2 (by have:=HN.out;omega)).1,by rw [h8.1]⟩
 obtain⟨q,eq_,hq⟩:∃p,Int.tmod t80 N=p∧p=t / 80 % N:=⟨t80 % N,(remI h80.2 (by have:=HN.out;omega)).1,by rw [h80.1]⟩
 obtain⟨k,ek,hk⟩:∃k,Int.tmod t 8=k∧k=t % 8:=⟨t % 8,(remI ht0 (by decide)).1,rfl⟩
 have HPQ:=Aside0.mk (And.intro hp (And.intro hq hk))
 clear h8 h80 hp hq hk ht0 ht1
 go_upto_region 6 with (fail)
 refine start_ (n:=12) (S:=fun w'=>w'.cell? ⟨go,0,none⟩=some (.int .i64 N)) (ds:=[]) (pm 0 12) (by kernel_rfl) rfl rfl ((blk_cell (blk_drew HO.out.t) 0).trans rfl) (fun hHeld=>?_)
 have HO1:=Aside0.mk (HO.out.below (below_drew (Below.refl _ _)))
 clear HO
 have HO:=HO1
 clear HO1
 obtain⟨wd,hwd⟩:∃wd:World,wd=wq.drew:=⟨_,rfl⟩
 rw [←hwd] at HO hHeld ⊢
 clear hwd
 try clear wq
 obtain⟨wq,rfl⟩:∃wq:World,wq=wd:=⟨_,rfl⟩
 iterate 12 (first|(refine pn_ (v:=?_) (a':=?_) rfl (rfl (a:=some _)) (by kernel_rfl) (fun _ _ _ h=>h) (Or.inl ⟨by rfl,?_⟩) ?_ ?_;rotate_left;(intro w';go_simp;with_reducible rfl);rotate_left;(simp only [Act.put,M.sq3,i64_w,i32_w];rfl))|(refine tn_ (v:=?_) (a':=?_) rfl (rfl (a:=some _)) (by kernel_rfl) (fun _ _ _ h=>h) (Or.inl ⟨by rfl,?_⟩) hHeld ?_ ?_;rotate_left;(intro w' hS_;have s0:=hS_;go_simp;with_reducible rfl);rotate_left;(simp only [Act.put,M.sq3,i64_w,i32_w];rfl)))
 refine done_ (by kernel_rfl) ?_
 clear hHeld e8 ep e80 eq_
 by_cases c0:k=0
 ·have s0 := eq_true c0
  have d0:(k == 0)=true:=beq_iff_eq.2 c0
  have C0:=Aside0.mk c0
  clear c0
  have b2:=(blk_cell HO.out.t 2).trans (show (#[.int .i64 N,.int .i64 G,v2,v3,v4,v5,v6]:Array Value)[2]? = some (v2) from rfl)
  go_wp2_with ((with_reducible refine gate_builtin (b:=.append) (xs:=#[.tmp 72,.tmp 74]) rfl ?_);at_builtin;go_loud (refine Kd.R_append (Kd.int .i64) (w0:=wO) wO.heap.size rfl (.tmp 72) (.tmp 74) 22 3 (.int .i64 0) 8 rfl Try.underlying22 infoInt rfl (by decide) (by decide) v2 st.i (p) [.int .i64 p] (fun k=>some k=(v2:Value).ownBlock∨wq.heap.size≤k) (fun _=>False) rfl rfl rfl (fun _ h=>h.elim) (fun k h=>.inr h) (Kd.R_mono HO.out.r2 (fun k h=>.inl h)) HO.out.b HO.out.b.size ?ql ?_);(case ql=>have h1:=HLN.out;have h2:=H24.out;unfold MkLen at h1;omega);intro v1 w4 hr1 hb1 hg1 hat1;obtain⟨A1,m1,k1,rfl⟩:=mkSl3 hr1;have HO1:=Aside0.mk (HO.out.app2 hr1 hb1 hg1 hat1);have HT1:=Aside0.mk (blk_grown HO.out.t hg1 (Kd.R_ne HO.out.r2 HO.out.t (by decide)));have hc2:=(blk_cell HT1.out 2).trans (show (#[Value.int .i64 N,.int .i64 G,v2,v3,v4,v5,v6]:Array Value)[2]? = some v2 from rfl);have hf2:=blk_frozen HT1.out 2;clear hr1 hb1 hg1 hat1)
  go_wp2
  go_roundg (24 - (i+1))
  case measure=>have:=Hi.out;have:=H24.out;omega
  case rel=>exact⟨i+1,_,v3,v4,v5,v6,by first|rfl|rw [show wrap64 ((i:Int)+1)=((i+1:Nat):Int) by have:=H24.out;unfold wrap64;omega],⟨HLT.out,H24.out,Nat.le_refl _⟩,⟨by rw [HNX.out,show mkT l N G st t=⟨st.i ++ [p],st.f,st.o,st.c,st.n⟩ from by unfold mkT;rw [if_pos (by rw [←HPQ.out.2.2];exact C0.out)];rw [←HPQ.out.1]];exact HO1.out⟩⟩
 have s0:=eq_false c0
 have d0:(k == 0)=false:=beq_eq_false_iff_ne.2 c0
 have C0:=Aside0.mk c0
 clear c0
 by_cases c1:k=1
 ·have s1 := eq_true c1
  have d1:(k == 1)=true:=beq_iff_eq.2 c1
  have C1:=Aside0.mk c1
  clear c1
  have b3:=(blk_cell HO.out.t 3).trans (show (#[.int .i64 N,.int .i64 G,v2,v3,v4,v5,v6]:Array Value)[3]? = some (v3) from rfl)
  go_wp2_with ((with_reducible refine gate_builtin (b:=.append) (xs:=#[.tmp 80,.tmp 82]) rfl ?_);at_builtin;go_loud (refine Kd.R_append (Kd.int .i64) (w0:=wO) wO.heap.size rfl (.tmp 80) (.tmp 82) 22 3 (.int .i64 0) 8 rfl Try.underlying22 infoInt rfl (by decide) (by decide) v3 st.f (p) [.int .i64 p] (fun k=>some k=(v3:Value).ownBlock∨wq.heap.size≤k) (fun _=>False) rfl rfl rfl (fun _ h=>h.elim) (fun k h=>.inr h) (Kd.R_mono HO.out.r3 (fun k h=>.inl h)) HO.out.b HO.out.b.size ?ql ?_);(case ql=>have h1:=HLN.out;have h2:=H24.out;unfold MkLen at h1;omega);intro v1 w4 hr1 hb1 hg1 hat1;obtain⟨A1,m1,k1,rfl⟩:=mkSl3 hr1;have HO1:=Aside0.mk (HO.out.app3 hr1 hb1 hg1 hat1);have HT1:=Aside0.mk (blk_grown HO.out.t hg1 (Kd.R_ne HO.out.r3 HO.out.t (by decide)));have hc2:=(blk_cell HT1.out 3).trans (show (#[Value.int .i64 N,.int .i64 G,v2,v3,v4,v5,v6]:Array Value)[3]? = some v3 from rfl);have hf2:=blk_frozen HT1.out 3;clear hr1 hb1 hg1 hat1)
  go_wp2
  go_roundg (24 - (i+1))
  case measure=>have:=Hi.out;have:=H24.out;omega
  case rel=>exact⟨i+1,v2,_,v4,v5,v6,by first|rfl|rw [show wrap64 ((i:Int)+1)=((i+1:Nat):Int) by have:=H24.out;unfold wrap64;omega],⟨HLT.out,H24.out,Nat.le_refl _⟩,⟨by rw [HNX.out,show mkT l N G st t=⟨st.i,st.f ++ [p],st.o,st.c,st.n⟩ from by unfold mkT;rw [if_neg (by rw [←HPQ.out.2.2];exact C0.out)];rw [if_pos (by rw [←HPQ.out.2.2];exact C1.out)];rw [←HPQ.out.1]];exact HO1.out⟩⟩
 have s1:=eq_false c1
 have d1:(k == 1)=false:=beq_eq_false_iff_ne.2 c1
 have C1:=Aside0.mk c1
 clear c1
 obtain⟨t800,e800,h800⟩:∃t8,wrap64 (Int.tdiv t 800)=t8∧t8=t / 800∧0≤t8:=⟨t / 800,(quoI HT.out.1 HT.out.2 (by decide)).1,rfl,(quoI HT.out.1 HT.out.2 (d:=800) (by decide)).2.1⟩
 obtain⟨s7,e7,h7⟩:∃p,Int.tmod t800 7=p∧p=t / 800 % 7∧0≤p:=⟨t800 % 7,(remI h800.2 (by decide)).1,by rw [h800.1],(remI h800.2 (by decide)).2.1⟩
 obtain⟨t8000,e8000,h8000⟩:∃t8,wrap64 (Int.tdiv t 8000)=t8∧t8=t / 8000∧0≤t8:=⟨t / 8000,(quoI HT.out.1 HT.out.2 (by decide)).1,rfl,(quoI HT.out.1 HT.out.2 (d:=8000) (by decide)).2.1⟩
 have H7:=Aside0.mk h7
 have H8000:=Aside0.mk h8000
 clear h800 h7 h8000
 by_cases c2:k=2
 ·have s2 := eq_true c2
  have d2:(k == 2)=true:=beq_iff_eq.2 c2
  have C2:=Aside0.mk c2
  clear c2
  go_wp2_with fail
  refine(canopylaw3_pick.calls 100 A0 c0 l 1 s7 _ _ (Kd.C_below (Kd.C_below HI0.out.1 HBO.out) HO.out.b) HI0.out.2.1 (pick_eq HI0.out.2.2 1 s7 H7.out.2 100 (Nat.le_refl _))).mono ?_
  rintro e w3 ⟨rfl,hd⟩
  have HO1:=Aside0.mk (HO.out.below hd)
  clear HO hd
  have HO:=HO1
  clear HO1
  try clear wq
  obtain⟨wq,rfl⟩:∃wq:World,wq=w3:=⟨_,rfl⟩
  obtain⟨y,hy⟩:∃y,y=pickL l 1 s7:=⟨_,rfl⟩
  rw [←hy]
  have HY:Aside0 (pickL l 1 (t / 800 % 7)=y):=⟨by rw [hy,H7.out.1]⟩
  clear hy
  by_cases c9:¬0≤y
  ·have s9 := eq_false (show ¬ y ≥ 0 from c9)
   have d9:=decide_eq_false (show ¬y≥0 from c9)
   have C9:=Aside0.mk c9
   clear c9
   go_wp2
   go_roundg (24 - (i+1))
   case measure=>have:=Hi.out;have:=H24.out;omega
   case rel=>exact⟨i+1,_,_,_,_,_,by first|rfl|rw [show wrap64 ((i:Int)+1)=((i+1:Nat):Int) by have:=H24.out;unfold wrap64;omega],⟨HLT.out,H24.out,Nat.le_refl _⟩,⟨by rw [HNX.out,show mkT l N G st t=st from by unfold mkT;rw [if_neg (by rw [←HPQ.out.2.2];exact C0.out)];rw [if_neg (by rw [←HPQ.out.2.2];exact C1.out)];rw [if_pos (by rw [←HPQ.out.2.2];exact .inl C2.out)];rw [HY.out];rw [if_neg (show ¬0≤y by have:=C9.out;omega)]];exact HO.out⟩⟩
  have c9:=Classical.not_not.1 c9
  have s9:=eq_true (show y≥0 from c9)
  have d9:=decide_eq_true (show y≥0 from c9)
  have C9:=Aside0.mk c9
  clear c9
  obtain⟨u,eu,hu⟩:∃p,Int.tmod t8000 G=p∧p=t / 8000 % G∧0≤p∧p < G:=⟨t8000 % G,(remI H8000.out.2 (by have:=HN.out;omega)).1,by rw [H8000.out.1],(remI H8000.out.2 (by have:=HN.out;omega)).2.1,(remI H8000.out.2 (by have:=HN.out;omega)).2.2⟩
  obtain⟨u1,eu1,hu1⟩:∃p,wrap64 (1+u)=p∧p=1+t / 8000 % G:=⟨1+u,by have:=HN.out;unfold wrap64;omega,by rw [hu.1]⟩
  have HU:=Aside0.mk hu1
  clear hu hu1
  go_upto_region 19 with (fail)
  refine start_ (n:=16) (S:=fun w'=>w'.cell? ⟨go,1,none⟩=some (.int .i64 G)∧w'.cell? ⟨go,4,none⟩=some v4) (ds:=[15]) (pm 0 16) (by kernel_rfl) rfl rfl ⟨(blk_cell (blk_drew HO.out.t) 1).trans rfl,(blk_cell (blk_drew HO.out.t) 4).trans rfl⟩ (fun hHeld=>?_)
  have HO1:=Aside0.mk (HO.out.below (below_drew (Below.refl _ _)))
  clear HO
  have HO:=HO1
  clear HO1
  obtain⟨wd,hwd⟩:∃wd:World,wd=wq.drew:=⟨_,rfl⟩
  rw [←hwd] at HO hHeld ⊢
  clear hwd
  try clear wq
  obtain⟨wq,rfl⟩:∃wq:World,wq=wd:=⟨_,rfl⟩
  iterate 12 (first|(refine pn_ (v:=?_) (a':=?_) rfl (rfl (a:=some _)) (by kernel_rfl) (fun _ _ _ h=>h) (Or.inl ⟨by rfl,?_⟩) ?_ ?_;rotate_left;(intro w';go_simp;with_reducible rfl);rotate_left;(simp only [Act.put,M.sq3,i64_w,i32_w];rfl))|(refine tn_ (v:=?_) (a':=?_) rfl (rfl (a:=some _)) (by kernel_rfl) (fun _ _ _ h=>h) (Or.inl ⟨by rfl,?_⟩) hHeld ?_ ?_;rotate_left;(intro w' hS_;obtain⟨s0,s1⟩:=hS_;go_simp;with_reducible rfl);rotate_left;(simp only [Act.put,M.sq3,i64_w,i32_w];rfl)))
  refine one_ (i:=12) (N:=(some 107)) (pm 13 3) rfl rfl (by kernel_rfl) (by decide) (fun K hK=>?_)
  refine step_run (v:=.slice (some ⟨wq.heap.size,0,none⟩) 1 1) (w1:=wq.alloc (.cells #[.int .i64 p,.int .i64 y,.int .i64 q,.int .i64 u1] 52)) rfl (by go_simp) ?_
  clear hHeld
  refine hK.out _ _ ⟨(blk_cell (blk_old HO.out.t (.cells #[.int .i64 p,.int .i64 y,.int .i64 q,.int .i64 u1] 52)) 1).trans rfl,(blk_cell (blk_old HO.out.t (.cells #[.int .i64 p,.int .i64 y,.int .i64 q,.int .i64 u1] 52)) 4).trans rfl⟩ (fun hHeld=>?_)
  clear hK K
  refine norm_ (a':=?_) ?_ ?_
  rotate_left
  ·show Act.put _ (some 107) _ = _
   simp only [Act.put,M.sq3,i64_w,i32_w]
   rfl
  refine one_ (i:=13) (N:=(some 108)) (pm 14 2) rfl rfl (by kernel_rfl) (by decide) (fun K hK=>?_)
  refine Kd.R_append_step k52 (w0:=wO) wO.heap.size rfl (.tmp 96) (.tmp 107) 26 52 (.agg #[.int .i64 0,.int .i64 0,.int .i64 0,.int .i64 0]) 32 rfl Try.underlying26 mkOpenI rfl (by decide) (by decide) v4 st.o (⟨p,y,q,u1⟩) [.int .i64 p,.int .i64 y,.int .i64 q,.int .i64 u1] (fun k=>some k=(v4:Value).ownBlock∨wq.heap.size≤k) (fun _=>False) rfl rfl (k52_mkM _ _ _ _) (fun _ h=>h.elim) (fun k h=>.inr h) (Kd.R_mono HO.out.r4 (fun k h=>.inl h)) HO.out.b HO.out.b.size ?ql ?_
  case ql=>have h1:=HLN.out;have h2:=H24.out;unfold MkLen at h1;omega
  intro v1 w4 hr1 hb1 hg1 hat1
  obtain⟨A1,m1,k1,rfl⟩:=mkSl3 hr1
  have HO1:=Aside0.mk (HO.out.app4 hr1 hb1 hg1 hat1)
  have HT1:=Aside0.mk (blk_grown HO.out.t hg1 (Kd.R_ne HO.out.r4 HO.out.t (by decide)))
  clear hr1 hb1 hg1 hat1 HO
  clear hHeld
  refine hK.out _ _ ⟨(blk_cell HT1.out 1).trans rfl,(blk_cell HT1.out 4).trans rfl⟩ (fun hHeld=>?_)
  clear hK K
  refine norm_ (a':=?_) ?_ ?_
  rotate_left
  ·show Act.put _ (some 108) _ = _
   simp only [Act.put,M.sq3,i64_w,i32_w]
   rfl
  refine pn_ (v:=?_) (a':=?_) rfl (rfl (a:=some _)) (by kernel_rfl) (fun _ _ _ h=>h) (Or.inl ⟨by rfl,?_⟩) ?_ ?_;rotate_left;(intro w';go_simp;with_reducible rfl);rotate_left;(simp only [Act.put,M.sq3,i64_w,i32_w];rfl)
  refine last_ (i:=15) (N:=none) (pm 16 0) rfl rfl (by kernel_rfl) (by decide) (fun K hK=>?_)
  have hc2:=(blk_cell HT1.out 4).trans (show (#[Value.int .i64 N,.int .i64 G,v2,v3,v4,v5,v6]:Array Value)[4]? = some v4 from rfl)
  have hf2:=blk_frozen HT1.out 4
  refine Go.Proofs.Ytjkhdldgmkkhjaa.M.step_skip (w1:=w4.setCell ⟨go,4,none⟩ (.slice A1 m1 k1)) rfl rfl (by go_simp) ?_
  clear hc2 hf2 HT1 hHeld
  refine hK.out _ _ ?_
  clear hK K
  obtain⟨wd,hwd⟩:∃wd:World,wd=w4.setCell ⟨go,4,none⟩ (.slice A1 m1 k1):=⟨_,rfl⟩
  rw [←hwd] at HO1 ⊢
  clear hwd
  have HO:=HO1
  clear HO1
  clear w4
  try clear wq
  obtain⟨wq,rfl⟩:∃wq:World,wq=wd:=⟨_,rfl⟩
  refine done_ (by kernel_rfl) ?_
  go_wp2
  go_roundg (24 - (i+1))
  case measure=>have:=Hi.out;have:=H24.out;omega
  case rel=>exact⟨i+1,_,_,_,_,_,by first|rfl|rw [show wrap64 ((i:Int)+1)=((i+1:Nat):Int) by have:=H24.out;unfold wrap64;omega],⟨HLT.out,H24.out,Nat.le_refl _⟩,⟨by rw [HNX.out,show mkT l N G st t=⟨st.i,st.f,st.o ++ [⟨p,y,q,u1⟩],st.c,st.n⟩ from by unfold mkT;rw [if_neg (by rw [←HPQ.out.2.2];exact C0.out)];rw [if_neg (by rw [←HPQ.out.2.2];exact C1.out)];rw [if_pos (by rw [←HPQ.out.2.2];exact .inl C2.out)];rw [HY.out];rw [if_pos (show 0≤y by have:=C9.out;omega),←HPQ.out.1,←HPQ.out.2.1,←HU.out]];exact HO.out⟩⟩
 have s2:=eq_false c2
 have d2:(k == 2)=false:=beq_eq_false_iff_ne.2 c2
 have C2:=Aside0.mk c2
 clear c2
 by_cases c3:k=3
 ·have s3 := eq_true c3
  have d3:(k == 3)=true:=beq_iff_eq.2 c3
  have C3:=Aside0.mk c3
  clear c3
  go_wp2_with fail
  refine(canopylaw3_pick.calls 100 A0 c0 l 1 s7 _ _ (Kd.C_below (Kd.C_below HI0.out.1 HBO.out) HO.out.b) HI0.out.2.1 (pick_eq HI0.out.2.2 1 s7 H7.out.2 100 (Nat.le_refl _))).mono ?_
  rintro e w3 ⟨rfl,hd⟩
  have HO1:=Aside0.mk (HO.out.below hd)
  clear HO hd
  have HO:=HO1
  clear HO1
  try clear wq
  obtain⟨wq,rfl⟩:∃wq:World,wq=w3:=⟨_,rfl⟩
  obtain⟨y,hy⟩:∃y,y=pickL l 1 s7:=⟨_,rfl⟩
  rw [←hy]
  have HY:Aside0 (pickL l 1 (t / 800 % 7)=y):=⟨by rw [hy,H7.out.1]⟩
  clear hy
  by_cases c9:¬0≤y
  ·have s9 := eq_false (show ¬ y ≥ 0 from c9)
   have d9:=decide_eq_false (show ¬y≥0 from c9)
   have C9:=Aside0.mk c9
   clear c9
   go_wp2
   go_roundg (24 - (i+1))
   case measure=>have:=Hi.out;have:=H24.out;omega
   case rel=>exact⟨i+1,_,_,_,_,_,by first|rfl|rw [show wrap64 ((i:Int)+1)=((i+1:Nat):Int) by have:=H24.out;unfold wrap64;omega],⟨HLT.out,H24.out,Nat.le_refl _⟩,⟨by rw [HNX.out,show mkT l N G st t=st from by unfold mkT;rw [if_neg (by rw [←HPQ.out.2.2];exact C0.out)];rw [if_neg (by rw [←HPQ.out.2.2];exact C1.out)];rw [if_pos (by rw [←HPQ.out.2.2];exact .inr C3.out)];rw [HY.out];rw [if_neg (show ¬0≤y by have:=C9.out;omega)]];exact HO.out⟩⟩
  have c9:=Classical.not_not.1 c9
  have s9:=eq_true (show y≥0 from c9)
  have d9:=decide_eq_true (show y≥0 from c9)
  have C9:=Aside0.mk c9
  clear c9
  obtain⟨u,eu,hu⟩:∃p,Int.tmod t8000 G=p∧p=t / 8000 % G∧0≤p∧p < G:=⟨t8000 % G,(remI H8000.out.2 (by have:=HN.out;omega)).1,by rw [H8000.out.1],(remI H8000.out.2 (by have:=HN.out;omega)).2.1,(remI H8000.out.2 (by have:=HN.out;omega)).2.2⟩
  obtain⟨u1,eu1,hu1⟩:∃p,wrap64 (1+u)=p∧p=1+t / 8000 % G:=⟨1+u,by have:=HN.out;unfold wrap64;omega,by rw [hu.1]⟩
  have HU:=Aside0.mk hu1
  clear hu hu1
  go_upto_region 19 with (fail)
  refine start_ (n:=16) (S:=fun w'=>w'.cell? ⟨go,1,none⟩=some (.int .i64 G)∧w'.cell? ⟨go,4,none⟩=some v4) (ds:=[15]) (pm 0 16) (by kernel_rfl) rfl rfl ⟨(blk_cell (blk_drew HO.out.t) 1).trans rfl,(blk_cell (blk_drew HO.out.t) 4).trans rfl⟩ (fun hHeld=>?_)
  have HO1:=Aside0.mk (HO.out.below (below_drew (Below.refl _ _)))
  clear HO
  have HO:=HO1
  clear HO1
  obtain⟨wd,hwd⟩:∃wd:World,wd=wq.drew:=⟨_,rfl⟩
  rw [←hwd] at HO hHeld ⊢
  clear hwd
  try clear wq
  obtain⟨wq,rfl⟩:∃wq:World,wq=wd:=⟨_,rfl⟩
  iterate 12 (first|(refine pn_ (v:=?_) (a':=?_) rfl (rfl (a:=some _)) (by kernel_rfl) (fun _ _ _ h=>h) (Or.inl ⟨by rfl,?_⟩) ?_ ?_;rotate_left;(intro w';go_simp;with_reducible rfl);rotate_left;(simp only [Act.put,M.sq3,i64_w,i32_w];rfl))|(refine tn_ (v:=?_) (a':=?_) rfl (rfl (a:=some _)) (by kernel_rfl) (fun _ _ _ h=>h) (Or.inl ⟨by rfl,?_⟩) hHeld ?_ ?_;rotate_left;(intro w' hS_;obtain⟨s0,s1⟩:=hS_;go_simp;with_reducible rfl);rotate_left;(simp only [Act.put,M.sq3,i64_w,i32_w];rfl)))
  refine one_ (i:=12) (N:=(some 107)) (pm 13 3) rfl rfl (by kernel_rfl) (by decide) (fun K hK=>?_)
  refine step_run (v:=.slice (some ⟨wq.heap.size,0,none⟩) 1 1) (w1:=wq.alloc (.cells #[.int .i64 p,.int .i64 y,.int .i64 q,.int .i64 u1] 52)) rfl (by go_simp) ?_
  clear hHeld
  refine hK.out _ _ ⟨(blk_cell (blk_old HO.out.t (.cells #[.int .i64 p,.int .i64 y,.int .i64 q,.int .i64 u1] 52)) 1).trans rfl,(blk_cell (blk_old HO.out.t (.cells #[.int .i64 p,.int .i64 y,.int .i64 q,.int .i64 u1] 52)) 4).trans rfl⟩ (fun hHeld=>?_)
  clear hK K
  refine norm_ (a':=?_) ?_ ?_
  rotate_left
  ·show Act.put _ (some 107) _ = _
   simp only [Act.put,M.sq3,i64_w,i32_w]
   rfl
  refine one_ (i:=13) (N:=(some 108)) (pm 14 2) rfl rfl (by kernel_rfl) (by decide) (fun K hK=>?_)
  refine Kd.R_append_step k52 (w0:=wO) wO.heap.size rfl (.tmp 96) (.tmp 107) 26 52 (.agg #[.int .i64 0,.int .i64 0,.int .i64 0,.int .i64 0]) 32 rfl Try.underlying26 mkOpenI rfl (by decide) (by decide) v4 st.o (⟨p,y,q,u1⟩) [.int .i64 p,.int .i64 y,.int .i64 q,.int .i64 u1] (fun k=>some k=(v4:Value).ownBlock∨wq.heap.size≤k) (fun _=>False) rfl rfl (k52_mkM _ _ _ _) (fun _ h=>h.elim) (fun k h=>.inr h) (Kd.R_mono HO.out.r4 (fun k h=>.inl h)) HO.out.b HO.out.b.size ?ql ?_
  case ql=>have h1:=HLN.out;have h2:=H24.out;unfold MkLen at h1;omega
  intro v1 w4 hr1 hb1 hg1 hat1
  obtain⟨A1,m1,k1,rfl⟩:=mkSl3 hr1
  have HO1:=Aside0.mk (HO.out.app4 hr1 hb1 hg1 hat1)
  have HT1:=Aside0.mk (blk_grown HO.out.t hg1 (Kd.R_ne HO.out.r4 HO.out.t (by decide)))
  clear hr1 hb1 hg1 hat1 HO
  clear hHeld
  refine hK.out _ _ ⟨(blk_cell HT1.out 1).trans rfl,(blk_cell HT1.out 4).trans rfl⟩ (fun hHeld=>?_)
  clear hK K
  refine norm_ (a':=?_) ?_ ?_
  rotate_left
  ·show Act.put _ (some 108) _ = _
   simp only [Act.put,M.sq3,i64_w,i32_w]
   rfl
  refine pn_ (v:=?_) (a':=?_) rfl (rfl (a:=some _)) (by kernel_rfl) (fun _ _ _ h=>h) (Or.inl ⟨by rfl,?_⟩) ?_ ?_;rotate_left;(intro w';go_simp;with_reducible rfl);rotate_left;(simp only [Act.put,M.sq3,i64_w,i32_w];rfl)
  refine last_ (i:=15) (N:=none) (pm 16 0) rfl rfl (by kernel_rfl) (by decide) (fun K hK=>?_)
  have hc2:=(blk_cell HT1.out 4).trans (show (#[Value.int .i64 N,.int .i64 G,v2,v3,v4,v5,v6]:Array Value)[4]? = some v4 from rfl)
  have hf2:=blk_frozen HT1.out 4
  refine Go.Proofs.Ytjkhdldgmkkhjaa.M.step_skip (w1:=w4.setCell ⟨go,4,none⟩ (.slice A1 m1 k1)) rfl rfl (by go_simp) ?_
  clear hc2 hf2 HT1 hHeld
  refine hK.out _ _ ?_
  clear hK K
  obtain⟨wd,hwd⟩:∃wd:World,wd=w4.setCell ⟨go,4,none⟩ (.slice A1 m1 k1):=⟨_,rfl⟩
  rw [←hwd] at HO1 ⊢
  clear hwd
  have HO:=HO1
  clear HO1
  clear w4
  try clear wq
  obtain⟨wq,rfl⟩:∃wq:World,wq=wd:=⟨_,rfl⟩
  refine done_ (by kernel_rfl) ?_
  go_wp2
  go_roundg (24 - (i+1))
  case measure=>have:=Hi.out;have:=H24.out;omega
  case rel=>exact⟨i+1,_,_,_,_,_,by first|rfl|rw [show wrap64 ((i:Int)+1)=((i+1:Nat):Int) by have:=H24.out;unfold wrap64;omega],⟨HLT.out,H24.out,Nat.le_refl _⟩,⟨by rw [HNX.out,show mkT l N G st t=⟨st.i,st.f,st.o ++ [⟨p,y,q,u1⟩],st.c,st.n⟩ from by unfold mkT;rw [if_neg (by rw [←HPQ.out.2.2];exact C0.out)];rw [if_neg (by rw [←HPQ.out.2.2];exact C1.out)];rw [if_pos (by rw [←HPQ.out.2.2];exact .inr C3.out)];rw [HY.out];rw [if_pos (show 0≤y by have:=C9.out;omega),←HPQ.out.1,←HPQ.out.2.1,←HU.out]];exact HO.out⟩⟩
 have s3:=eq_false c3
 have d3:(k == 3)=false:=beq_eq_false_iff_ne.2 c3
 have C3:=Aside0.mk c3
 clear c3
 by_cases c4:k=4
 ·have s4 := eq_true c4
  have d4:(k == 4)=true:=beq_iff_eq.2 c4
  have C4:=Aside0.mk c4
  clear c4
  go_wp2_with fail
  refine(canopylaw3_pick.calls 100 A0 c0 l 2 s7 _ _ (Kd.C_below (Kd.C_below HI0.out.1 HBO.out) HO.out.b) HI0.out.2.1 (pick_eq HI0.out.2.2 2 s7 H7.out.2 100 (Nat.le_refl _))).mono ?_
  rintro e w3 ⟨rfl,hd⟩
  have HO1:=Aside0.mk (HO.out.below hd)
  clear HO hd
  have HO:=HO1
  clear HO1
  try clear wq
  obtain⟨wq,rfl⟩:∃wq:World,wq=w3:=⟨_,rfl⟩
  obtain⟨y,hy⟩:∃y,y=pickL l 2 s7:=⟨_,rfl⟩
  rw [←hy]
  have HY:Aside0 (pickL l 2 (t / 800 % 7)=y):=⟨by rw [hy,H7.out.1]⟩
  clear hy
  by_cases c9:¬0≤y
  ·have s9 := eq_false (show ¬ y ≥ 0 from c9)
   have d9:=decide_eq_false (show ¬y≥0 from c9)
   have C9:=Aside0.mk c9
   clear c9
   go_wp2
   go_roundg (24 - (i+1))
   case measure=>have:=Hi.out;have:=H24.out;omega
   case rel=>exact⟨i+1,_,_,_,_,_,by first|rfl|rw [show wrap64 ((i:Int)+1)=((i+1:Nat):Int) by have:=H24.out;unfold wrap64;omega],⟨HLT.out,H24.out,Nat.le_refl _⟩,⟨by rw [HNX.out,show mkT l N G st t=st from by unfold mkT;rw [if_neg (by rw [←HPQ.out.2.2];exact C0.out)];rw [if_neg (by rw [←HPQ.out.2.2];exact C1.out)];rw [if_neg (by rw [←HPQ.out.2.2];exact fun h=>h.elim C2.out C3.out)];rw [if_pos (by rw [←HPQ.out.2.2];exact .inl C4.out)];rw [HY.out];rw [if_neg (show ¬0≤y by have:=C9.out;omega)]];exact HO.out⟩⟩
  have c9:=Classical.not_not.1 c9
  have s9:=eq_true (show y≥0 from c9)
  have d9:=decide_eq_true (show y≥0 from c9)
  have C9:=Aside0.mk c9
  clear c9
  obtain⟨u,eu,hu⟩:∃p,Int.tmod t8000 G1=p∧p=t / 8000 % (G+1):=⟨t8000 % G1,(remI H8000.out.2 (by have:=HN.out;have:=HG1.out;omega)).1,by rw [H8000.out.1,HG1.out]⟩
  have HU:=Aside0.mk hu
  clear hu
  go_upto_region 24 with (fail)
  refine start_ (n:=16) (S:=fun w'=>w'.cell? ⟨go,1,none⟩=some (.int .i64 G)∧w'.cell? ⟨go,5,none⟩=some v5) (ds:=[15]) (pm 0 16) (by kernel_rfl) rfl rfl ⟨(blk_cell (blk_drew HO.out.t) 1).trans rfl,(blk_cell (blk_drew HO.out.t) 5).trans rfl⟩ (fun hHeld=>?_)
  have HO1:=Aside0.mk (HO.out.below (below_drew (Below.refl _ _)))
  clear HO
  have HO:=HO1
  clear HO1
  obtain⟨wd,hwd⟩:∃wd:World,wd=wq.drew:=⟨_,rfl⟩
  rw [←hwd] at HO hHeld ⊢
  clear hwd
  try clear wq
  obtain⟨wq,rfl⟩:∃wq:World,wq=wd:=⟨_,rfl⟩
  iterate 12 (first|(refine pn_ (v:=?_) (a':=?_) rfl (rfl (a:=some _)) (by kernel_rfl) (fun _ _ _ h=>h) (Or.inl ⟨by rfl,?_⟩) ?_ ?_;rotate_left;(intro w';go_simp;with_reducible rfl);rotate_left;(simp only [Act.put,M.sq3,i64_w,i32_w];rfl))|(refine tn_ (v:=?_) (a':=?_) rfl (rfl (a:=some _)) (by kernel_rfl) (fun _ _ _ h=>h) (Or.inl ⟨by rfl,?_⟩) hHeld ?_ ?_;rotate_left;(intro w' hS_;obtain⟨s0,s1⟩:=hS_;go_simp;with_reducible rfl);rotate_left;(simp only [Act.put,M.sq3,i64_w,i32_w];rfl)))
  refine one_ (i:=12) (N:=(some 132)) (pm 13 3) rfl rfl (by kernel_rfl) (by decide) (fun K hK=>?_)
  refine step_run (v:=.slice (some ⟨wq.heap.size,0,none⟩) 1 1) (w1:=wq.alloc (.cells #[.int .i64 p,.int .i64 y,.int .i64 u,.int .i64 q] 54)) rfl (by go_simp) ?_
  clear hHeld
  refine hK.out _ _ ⟨(blk_cell (blk_old HO.out.t (.cells #[.int .i64 p,.int .i64 y,.int .i64 u,.int .i64 q] 54)) 1).trans rfl,(blk_cell (blk_old HO.out.t (.cells #[.int .i64 p,.int .i64 y,.int .i64 u,.int .i64 q] 54)) 5).trans rfl⟩ (fun hHeld=>?_)
  clear hK K
  refine norm_ (a':=?_) ?_ ?_
  rotate_left
  ·show Act.put _ (some 132) _ = _
   simp only [Act.put,M.sq3,i64_w,i32_w]
   rfl
  refine one_ (i:=13) (N:=(some 133)) (pm 14 2) rfl rfl (by kernel_rfl) (by decide) (fun K hK=>?_)
  refine Kd.R_append_step k54 (w0:=wO) wO.heap.size rfl (.tmp 121) (.tmp 132) 27 54 (.agg #[.int .i64 0,.int .i64 0,.int .i64 0,.int .i64 0]) 32 rfl Try.underlying27 mkCloseI rfl (by decide) (by decide) v5 st.c (⟨p,y,u,q⟩) [.int .i64 p,.int .i64 y,.int .i64 u,.int .i64 q] (fun k=>some k=(v5:Value).ownBlock∨wq.heap.size≤k) (fun _=>False) rfl rfl (k54_mkM _ _ _ _) (fun _ h=>h.elim) (fun k h=>.inr h) (Kd.R_mono HO.out.r5 (fun k h=>.inl h)) HO.out.b HO.out.b.size ?ql ?_
  case ql=>have h1:=HLN.out;have h2:=H24.out;unfold MkLen at h1;omega
  intro v1 w4 hr1 hb1 hg1 hat1
  obtain⟨A1,m1,k1,rfl⟩:=mkSl3 hr1
  have HO1:=Aside0.mk (HO.out.app5 hr1 hb1 hg1 hat1)
  have HT1:=Aside0.mk (blk_grown HO.out.t hg1 (Kd.R_ne HO.out.r5 HO.out.t (by decide)))
  clear hr1 hb1 hg1 hat1 HO
  clear hHeld
  refine hK.out _ _ ⟨(blk_cell HT1.out 1).trans rfl,(blk_cell HT1.out 5).trans rfl⟩ (fun hHeld=>?_)
  clear hK K
  refine norm_ (a':=?_) ?_ ?_
  rotate_left
  ·show Act.put _ (some 133) _ = _
   simp only [Act.put,M.sq3,i64_w,i32_w]
   rfl
  refine pn_ (v:=?_) (a':=?_) rfl (rfl (a:=some _)) (by kernel_rfl) (fun _ _ _ h=>h) (Or.inl ⟨by rfl,?_⟩) ?_ ?_;rotate_left;(intro w';go_simp;with_reducible rfl);rotate_left;(simp only [Act.put,M.sq3,i64_w,i32_w];rfl)
  refine last_ (i:=15) (N:=none) (pm 16 0) rfl rfl (by kernel_rfl) (by decide) (fun K hK=>?_)
  have hc2:=(blk_cell HT1.out 5).trans (show (#[Value.int .i64 N,.int .i64 G,v2,v3,v4,v5,v6]:Array Value)[5]? = some v5 from rfl)
  have hf2:=blk_frozen HT1.out 5
  refine Go.Proofs.Ytjkhdldgmkkhjaa.M.step_skip (w1:=w4.setCell ⟨go,5,none⟩ (.slice A1 m1 k1)) rfl rfl (by go_simp) ?_
  clear hc2 hf2 HT1 hHeld
  refine hK.out _ _ ?_
  clear hK K
  obtain⟨wd,hwd⟩:∃wd:World,wd=w4.setCell ⟨go,5,none⟩ (.slice A1 m1 k1):=⟨_,rfl⟩
  rw [←hwd] at HO1 ⊢
  clear hwd
  have HO:=HO1
  clear HO1
  clear w4
  try clear wq
  obtain⟨wq,rfl⟩:∃wq:World,wq=wd:=⟨_,rfl⟩
  refine done_ (by kernel_rfl) ?_
  go_wp2
  go_roundg (24 - (i+1))
  case measure=>have:=Hi.out;have:=H24.out;omega
  case rel=>exact⟨i+1,_,_,_,_,_,by first|rfl|rw [show wrap64 ((i:Int)+1)=((i+1:Nat):Int) by have:=H24.out;unfold wrap64;omega],⟨HLT.out,H24.out,Nat.le_refl _⟩,⟨by rw [HNX.out,show mkT l N G st t=⟨st.i,st.f,st.o,st.c ++ [⟨p,y,u,q⟩],st.n⟩ from by unfold mkT;rw [if_neg (by rw [←HPQ.out.2.2];exact C0.out)];rw [if_neg (by rw [←HPQ.out.2.2];exact C1.out)];rw [if_neg (by rw [←HPQ.out.2.2];exact fun h=>h.elim C2.out C3.out)];rw [if_pos (by rw [←HPQ.out.2.2];exact .inl C4.out)];rw [HY.out];rw [if_pos (show 0≤y by have:=C9.out;omega),←HPQ.out.1,←HPQ.out.2.1,←HU.out]];exact HO.out⟩⟩
 have s4:=eq_false c4
 have d4:(k == 4)=false:=beq_eq_false_iff_ne.2 c4
 have C4:=Aside0.mk c4
 clear c4
 by_cases c5:k=5
 ·have s5 := eq_true c5
  have d5:(k == 5)=true:=beq_iff_eq.2 c5
  have C5:=Aside0.mk c5
  clear c5
  go_wp2_with fail
  refine(canopylaw3_pick.calls 100 A0 c0 l 2 s7 _ _ (Kd.C_below (Kd.C_below HI0.out.1 HBO.out) HO.out.b) HI0.out.2.1 (pick_eq HI0.out.2.2 2 s7 H7.out.2 100 (Nat.le_refl _))).mono ?_
  rintro e w3 ⟨rfl,hd⟩
  have HO1:=Aside0.mk (HO.out.below hd)
  clear HO hd
  have HO:=HO1
  clear HO1
  try clear wq
  obtain⟨wq,rfl⟩:∃wq:World,wq=w3:=⟨_,rfl⟩
  obtain⟨y,hy⟩:∃y,y=pickL l 2 s7:=⟨_,rfl⟩
  rw [←hy]
  have HY:Aside0 (pickL l 2 (t / 800 % 7)=y):=⟨by rw [hy,H7.out.1]⟩
  clear hy
  by_cases c9:¬0≤y
  ·have s9 := eq_false (show ¬ y ≥ 0 from c9)
   have d9:=decide_eq_false (show ¬y≥0 from c9)
   have C9:=Aside0.mk c9
   clear c9
   go_wp2
   go_roundg (24 - (i+1))
   case measure=>have:=Hi.out;have:=H24.out;omega
   case rel=>exact⟨i+1,_,_,_,_,_,by first|rfl|rw [show wrap64 ((i:Int)+1)=((i+1:Nat):Int) by have:=H24.out;unfold wrap64;omega],⟨HLT.out,H24.out,Nat.le_refl _⟩,⟨by rw [HNX.out,show mkT l N G st t=st from by unfold mkT;rw [if_neg (by rw [←HPQ.out.2.2];exact C0.out)];rw [if_neg (by rw [←HPQ.out.2.2];exact C1.out)];rw [if_neg (by rw [←HPQ.out.2.2];exact fun h=>h.elim C2.out C3.out)];rw [if_pos (by rw [←HPQ.out.2.2];exact .inr C5.out)];rw [HY.out];rw [if_neg (show ¬0≤y by have:=C9.out;omega)]];exact HO.out⟩⟩
  have c9:=Classical.not_not.1 c9
  have s9:=eq_true (show y≥0 from c9)
  have d9:=decide_eq_true (show y≥0 from c9)
  have C9:=Aside0.mk c9
  clear c9
  obtain⟨u,eu,hu⟩:∃p,Int.tmod t8000 G1=p∧p=t / 8000 % (G+1):=⟨t8000 % G1,(remI H8000.out.2 (by have:=HN.out;have:=HG1.out;omega)).1,by rw [H8000.out.1,HG1.out]⟩
  have HU:=Aside0.mk hu
  clear hu
  go_upto_region 24 with (fail)
  refine start_ (n:=16) (S:=fun w'=>w'.cell? ⟨go,1,none⟩=some (.int .i64 G)∧w'.cell? ⟨go,5,none⟩=some v5) (ds:=[15]) (pm 0 16) (by kernel_rfl) rfl rfl ⟨(blk_cell (blk_drew HO.out.t) 1).trans rfl,(blk_cell (blk_drew HO.out.t) 5).trans rfl⟩ (fun hHeld=>?_)
  have HO1:=Aside0.mk (HO.out.below (below_drew (Below.refl _ _)))
  clear HO
  have HO:=HO1
  clear HO1
  obtain⟨wd,hwd⟩:∃wd:World,wd=wq.drew:=⟨_,rfl⟩
  rw [←hwd] at HO hHeld ⊢
  clear hwd
  try clear wq
  obtain⟨wq,rfl⟩:∃wq:World,wq=wd:=⟨_,rfl⟩
  iterate 12 (first|(refine pn_ (v:=?_) (a':=?_) rfl (rfl (a:=some _)) (by kernel_rfl) (fun _ _ _ h=>h) (Or.inl ⟨by rfl,?_⟩) ?_ ?_;rotate_left;(intro w';go_simp;with_reducible rfl);rotate_left;(simp only [Act.put,M.sq3,i64_w,i32_w];rfl))|(refine tn_ (v:=?_) (a':=?_) rfl (rfl (a:=some _)) (by kernel_rfl) (fun _ _ _ h=>h) (Or.inl ⟨by rfl,?_⟩) hHeld ?_ ?_;rotate_left;(intro w' hS_;obtain⟨s0,s1⟩:=hS_;go_simp;with_reducible rfl);rotate_left;(simp only [Act.put,M.sq3,i64_w,i32_w];rfl)))
  refine one_ (i:=12) (N:=(some 132)) (pm 13 3) rfl rfl (by kernel_rfl) (by decide) (fun K hK=>?_)
  refine step_run (v:=.slice (some ⟨wq.heap.size,0,none⟩) 1 1) (w1:=wq.alloc (.cells #[.int .i64 p,.int .i64 y,.int .i64 u,.int .i64 q] 54)) rfl (by go_simp) ?_
  clear hHeld
  refine hK.out _ _ ⟨(blk_cell (blk_old HO.out.t (.cells #[.int .i64 p,.int .i64 y,.int .i64 u,.int .i64 q] 54)) 1).trans rfl,(blk_cell (blk_old HO.out.t (.cells #[.int .i64 p,.int .i64 y,.int .i64 u,.int .i64 q] 54)) 5).trans rfl⟩ (fun hHeld=>?_)
  clear hK K
  refine norm_ (a':=?_) ?_ ?_
  rotate_left
  ·show Act.put _ (some 132) _ = _
   simp only [Act.put,M.sq3,i64_w,i32_w]
   rfl
  refine one_ (i:=13) (N:=(some 133)) (pm 14 2) rfl rfl (by kernel_rfl) (by decide) (fun K hK=>?_)
  refine Kd.R_append_step k54 (w0:=wO) wO.heap.size rfl (.tmp 121) (.tmp 132) 27 54 (.agg #[.int .i64 0,.int .i64 0,.int .i64 0,.int .i64 0]) 32 rfl Try.underlying27 mkCloseI rfl (by decide) (by decide) v5 st.c (⟨p,y,u,q⟩) [.int .i64 p,.int .i64 y,.int .i64 u,.int .i64 q] (fun k=>some k=(v5:Value).ownBlock∨wq.heap.size≤k) (fun _=>False) rfl rfl (k54_mkM _ _ _ _) (fun _ h=>h.elim) (fun k h=>.inr h) (Kd.R_mono HO.out.r5 (fun k h=>.inl h)) HO.out.b HO.out.b.size ?ql ?_
  case ql=>have h1:=HLN.out;have h2:=H24.out;unfold MkLen at h1;omega
  intro v1 w4 hr1 hb1 hg1 hat1
  obtain⟨A1,m1,k1,rfl⟩:=mkSl3 hr1
  have HO1:=Aside0.mk (HO.out.app5 hr1 hb1 hg1 hat1)
  have HT1:=Aside0.mk (blk_grown HO.out.t hg1 (Kd.R_ne HO.out.r5 HO.out.t (by decide)))
  clear hr1 hb1 hg1 hat1 HO
  clear hHeld
  refine hK.out _ _ ⟨(blk_cell HT1.out 1).trans rfl,(blk_cell HT1.out 5).trans rfl⟩ (fun hHeld=>?_)
  clear hK K
  refine norm_ (a':=?_) ?_ ?_
  rotate_left
  ·show Act.put _ (some 133) _ = _
   simp only [Act.put,M.sq3,i64_w,i32_w]
   rfl
  refine pn_ (v:=?_) (a':=?_) rfl (rfl (a:=some _)) (by kernel_rfl) (fun _ _ _ h=>h) (Or.inl ⟨by rfl,?_⟩) ?_ ?_;rotate_left;(intro w';go_simp;with_reducible rfl);rotate_left;(simp only [Act.put,M.sq3,i64_w,i32_w];rfl)
  refine last_ (i:=15) (N:=none) (pm 16 0) rfl rfl (by kernel_rfl) (by decide) (fun K hK=>?_)
  have hc2:=(blk_cell HT1.out 5).trans (show (#[Value.int .i64 N,.int .i64 G,v2,v3,v4,v5,v6]:Array Value)[5]? = some v5 from rfl)
  have hf2:=blk_frozen HT1.out 5
  refine Go.Proofs.Ytjkhdldgmkkhjaa.M.step_skip (w1:=w4.setCell ⟨go,5,none⟩ (.slice A1 m1 k1)) rfl rfl (by go_simp) ?_
  clear hc2 hf2 HT1 hHeld
  refine hK.out _ _ ?_
  clear hK K
  obtain⟨wd,hwd⟩:∃wd:World,wd=w4.setCell ⟨go,5,none⟩ (.slice A1 m1 k1):=⟨_,rfl⟩
  rw [←hwd] at HO1 ⊢
  clear hwd
  have HO:=HO1
  clear HO1
  clear w4
  try clear wq
  obtain⟨wq,rfl⟩:∃wq:World,wq=wd:=⟨_,rfl⟩
  refine done_ (by kernel_rfl) ?_
  go_wp2
  go_roundg (24 - (i+1))
  case measure=>have:=Hi.out;have:=H24.out;omega
  case rel=>exact⟨i+1,_,_,_,_,_,by first|rfl|rw [show wrap64 ((i:Int)+1)=((i+1:Nat):Int) by have:=H24.out;unfold wrap64;omega],⟨HLT.out,H24.out,Nat.le_refl _⟩,⟨by rw [HNX.out,show mkT l N G st t=⟨st.i,st.f,st.o,st.c ++ [⟨p,y,u,q⟩],st.n⟩ from by unfold mkT;rw [if_neg (by rw [←HPQ.out.2.2];exact C0.out)];rw [if_neg (by rw [←HPQ.out.2.2];exact C1.out)];rw [if_neg (by rw [←HPQ.out.2.2];exact fun h=>h.elim C2.out C3.out)];rw [if_pos (by rw [←HPQ.out.2.2];exact .inr C5.out)];rw [HY.out];rw [if_pos (show 0≤y by have:=C9.out;omega),←HPQ.out.1,←HPQ.out.2.1,←HU.out]];exact HO.out⟩⟩
 have s5:=eq_false c5
 have d5:(k == 5)=false:=beq_eq_false_iff_ne.2 c5
 have C5:=Aside0.mk c5
 clear c5
 go_wp2_with fail
 refine(canopylaw3_pick.calls 100 A0 c0 l 3 s7 _ _ (Kd.C_below (Kd.C_below HI0.out.1 HBO.out) HO.out.b) HI0.out.2.1 (pick_eq HI0.out.2.2 3 s7 H7.out.2 100 (Nat.le_refl _))).mono ?_
 rintro e w3 ⟨rfl,hd⟩
 have HO1:=Aside0.mk (HO.out.below hd)
 clear HO hd
 have HO:=HO1
 clear HO1
 try clear wq
 obtain⟨wq,rfl⟩:∃wq:World,wq=w3:=⟨_,rfl⟩
 obtain⟨y,hy⟩:∃y,y=pickL l 3 s7:=⟨_,rfl⟩
 rw [←hy]
 have HY:Aside0 (pickL l 3 (t / 800 % 7)=y):=⟨by rw [hy,H7.out.1]⟩
 clear hy
 by_cases c9:¬0≤y
 ·have s9 := eq_false (show ¬ y ≥ 0 from c9)
  have d9:=decide_eq_false (show ¬y≥0 from c9)
  have C9:=Aside0.mk c9
  clear c9
  go_wp2
  go_roundg (24 - (i+1))
  case measure=>have:=Hi.out;have:=H24.out;omega
  case rel=>exact⟨i+1,_,_,_,_,_,by first|rfl|rw [show wrap64 ((i:Int)+1)=((i+1:Nat):Int) by have:=H24.out;unfold wrap64;omega],⟨HLT.out,H24.out,Nat.le_refl _⟩,⟨by rw [HNX.out,show mkT l N G st t=st from by unfold mkT;rw [if_neg (by rw [←HPQ.out.2.2];exact C0.out)];rw [if_neg (by rw [←HPQ.out.2.2];exact C1.out)];rw [if_neg (by rw [←HPQ.out.2.2];exact fun h=>h.elim C2.out C3.out)];rw [if_neg (by rw [←HPQ.out.2.2];exact fun h=>h.elim C4.out C5.out)];rw [HY.out];rw [if_neg (show ¬0≤y by have:=C9.out;omega)]];exact HO.out⟩⟩
 have c9:=Classical.not_not.1 c9
 have s9:=eq_true (show y≥0 from c9)
 have d9:=decide_eq_true (show y≥0 from c9)
 have C9:=Aside0.mk c9
 clear c9
 have b6:=(blk_cell HO.out.t 6).trans (show (#[.int .i64 N,.int .i64 G,v2,v3,v4,v5,v6]:Array Value)[6]? = some (v6) from rfl)
 go_wp2_with ((with_reducible refine gate_builtin (b:=.append) (xs:=#[.tmp 61,.tmp 66]) rfl ?_);at_builtin;go_loud (refine Kd.R_append k56 (w0:=wO) wO.heap.size rfl (.tmp 61) (.tmp 66) 28 56 (.agg #[.int .i64 0,.int .i64 0,.int .i64 0]) 24 rfl Try.underlying28 mkInnerI rfl (by decide) (by decide) v6 st.n (⟨p,y,q⟩) [.int .i64 p,.int .i64 y,.int .i64 q] (fun k=>some k=(v6:Value).ownBlock∨wq.heap.size≤k) (fun _=>False) rfl rfl (k56_mkM _ _ _ _) (fun _ h=>h.elim) (fun k h=>.inr h) (Kd.R_mono HO.out.r6 (fun k h=>.inl h)) HO.out.b HO.out.b.size ?ql ?_);(case ql=>have h1:=HLN.out;have h2:=H24.out;unfold MkLen at h1;omega);intro v1 w4 hr1 hb1 hg1 hat1;obtain⟨A1,m1,k1,rfl⟩:=mkSl3 hr1;have HO1:=Aside0.mk (HO.out.app6 hr1 hb1 hg1 hat1);have HT1:=Aside0.mk (blk_grown HO.out.t hg1 (Kd.R_ne HO.out.r6 HO.out.t (by decide)));have hc2:=(blk_cell HT1.out 6).trans (show (#[Value.int .i64 N,.int .i64 G,v2,v3,v4,v5,v6]:Array Value)[6]? = some v6 from rfl);have hf2:=blk_frozen HT1.out 6;clear hr1 hb1 hg1 hat1)
 go_wp2
 go_roundg (24 - (i+1))
 case measure=>have:=Hi.out;have:=H24.out;omega
 case rel=>exact⟨i+1,v2,v3,v4,v5,_,by first|rfl|rw [show wrap64 ((i:Int)+1)=((i+1:Nat):Int) by have:=H24.out;unfold wrap64;omega],⟨HLT.out,H24.out,Nat.le_refl _⟩,⟨by rw [HNX.out,show mkT l N G st t=⟨st.i,st.f,st.o,st.c,st.n ++ [⟨p,y,q⟩]⟩ from by unfold mkT;rw [if_neg (by rw [←HPQ.out.2.2];exact C0.out)];rw [if_neg (by rw [←HPQ.out.2.2];exact C1.out)];rw [if_neg (by rw [←HPQ.out.2.2];exact fun h=>h.elim C2.out C3.out)];rw [if_neg (by rw [←HPQ.out.2.2];exact fun h=>h.elim C4.out C5.out)];rw [HY.out];rw [if_pos (show 0≤y by have:=C9.out;omega),←HPQ.out.1,←HPQ.out.2.1]];exact HO1.out⟩⟩
end Go.Proofs.Ytjkhdldgmkkhjaa.P
