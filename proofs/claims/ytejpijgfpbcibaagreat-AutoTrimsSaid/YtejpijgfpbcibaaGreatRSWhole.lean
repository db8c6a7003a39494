/- Words and walks of this claim: SWhole. -/
import Derived.Test.YtejpijgfpbcibaaGreatRMFar
import Derived.Test.YtejpijgfpbcibaaGreatRSSingle
set_option linter.unusedVariables false
set_option linter.unusedSimpArgs false
set_option linter.unnecessarySimpa false
namespace Go.Proofs.YtejpijgfpbcibaaGreat.P
open Go.RowKit Go.Proofs.YtejpijgfpbcibaaGreatW.PrintWords Go.Proofs.YtejpijgfpbcibaaGreatW.PrintLast Go.Proofs.YtejpijgfpbcibaaGreatW.PrintMore Go.Proofs.YtejpijgfpbcibaaGreat.M
def cntM (l:List TWay):List (TWay × Int):=l.foldl (fun m x=>putM m x (wrap64 ((asc m x).getD 0+1))) []
theorem cntM_snoc (l:List TWay) (x:TWay):cntM (l ++ [x])=putM (cntM l) x (wrap64 ((asc (cntM l) x).getD 0+1)):=by simp [cntM]
def wantW (l:List S51) (g:Int):Int:=l.foldl (fun a x=>wrap64 ((if x.f1=2 then wrap64 (a+g) else a)+1)) 0
theorem wantW_snoc (l:List S51) (x:S51) (g:Int):wantW (l ++ [x]) g=wrap64 ((if x.f1=2 then wrap64 (wantW l g+g) else wantW l g)+1):=by simp [wantW]
def wholeB (l:List S51) (n g:Int) (i:List Int) (ws:List TWay):Bool:=decide (0 < i.length) && decide (((cntM ws).length:Int)=wrap64 (wantW l g*n))
set_option maxHeartbeats 8000000 in
set_option maxRecDepth 100000 in
theorem whole_own (A0:Option Addr) (c0:Nat) (l0:List S51) (n g:Int) (A2:Option Addr) (c2:Nat) (l2:List Int) (A3:Option Addr) (c3:Nat) (l3:List Int) (A4:Option Addr) (c4:Nat) (l4:List TOpen) (A5:Option Addr) (c5:Nat) (l5:List TClose) (A6:Option Addr) (c6:Nat) (l6:List TInner) (w:World) (h0:Kd.C k51 w A0 l0.length l0) (hl0:l0.length≤1000000000) (h2:Kd.C (Kd.int .i64) w A2 l2.length l2) (hc2:l2.length≤c2) (hl2:l2.length≤1000000000) (h3:Kd.C (Kd.int .i64) w A3 l3.length l3) (hc3:l3.length≤c3) (hl3:l3.length≤1000000000) (h4:Kd.C k36 w A4 l4.length l4) (hc4:l4.length≤c4) (hl4:l4.length≤1000000000) (h5:Kd.C k38 w A5 l5.length l5) (hc5:l5.length≤c5) (hl5:l5.length≤1000000000) (h6:Kd.C k40 w A6 l6.length l6) (hc6:l6.length≤c6) (hl6:l6.length≤1000000000) :
 Calls Tryz.prog 21 #[.slice A0 l0.length c0,.agg #[.int .i64 n,.int .i64 g,.slice A2 l2.length c2,.slice A3 l3.length c3,.slice A4 l4.length c4,.slice A5 l5.length c5,.slice A6 l6.length c6]] w fun e w'=>e=.returned (.bool (wholeB l0 n g (onceC cmpInt l2) (waysL (onceC cmpOpen l4) (onceC cmpClose l5) (onceC cmpInner l6))))∧Below w.heap.size w w':=by
 have HI0:=Aside0.mk (And.intro h0 hl0)
 clear h0 hl0
 obtain⟨rv,hrv⟩:∃rv:Bool,rv=wholeB l0 n g (onceC cmpInt l2) (waysL (onceC cmpOpen l4) (onceC cmpClose l5) (onceC cmpInner l6)):=⟨_,rfl⟩
 rw [←hrv]
 have Hlo2:(onceC cmpInt l2).length≤1000000000:=Nat.le_trans (onceN_len totalInt l2) hl2
 have Hlo3:(onceC cmpInt l3).length≤1000000000:=Nat.le_trans (onceN_len totalInt l3) hl3
 have Hlo4:(onceC cmpOpen l4).length≤1000000000:=Nat.le_trans (onceN_len totalOpen l4) hl4
 have Hlo5:(onceC cmpClose l5).length≤1000000000:=Nat.le_trans (onceN_len totalClose l5) hl5
 have Hlo6:(onceC cmpInner l6).length≤1000000000:=Nat.le_trans (onceN_len totalInner l6) hl6
 have HI2:=Aside0.mk (And.intro h2 (And.intro hc2 hl2))
 have HI3:=Aside0.mk (And.intro h3 (And.intro hc3 hl3))
 have HI4:=Aside0.mk (And.intro h4 (And.intro hc4 hl4))
 have HI5:=Aside0.mk (And.intro h5 (And.intro hc5 hl5))
 have HI6:=Aside0.mk (And.intro h6 (And.intro hc6 hl6))
 clear h2 hc2 hl2 h3 hc3 hl3 h4 hc4 hl4 h5 hc5 hl5 h6 hc6 hl6
 have HNM:=Aside0.mk (fun wn q2 q3 q4 q5 q6=>norm_own n g A2 c2 l2 A3 c3 l3 A4 c4 l4 A5 c5 l5 A6 c6 l6 wn q2 HI2.out.2.1 HI2.out.2.2 q3 HI3.out.2.1 HI3.out.2.2 q4 HI4.out.2.1 HI4.out.2.2 q5 HI5.out.2.1 HI5.out.2.2 q6 HI6.out.2.1 HI6.out.2.2)
 generalize onceC cmpOpen l4=o4 at HNM hrv Hlo4
 generalize onceC cmpClose l5=o5 at HNM hrv Hlo5
 generalize onceC cmpInner l6=o6 at HNM hrv Hlo6
 obtain⟨o2,ho2⟩:∃o2,o2=onceC cmpInt l2:=⟨_,rfl⟩
 obtain⟨o3,ho3⟩:∃o3,o3=onceC cmpInt l3:=⟨_,rfl⟩
 simp only [←ho2,←ho3] at HNM hrv Hlo2 Hlo3
 clear ho2 ho3
 have HLo2:=Aside0.mk Hlo2
 clear Hlo2
 have HLo3:=Aside0.mk Hlo3
 clear Hlo3
 have HLo4:=Aside0.mk Hlo4
 clear Hlo4
 have HLo5:=Aside0.mk Hlo5
 clear Hlo5
 have HLo6:=Aside0.mk Hlo6
 clear Hlo6
 have HRV:=Aside0.mk hrv
 clear hrv
 have H2:Aside0 ((w.alloc (.cells #[.int .i64 n,.int .i64 g,.slice A2 l2.length c2,.slice A3 l3.length c3,.slice A4 l4.length c4,.slice A5 l5.length c5,.slice A6 l6.length c6] 30)).heap[w.heap.size]? = some (.cells #[.int .i64 n,.int .i64 g,.slice A2 l2.length c2,.slice A3 l3.length c3,.slice A4 l4.length c4,.slice A5 l5.length c5,.slice A6 l6.length c6] 30 (0,0))):=⟨blk_newAt _ rfl⟩
 have HB:Aside0 (Below w.heap.size w (w.alloc (.cells #[.int .i64 n,.int .i64 g,.slice A2 l2.length c2,.slice A3 l3.length c3,.slice A4 l4.length c4,.slice A5 l5.length c5,.slice A6 l6.length c6] 30))):=⟨below_alloc (Below.refl _ _) _⟩
 have hmm:=@run_makeMap Tryz.prog
 go_enter Tryz.func21,Tryz.ntmps21
 go_upto_region 1 with (fail)
 generalize w.alloc (.cells #[.int .i64 n,.int .i64 g,.slice A2 l2.length c2,.slice A3 l3.length c3,.slice A4 l4.length c4,.slice A5 l5.length c5,.slice A6 l6.length c6] 30)=wb at H2 HB ⊢
 have d0:=(blk_cell H2.out 0).trans (show (#[.int .i64 n,.int .i64 g,.slice A2 l2.length c2,.slice A3 l3.length c3,.slice A4 l4.length c4,.slice A5 l5.length c5,.slice A6 l6.length c6]:Array Value)[0]? = some (.int .i64 n) from rfl)
 have d1:=(blk_cell H2.out 1).trans (show (#[.int .i64 n,.int .i64 g,.slice A2 l2.length c2,.slice A3 l3.length c3,.slice A4 l4.length c4,.slice A5 l5.length c5,.slice A6 l6.length c6]:Array Value)[1]? = some (.int .i64 g) from rfl)
 have d2:=(blk_cell H2.out 2).trans (show (#[.int .i64 n,.int .i64 g,.slice A2 l2.length c2,.slice A3 l3.length c3,.slice A4 l4.length c4,.slice A5 l5.length c5,.slice A6 l6.length c6]:Array Value)[2]? = some (.slice A2 l2.length c2) from rfl)
 have d3:=(blk_cell H2.out 3).trans (show (#[.int .i64 n,.int .i64 g,.slice A2 l2.length c2,.slice A3 l3.length c3,.slice A4 l4.length c4,.slice A5 l5.length c5,.slice A6 l6.length c6]:Array Value)[3]? = some (.slice A3 l3.length c3) from rfl)
 have d4:=(blk_cell H2.out 4).trans (show (#[.int .i64 n,.int .i64 g,.slice A2 l2.length c2,.slice A3 l3.length c3,.slice A4 l4.length c4,.slice A5 l5.length c5,.slice A6 l6.length c6]:Array Value)[4]? = some (.slice A4 l4.length c4) from rfl)
 have d5:=(blk_cell H2.out 5).trans (show (#[.int .i64 n,.int .i64 g,.slice A2 l2.length c2,.slice A3 l3.length c3,.slice A4 l4.length c4,.slice A5 l5.length c5,.slice A6 l6.length c6]:Array Value)[5]? = some (.slice A5 l5.length c5) from rfl)
 have d6:=(blk_cell H2.out 6).trans (show (#[.int .i64 n,.int .i64 g,.slice A2 l2.length c2,.slice A3 l3.length c3,.slice A4 l4.length c4,.slice A5 l5.length c5,.slice A6 l6.length c6]:Array Value)[6]? = some (.slice A6 l6.length c6) from rfl)
 go_wp2_with fail
 refine(HNM.out _ (Kd.C_below HI2.out.1 HB.out) (Kd.C_below HI3.out.1 HB.out) (Kd.C_below HI4.out.1 HB.out) (Kd.C_below HI5.out.1 HB.out) (Kd.C_below HI6.out.1 HB.out)).mono ?_
 rintro e w1 ⟨v2,v3,v4,v5,v6,rfl,hv2,hv3,hv4,hv5,hv6,hb1⟩
 obtain⟨B2,b2,rfl⟩:=Kd.V_slice hv2
 obtain⟨B3,b3,rfl⟩:=Kd.V_slice hv3
 obtain⟨B4,b4,rfl⟩:=Kd.V_slice hv4
 obtain⟨B5,b5,rfl⟩:=Kd.V_slice hv5
 obtain⟨B6,b6,rfl⟩:=Kd.V_slice hv6
 clear d0 d1 d2 d3 d4 d5 d6
 have H21:=Aside0.mk (blk_below H2.out hb1)
 have HBW:Aside0 (w.heap.size < wb.heap.size):=⟨blk_lt H2.out⟩
 have HV2:=Aside0.mk hv2
 have HV3:=Aside0.mk hv3
 have HV4:=Aside0.mk hv4
 have HV5:=Aside0.mk hv5
 have HV6:=Aside0.mk hv6
 have HB1:=Aside0.mk (below_then HB.out HB.out.size hb1)
 clear H2 HB HNM hb1 hv2 hv3 hv4 hv5 hv6
 have e0:=(blk_cell H21.out 0).trans (show (#[.int .i64 n,.int .i64 g,.slice A2 l2.length c2,.slice A3 l3.length c3,.slice A4 l4.length c4,.slice A5 l5.length c5,.slice A6 l6.length c6]:Array Value)[0]? = some (.int .i64 n) from rfl)
 have e1:=(blk_cell H21.out 1).trans (show (#[.int .i64 n,.int .i64 g,.slice A2 l2.length c2,.slice A3 l3.length c3,.slice A4 l4.length c4,.slice A5 l5.length c5,.slice A6 l6.length c6]:Array Value)[1]? = some (.int .i64 g) from rfl)
 have e2:=(blk_cell H21.out 2).trans (show (#[.int .i64 n,.int .i64 g,.slice A2 l2.length c2,.slice A3 l3.length c3,.slice A4 l4.length c4,.slice A5 l5.length c5,.slice A6 l6.length c6]:Array Value)[2]? = some (.slice A2 l2.length c2) from rfl)
 have e3:=(blk_cell H21.out 3).trans (show (#[.int .i64 n,.int .i64 g,.slice A2 l2.length c2,.slice A3 l3.length c3,.slice A4 l4.length c4,.slice A5 l5.length c5,.slice A6 l6.length c6]:Array Value)[3]? = some (.slice A3 l3.length c3) from rfl)
 have e4:=(blk_cell H21.out 4).trans (show (#[.int .i64 n,.int .i64 g,.slice A2 l2.length c2,.slice A3 l3.length c3,.slice A4 l4.length c4,.slice A5 l5.length c5,.slice A6 l6.length c6]:Array Value)[4]? = some (.slice A4 l4.length c4) from rfl)
 have e5:=(blk_cell H21.out 5).trans (show (#[.int .i64 n,.int .i64 g,.slice A2 l2.length c2,.slice A3 l3.length c3,.slice A4 l4.length c4,.slice A5 l5.length c5,.slice A6 l6.length c6]:Array Value)[5]? = some (.slice A5 l5.length c5) from rfl)
 have e6:=(blk_cell H21.out 6).trans (show (#[.int .i64 n,.int .i64 g,.slice A2 l2.length c2,.slice A3 l3.length c3,.slice A4 l4.length c4,.slice A5 l5.length c5,.slice A6 l6.length c6]:Array Value)[6]? = some (.slice A6 l6.length c6) from rfl)
 have f0:=blk_frozen H21.out 0
 have f1:=blk_frozen H21.out 1
 have f2:=blk_frozen H21.out 2
 have f3:=blk_frozen H21.out 3
 have f4:=blk_frozen H21.out 4
 have f5:=blk_frozen H21.out 5
 have f6:=blk_frozen H21.out 6
 go_upto_region 2 with (fail)
 have H3:Aside0 ((((((((w1.setCell ⟨w.heap.size,0,none⟩ (.int .i64 n)).setCell ⟨w.heap.size,1,none⟩ (.int .i64 g)).setCell ⟨w.heap.size,2,none⟩ (.slice B2 o2.length b2)).setCell ⟨w.heap.size,3,none⟩ (.slice B3 o3.length b3)).setCell ⟨w.heap.size,4,none⟩ (.slice B4 o4.length b4)).setCell ⟨w.heap.size,5,none⟩ (.slice B5 o5.length b5)).setCell ⟨w.heap.size,6,none⟩ (.slice B6 o6.length b6)).heap[w.heap.size]? = some (.cells #[.int .i64 n,.int .i64 g,.slice B2 o2.length b2,.slice B3 o3.length b3,.slice B4 o4.length b4,.slice B5 o5.length b5,.slice B6 o6.length b6] 30 (0,0))):=⟨(blk_set (blk_set (blk_set (blk_set (blk_set (blk_set (blk_set H21.out 0 (.int .i64 n)) 1 (.int .i64 g)) 2 (.slice B2 o2.length b2)) 3 (.slice B3 o3.length b3)) 4 (.slice B4 o4.length b4)) 5 (.slice B5 o5.length b5)) 6 (.slice B6 o6.length b6))⟩
 have HB3:Aside0 (Below w.heap.size w (((((((w1.setCell ⟨w.heap.size,0,none⟩ (.int .i64 n)).setCell ⟨w.heap.size,1,none⟩ (.int .i64 g)).setCell ⟨w.heap.size,2,none⟩ (.slice B2 o2.length b2)).setCell ⟨w.heap.size,3,none⟩ (.slice B3 o3.length b3)).setCell ⟨w.heap.size,4,none⟩ (.slice B4 o4.length b4)).setCell ⟨w.heap.size,5,none⟩ (.slice B5 o5.length b5)).setCell ⟨w.heap.size,6,none⟩ (.slice B6 o6.length b6))):=⟨below_setCells7 HB1.out⟩
 have HW2:Aside0 (Kd.V (Kd.int .i64) 3 (((((((w1.setCell ⟨w.heap.size,0,none⟩ (.int .i64 n)).setCell ⟨w.heap.size,1,none⟩ (.int .i64 g)).setCell ⟨w.heap.size,2,none⟩ (.slice B2 o2.length b2)).setCell ⟨w.heap.size,3,none⟩ (.slice B3 o3.length b3)).setCell ⟨w.heap.size,4,none⟩ (.slice B4 o4.length b4)).setCell ⟨w.heap.size,5,none⟩ (.slice B5 o5.length b5)).setCell ⟨w.heap.size,6,none⟩ (.slice B6 o6.length b6)) wb.heap.size (fun k_=>wb.heap.size≤k_) (.slice B2 o2.length b2) o2):=⟨(Kd.V_far (p:=⟨w.heap.size,6,none⟩) (Kd.V_far (p:=⟨w.heap.size,5,none⟩) (Kd.V_far (p:=⟨w.heap.size,4,none⟩) (Kd.V_far (p:=⟨w.heap.size,3,none⟩) (Kd.V_far (p:=⟨w.heap.size,2,none⟩) (Kd.V_far (p:=⟨w.heap.size,1,none⟩) (Kd.V_far (p:=⟨w.heap.size,0,none⟩) HV2.out (fun k hk e=>by have e2:k=w.heap.size:=e;have:=HBW.out;omega) _) (fun k hk e=>by have e2:k=w.heap.size:=e;have:=HBW.out;omega) _) (fun k hk e=>by have e2:k=w.heap.size:=e;have:=HBW.out;omega) _) (fun k hk e=>by have e2:k=w.heap.size:=e;have:=HBW.out;omega) _) (fun k hk e=>by have e2:k=w.heap.size:=e;have:=HBW.out;omega) _) (fun k hk e=>by have e2:k=w.heap.size:=e;have:=HBW.out;omega) _) (fun k hk e=>by have e2:k=w.heap.size:=e;have:=HBW.out;omega) _)⟩
 have HW3:Aside0 (Kd.V (Kd.int .i64) 3 (((((((w1.setCell ⟨w.heap.size,0,none⟩ (.int .i64 n)).setCell ⟨w.heap.size,1,none⟩ (.int .i64 g)).setCell ⟨w.heap.size,2,none⟩ (.slice B2 o2.length b2)).setCell ⟨w.heap.size,3,none⟩ (.slice B3 o3.length b3)).setCell ⟨w.heap.size,4,none⟩ (.slice B4 o4.length b4)).setCell ⟨w.heap.size,5,none⟩ (.slice B5 o5.length b5)).setCell ⟨w.heap.size,6,none⟩ (.slice B6 o6.length b6)) wb.heap.size (fun k_=>wb.heap.size≤k_) (.slice B3 o3.length b3) o3):=⟨(Kd.V_far (p:=⟨w.heap.size,6,none⟩) (Kd.V_far (p:=⟨w.heap.size,5,none⟩) (Kd.V_far (p:=⟨w.heap.size,4,none⟩) (Kd.V_far (p:=⟨w.heap.size,3,none⟩) (Kd.V_far (p:=⟨w.heap.size,2,none⟩) (Kd.V_far (p:=⟨w.heap.size,1,none⟩) (Kd.V_far (p:=⟨w.heap.size,0,none⟩) HV3.out (fun k hk e=>by have e2:k=w.heap.size:=e;have:=HBW.out;omega) _) (fun k hk e=>by have e2:k=w.heap.size:=e;have:=HBW.out;omega) _) (fun k hk e=>by have e2:k=w.heap.size:=e;have:=HBW.out;omega) _) (fun k hk e=>by have e2:k=w.heap.size:=e;have:=HBW.out;omega) _) (fun k hk e=>by have e2:k=w.heap.size:=e;have:=HBW.out;omega) _) (fun k hk e=>by have e2:k=w.heap.size:=e;have:=HBW.out;omega) _) (fun k hk e=>by have e2:k=w.heap.size:=e;have:=HBW.out;omega) _)⟩
 have HW4:Aside0 (Kd.V k36 36 (((((((w1.setCell ⟨w.heap.size,0,none⟩ (.int .i64 n)).setCell ⟨w.heap.size,1,none⟩ (.int .i64 g)).setCell ⟨w.heap.size,2,none⟩ (.slice B2 o2.length b2)).setCell ⟨w.heap.size,3,none⟩ (.slice B3 o3.length b3)).setCell ⟨w.heap.size,4,none⟩ (.slice B4 o4.length b4)).setCell ⟨w.heap.size,5,none⟩ (.slice B5 o5.length b5)).setCell ⟨w.heap.size,6,none⟩ (.slice B6 o6.length b6)) wb.heap.size (fun k_=>wb.heap.size≤k_) (.slice B4 o4.length b4) o4):=⟨(Kd.V_far (p:=⟨w.heap.size,6,none⟩) (Kd.V_far (p:=⟨w.heap.size,5,none⟩) (Kd.V_far (p:=⟨w.heap.size,4,none⟩) (Kd.V_far (p:=⟨w.heap.size,3,none⟩) (Kd.V_far (p:=⟨w.heap.size,2,none⟩) (Kd.V_far (p:=⟨w.heap.size,1,none⟩) (Kd.V_far (p:=⟨w.heap.size,0,none⟩) HV4.out (fun k hk e=>by have e2:k=w.heap.size:=e;have:=HBW.out;omega) _) (fun k hk e=>by have e2:k=w.heap.size:=e;have:=HBW.out;omega) _) (fun k hk e=>by have e2:k=w.heap.size:=e;have:=HBW.out;omega) _) (fun k hk e=>by have e2:k=w.heap.size:=e;have:=HBW.out;omega) _) (fun k hk e=>by have e2:k=w.heap.size:=e;have:=HBW.out;omega) _) (fun k hk e=>by have e2:k=w.heap.size:=e;have:=HBW.out;omega) _) (fun k hk e=>by have e2:k=w.heap.size:=e;have:=HBW.out;omega) _)⟩
 have HW5:Aside0 (Kd.V k38 38 (((((((w1.setCell ⟨w.heap.size,0,none⟩ (.int .i64 n)).setCell ⟨w.heap.size,1,none⟩ (.int .i64 g)).setCell ⟨w.heap.size,2,none⟩ (.slice B2 o2.length b2)).setCell ⟨w.heap.size,3,none⟩ (.slice B3 o3.length b3)).setCell ⟨w.heap.size,4,none⟩ (.slice B4 o4.length b4)).setCell ⟨w.heap.size,5,none⟩ (.slice B5 o5.length b5)).setCell ⟨w.heap.size,6,none⟩ (.slice B6 o6.length b6)) wb.heap.size (fun k_=>wb.heap.size≤k_) (.slice B5 o5.length b5) o5):=⟨(Kd.V_far (p:=⟨w.heap.size,6,none⟩) (Kd.V_far (p:=⟨w.heap.size,5,none⟩) (Kd.V_far (p:=⟨w.heap.size,4,none⟩) (Kd.V_far (p:=⟨w.heap.size,3,none⟩) (Kd.V_far (p:=⟨w.heap.size,2,none⟩) (Kd.V_far (p:=⟨w.heap.size,1,none⟩) (Kd.V_far (p:=⟨w.heap.size,0,none⟩) HV5.out (fun k hk e=>by have e2:k=w.heap.size:=e;have:=HBW.out;omega) _) (fun k hk e=>by have e2:k=w.heap.size:=e;have:=HBW.out;omega) _) (fun k hk e=>by have e2:k=w.heap.size:=e;have:=HBW.out;omega) _) (fun k hk e=>by have e2:k=w.heap.size:=e;have:=HBW.out;omega) _) (fun k hk e=>by have e2:k=w.heap.size:=e;have:=HBW.out;omega) _) (fun k hk e=>by have e2:k=w.heap.size:=e;have:=HBW.out;omega) _) (fun k hk e=>by have e2:k=w.heap.size:=e;have:=HBW.out;omega) _)⟩
 have HW6:Aside0 (Kd.V k40 40 (((((((w1.setCell ⟨w.heap.size,0,none⟩ (.int .i64 n)).setCell ⟨w.heap.size,1,none⟩ (.int .i64 g)).setCell ⟨w.heap.size,2,none⟩ (.slice B2 o2.length b2)).setCell ⟨w.heap.size,3,none⟩ (.slice B3 o3.length b3)).setCell ⟨w.heap.size,4,none⟩ (.slice B4 o4.length b4)).setCell ⟨w.heap.size,5,none⟩ (.slice B5 o5.length b5)).setCell ⟨w.heap.size,6,none⟩ (.slice B6 o6.length b6)) wb.heap.size (fun k_=>wb.heap.size≤k_) (.slice B6 o6.length b6) o6):=⟨(Kd.V_far (p:=⟨w.heap.size,6,none⟩) (Kd.V_far (p:=⟨w.heap.size,5,none⟩) (Kd.V_far (p:=⟨w.heap.size,4,none⟩) (Kd.V_far (p:=⟨w.heap.size,3,none⟩) (Kd.V_far (p:=⟨w.heap.size,2,none⟩) (Kd.V_far (p:=⟨w.heap.size,1,none⟩) (Kd.V_far (p:=⟨w.heap.size,0,none⟩) HV6.out (fun k hk e=>by have e2:k=w.heap.size:=e;have:=HBW.out;omega) _) (fun k hk e=>by have e2:k=w.heap.size:=e;have:=HBW.out;omega) _) (fun k hk e=>by have e2:k=w.heap.size:=e;have:=HBW.out;omega) _) (fun k hk e=>by have e2:k=w.heap.size:=e;have:=HBW.out;omega) _) (fun k hk e=>by have e2:k=w.heap.size:=e;have:=HBW.out;omega) _) (fun k hk e=>by have e2:k=w.heap.size:=e;have:=HBW.out;omega) _) (fun k hk e=>by have e2:k=w.heap.size:=e;have:=HBW.out;omega) _)⟩
 generalize (((((((w1.setCell ⟨w.heap.size,0,none⟩ (.int .i64 n)).setCell ⟨w.heap.size,1,none⟩ (.int .i64 g)).setCell ⟨w.heap.size,2,none⟩ (.slice B2 o2.length b2)).setCell ⟨w.heap.size,3,none⟩ (.slice B3 o3.length b3)).setCell ⟨w.heap.size,4,none⟩ (.slice B4 o4.length b4)).setCell ⟨w.heap.size,5,none⟩ (.slice B5 o5.length b5)).setCell ⟨w.heap.size,6,none⟩ (.slice B6 o6.length b6))=wc at H3 HB3 HW2 HW3 HW4 HW5 HW6 ⊢
 clear H21 HB1 HV2 e2 f2 HV3 e3 f3 HV4 e4 f4 HV5 e5 f5 HV6 e6 f6 e0 e1 f0 f1
 have e0:=(blk_cell H3.out 0).trans (show (#[.int .i64 n,.int .i64 g,.slice B2 o2.length b2,.slice B3 o3.length b3,.slice B4 o4.length b4,.slice B5 o5.length b5,.slice B6 o6.length b6]:Array Value)[0]? = some (.int .i64 n) from rfl)
 have e1:=(blk_cell H3.out 1).trans (show (#[.int .i64 n,.int .i64 g,.slice B2 o2.length b2,.slice B3 o3.length b3,.slice B4 o4.length b4,.slice B5 o5.length b5,.slice B6 o6.length b6]:Array Value)[1]? = some (.int .i64 g) from rfl)
 have e2:=(blk_cell H3.out 2).trans (show (#[.int .i64 n,.int .i64 g,.slice B2 o2.length b2,.slice B3 o3.length b3,.slice B4 o4.length b4,.slice B5 o5.length b5,.slice B6 o6.length b6]:Array Value)[2]? = some (.slice B2 o2.length b2) from rfl)
 have e3:=(blk_cell H3.out 3).trans (show (#[.int .i64 n,.int .i64 g,.slice B2 o2.length b2,.slice B3 o3.length b3,.slice B4 o4.length b4,.slice B5 o5.length b5,.slice B6 o6.length b6]:Array Value)[3]? = some (.slice B3 o3.length b3) from rfl)
 have e4:=(blk_cell H3.out 4).trans (show (#[.int .i64 n,.int .i64 g,.slice B2 o2.length b2,.slice B3 o3.length b3,.slice B4 o4.length b4,.slice B5 o5.length b5,.slice B6 o6.length b6]:Array Value)[4]? = some (.slice B4 o4.length b4) from rfl)
 have e5:=(blk_cell H3.out 5).trans (show (#[.int .i64 n,.int .i64 g,.slice B2 o2.length b2,.slice B3 o3.length b3,.slice B4 o4.length b4,.slice B5 o5.length b5,.slice B6 o6.length b6]:Array Value)[5]? = some (.slice B5 o5.length b5) from rfl)
 have e6:=(blk_cell H3.out 6).trans (show (#[.int .i64 n,.int .i64 g,.slice B2 o2.length b2,.slice B3 o3.length b3,.slice B4 o4.length b4,.slice B5 o5.length b5,.slice B6 o6.length b6]:Array Value)[6]? = some (.slice B6 o6.length b6) from rfl)
 have HRV2:Aside0 (rv=wholeB l0 n g o2 (waysL o4 o5 o6)):=HRV
 clear HRV
 have HM0:Aside0 (MapIs eWay (Value.int .i64) (wc.alloc (.map #[] 0)) wc.heap.size ([]:List (TWay × Int))):=⟨MapIs.made _ _ _⟩
 have H4:Aside0 ((wc.alloc (.map #[] 0)).heap[w.heap.size]? = some (.cells #[.int .i64 n,.int .i64 g,.slice B2 o2.length b2,.slice B3 o3.length b3,.slice B4 o4.length b4,.slice B5 o5.length b5,.slice B6 o6.length b6] 30 (0,0))):=⟨blk_old H3.out _⟩
 have HB4:Aside0 (Below w.heap.size w (wc.alloc (.map #[] 0))):=⟨below_alloc HB3.out _⟩
 have HC2:Aside0 (Kd.C (Kd.int .i64) (wc.alloc (.map #[] 0)) B2 o2.length o2∧o2.length≤b2):=⟨Kd.C_below (Kd.V_reads' HW2.out).2.2 (below_alloc (Below.refl _ _) _),(Kd.V_reads' HW2.out).2.1⟩
 have HC3:Aside0 (Kd.C (Kd.int .i64) (wc.alloc (.map #[] 0)) B3 o3.length o3∧o3.length≤b3):=⟨Kd.C_below (Kd.V_reads' HW3.out).2.2 (below_alloc (Below.refl _ _) _),(Kd.V_reads' HW3.out).2.1⟩
 have HC4:Aside0 (Kd.C k36 (wc.alloc (.map #[] 0)) B4 o4.length o4∧o4.length≤b4):=⟨Kd.C_below (Kd.V_reads' HW4.out).2.2 (below_alloc (Below.refl _ _) _),(Kd.V_reads' HW4.out).2.1⟩
 have HC5:Aside0 (Kd.C k38 (wc.alloc (.map #[] 0)) B5 o5.length o5∧o5.length≤b5):=⟨Kd.C_below (Kd.V_reads' HW5.out).2.2 (below_alloc (Below.refl _ _) _),(Kd.V_reads' HW5.out).2.1⟩
 have HC6:Aside0 (Kd.C k40 (wc.alloc (.map #[] 0)) B6 o6.length o6∧o6.length≤b6):=⟨Kd.C_below (Kd.V_reads' HW6.out).2.2 (below_alloc (Below.refl _ _) _),(Kd.V_reads' HW6.out).2.1⟩
 have HBM:Aside0 (w.heap.size < wc.heap.size):=⟨blk_lt H3.out⟩
 go_upto_region 3 with (fail)
 generalize wc.alloc (.map #[] 0)=wm at HM0 H4 HB4 HC2 HC3 HC4 HC5 HC6 ⊢
 generalize wc.heap.size=bm at HM0 HBM ⊢
 clear HB3 H3 HW2 HW3 HW4 HW5 HW6 e0 e1 e2 e3 e4 e5 e6
 have e0:=(blk_cell H4.out 0).trans (show (#[.int .i64 n,.int .i64 g,.slice B2 o2.length b2,.slice B3 o3.length b3,.slice B4 o4.length b4,.slice B5 o5.length b5,.slice B6 o6.length b6]:Array Value)[0]? = some (.int .i64 n) from rfl)
 have e1:=(blk_cell H4.out 1).trans (show (#[.int .i64 n,.int .i64 g,.slice B2 o2.length b2,.slice B3 o3.length b3,.slice B4 o4.length b4,.slice B5 o5.length b5,.slice B6 o6.length b6]:Array Value)[1]? = some (.int .i64 g) from rfl)
 have e2:=(blk_cell H4.out 2).trans (show (#[.int .i64 n,.int .i64 g,.slice B2 o2.length b2,.slice B3 o3.length b3,.slice B4 o4.length b4,.slice B5 o5.length b5,.slice B6 o6.length b6]:Array Value)[2]? = some (.slice B2 o2.length b2) from rfl)
 have e3:=(blk_cell H4.out 3).trans (show (#[.int .i64 n,.int .i64 g,.slice B2 o2.length b2,.slice B3 o3.length b3,.slice B4 o4.length b4,.slice B5 o5.length b5,.slice B6 o6.length b6]:Array Value)[3]? = some (.slice B3 o3.length b3) from rfl)
 have e4:=(blk_cell H4.out 4).trans (show (#[.int .i64 n,.int .i64 g,.slice B2 o2.length b2,.slice B3 o3.length b3,.slice B4 o4.length b4,.slice B5 o5.length b5,.slice B6 o6.length b6]:Array Value)[4]? = some (.slice B4 o4.length b4) from rfl)
 have e5:=(blk_cell H4.out 5).trans (show (#[.int .i64 n,.int .i64 g,.slice B2 o2.length b2,.slice B3 o3.length b3,.slice B4 o4.length b4,.slice B5 o5.length b5,.slice B6 o6.length b6]:Array Value)[5]? = some (.slice B5 o5.length b5) from rfl)
 have e6:=(blk_cell H4.out 6).trans (show (#[.int .i64 n,.int .i64 g,.slice B2 o2.length b2,.slice B3 o3.length b3,.slice B4 o4.length b4,.slice B5 o5.length b5,.slice B6 o6.length b6]:Array Value)[6]? = some (.slice B6 o6.length b6) from rfl)
 go_wp2_with fail
 refine(auto_ways.calls _ n g B2 b2 o2 B3 b3 o3 B4 b4 o4 B5 b5 o5 B6 b6 o6 (waysL o4 o5 o6) _ HC2.out.1 HC2.out.2 HC3.out.1 HC3.out.2 HC4.out.1 HC4.out.2 HC5.out.1 HC5.out.2 HC6.out.1 HC6.out.2 (ways_f n g o2 o3 o4 o5 o6 HLo4.out HLo5.out HLo6.out)).mono ?_
 rintro e w2 ⟨vw,rfl,hw2,hb2⟩
 obtain⟨Aw,cw,rfl⟩:=Kd.R_slice hw2
 have HB5:=Aside0.mk (below_then HB4.out HB4.out.size hb2)
 have H5:=Aside0.mk (blk_below H4.out hb2)
 have HM5:Aside0 (MapIs eWay (Value.int .i64) w2 bm ([]:List (TWay × Int))):=⟨HM0.out.below hb2 HM0.out.lt⟩
 have HR5:=Aside0.mk (Kd.R_mono (Kd.R_bound hw2) (fun k hk=>(hk.2.1:wm.heap.size≤k)))
 have HBL:Aside0 (bm < wm.heap.size):=⟨HM0.out.lt⟩
 have HWL:(waysL o4 o5 o6).length≤3000000000:=by unfold waysL;simp only [List.length_append,List.length_map];have:=HLo4.out;have:=HLo5.out;have:=HLo6.out;omega
 generalize waysL o4 o5 o6=ws at HRV2 HR5 HWL ⊢
 have HWS:=Aside0.mk HWL
 have mL:(ws.length:Int)≤3000000000:=by omega
 have HBW2:Aside0 (wm.heap.size≤w2.heap.size):=⟨hb2.size⟩
 clear hb2 hw2 HWL HB4 H4 HM0 e0 e1 e2 e3 e4 e5 e6 HC2 HC3 HC4 HC5 HC6
 go_wp2
 go_loopg [17] ws.length (fun gq v17 w'=>∃i:Nat,v17=.int .i64 (i:Int)∧Aside0 (i≤ws.length∧ws.length - i≤gq)∧Aside0 (MapIs eWay (Value.int .i64) w' bm (cntM (ws.take i)))∧Aside0 (w2.grownBy w' (some bm)))
 case atStart=>exact⟨0,rfl,⟨by omega,by omega⟩,HM5,⟨gb_refl _ _⟩⟩
 case' round=>skip
 obtain⟨i,rfl,Hi,HM,HG⟩:=hrel
 obtain⟨wo,rfl⟩:∃wo:World,wo=wr:=⟨_,rfl⟩
 obtain⟨m,hm⟩:∃m:List (TWay × Int),m=cntM (ws.take i):=⟨_,rfl⟩
 rw [←hm] at HM
 have HMM:=Aside0.mk hm
 clear hm
 by_cases hlt:i < ws.length
 ·skip
  have HLT:=Aside0.mk hlt
  obtain⟨ad,eA,k0,k1,k2⟩:=at_T72 (Kd.R_reads' (Kd.R_grown HR5.out HG.out (fun k hk e=>by have e2:k=bm:=(by simpa using e);have:=HBL.out;omega))).2.2 (i:Int) (by omega) (by omega)
  have hrd:rd_T72 ws (i:Int)=ws[i]:=by unfold rd_T72;rw [Int.toNat_natCast,List.getD_eq_getElem?_getD,List.getElem?_eq_getElem hlt];rfl
  rw [hrd,Int.toNat_natCast] at k0 k1 k2
  clear hrd
  have hxt:ws.take (i+1)=ws.take i ++ [ws[i]]:=by rw [List.take_add_one,List.getElem?_eq_getElem hlt];rfl
  generalize hx:ws[i]=x at hxt k0 k1 k2
  obtain⟨x0,x1,x2⟩:=x
  have HXT:=Aside0.mk hxt
  have HXI:Aside0 (ws[i]? = some ⟨x0,x1,x2⟩):=⟨by rw [List.getElem?_eq_getElem hlt,hx]⟩
  have t1:=eq_true hlt
  have t2:=eq_true (show (0:Int)≤(i:Int) by omega)
  have t3:=eq_true (show (i:Int) < (ws.length:Int) by omega)
  subst eA
  clear hlt hx hxt
  have HX1:Aside0 ((wo.alloc (.cells #[.int .i64 x0,.int .i64 x1,.int .i64 x2] 72)).heap[wo.heap.size]? = some (.cells #[.int .i64 x0,.int .i64 x1,.int .i64 x2] 72 (0,0))):=⟨blk_newAt _ rfl⟩
  have HM1:=Aside0.mk (HM.out.alloc (.cells #[.int .i64 x0,.int .i64 x1,.int .i64 x2] 72))
  have HG1:=Aside0.mk (gb_alloc HG.out (.cells #[.int .i64 x0,.int .i64 x1,.int .i64 x2] 72))
  have HNB:Aside0 (some wo.heap.size≠some bm):=⟨nes (by have:=HM.out.lt;omega)⟩
  go_upto_region 6 with (fail)
  generalize wo.alloc (.cells #[.int .i64 x0,.int .i64 x1,.int .i64 x2] 72)=wv at HX1 HM1 HG1 ⊢
  generalize wo.heap.size=vb at HX1 HNB ⊢
  clear t1 t2 t3 k0 k1 k2 HM HG
  obtain⟨cn,hcn⟩:∃cn:Int,cn=(asc m ⟨x0,x1,x2⟩).getD 0:=⟨_,rfl⟩
  have HCN:=Aside0.mk hcn
  clear hcn
  refine start_ (n:=7) (S:=fun w'=>w'.cell? ⟨vb,0,none⟩=some (.int .i64 x0)∧w'.cell? ⟨vb,1,none⟩=some (.int .i64 x1)∧w'.cell? ⟨vb,2,none⟩=some (.int .i64 x2)∧(Instr.lookup 68 (.map (some bm)) (.agg #[.int .i64 x0,.int .i64 x1,.int .i64 x2]) false).run Tryz.prog w' = .ok (.int .i64 cn) w') (ds:=[6]) #[false,false,false,false,false,false,false] (by kernel_rfl) rfl rfl ⟨(blk_cell HX1.out 0).trans rfl,(blk_cell HX1.out 1).trans rfl,(blk_cell HX1.out 2).trans rfl,by rw [HCN.out];exact(HM1.out.move (w':=wv.drew) rfl).looked keyWay Tryz.underlying68 ⟨x0,x1,x2⟩ 0 (Tryz.zeroValue3 _)⟩ (fun hHeld=>?_)
  have HXd:=Aside0.mk (blk_drew HX1.out)
  have HMd:Aside0 (MapIs eWay (Value.int .i64) wv.drew bm m):=⟨HM1.out.move rfl⟩
  have HGd:Aside0 (w2.grownBy wv.drew (some bm)):=⟨gb_drew HG1.out⟩
  have HVd:Aside0 (vb < wv.drew.heap.size):=⟨blk_lt HXd.out⟩
  clear HX1 HM1 HG1
  generalize wv.drew=wd at HXd HMd HGd HVd hHeld ⊢
  refine pure_ (i:=0) (N:=(some 21)) (v:=?_) (a':=?_) #[true,false,false,false,false,false,false] rfl rfl (by kernel_rfl) (fun _ _ _ h=>h) (Or.inl ⟨by rfl,?_⟩) ?_ ?_
  rotate_left
  ·intro w'
   go_simp
   with_reducible rfl
  rotate_left
  ·simp only [Act.put, M.sq3, i64_w, i32_w]
   rfl
  refine take_ (i:=1) (N:=(some 22)) (v:=?_) (a':=?_) #[true,true,false,false,false,false,false] rfl rfl (by kernel_rfl) (fun _ _ _ h=>h) (Or.inl ⟨by rfl,?_⟩) hHeld ?_ ?_
  rotate_left
  ·intro w' hS_
   obtain⟨s0,s1,s2,s3⟩:=hS_
   go_simp
   with_reducible rfl
  rotate_left
  ·simp only [Act.put, M.sq3, i64_w, i32_w]
   rfl
  refine take_ (i:=2) (N:=(some 23)) (v:=?_) (a':=?_) #[true,true,true,false,false,false,false] rfl rfl (by kernel_rfl) (fun _ _ _ h=>h) (Or.inl ⟨by rfl,?_⟩) hHeld ?_ ?_
  rotate_left
  ·intro w' hS_
   obtain⟨s0,s1,s2,s3⟩:=hS_
   go_simp
   with_reducible rfl
  rotate_left
  ·simp only [Act.put, M.sq3, i64_w, i32_w]
   rfl
  refine pure_ (i:=3) (N:=(some 24)) (v:=?_) (a':=?_) #[true,true,true,true,false,false,false] rfl rfl (by kernel_rfl) (fun _ _ _ h=>h) (Or.inl ⟨by rfl,?_⟩) ?_ ?_
  rotate_left
  ·intro w'
   go_simp
   with_reducible rfl
  rotate_left
  ·simp only [Act.put, M.sq3, i64_w, i32_w]
   rfl
  refine one_ (i:=4) (N:=(some 25)) #[true,true,true,true,true,false,false] rfl rfl (by kernel_rfl) (by decide) (fun K hK=>?_)
  refine step_entry (eK:=eWay) (eV:=Value.int .i64) rfl (.tmp 21) (.tmp 22) 68 rfl _ _ Tryz.underlying68 keyWay bm rfl HMd.out ⟨x0,x1,x2⟩ rfl 0 (fun u=>Tryz.zeroValue3 u) ?_
  intro st w3 hg3 hm3 hst
  have HX3:=Aside0.mk (blk_grown HXd.out hg3 HNB.out)
  have HST:=Aside0.mk (hst (wrap64 (cn+1)))
  obtain⟨m1,hm1,hc1⟩:=hm3
  have HL3:Aside0 ((Instr.lookup 68 (.map (some bm)) (.agg #[.int .i64 x0,.int .i64 x1,.int .i64 x2]) false).run Tryz.prog w3=.ok (.int .i64 cn) w3):=⟨by rw [HCN.out,←hc1];exact hm1.looked keyWay Tryz.underlying68 ⟨x0,x1,x2⟩ 0 (Tryz.zeroValue3 _)⟩
  clear hg3 hst hm1 hc1
  refine hK.out _ _ ⟨(blk_cell HX3.out 0).trans rfl,(blk_cell HX3.out 1).trans rfl,(blk_cell HX3.out 2).trans rfl,HL3.out⟩ (fun hHeld=>?_)
  clear hK K
  refine norm_ (a':=?_) ?_ ?_
  rotate_left
  ·show Act.put _ (some 25) _ = _
   simp only [Act.put,M.sq3,i64_w,i32_w]
   rfl
  refine pure_ (i:=5) (N:=(some 26)) (v:=?_) (a':=?_) #[true,true,true,true,true,true,false] rfl rfl (by kernel_rfl) (fun _ _ _ h=>h) (Or.inl ⟨by rfl,?_⟩) ?_ ?_
  rotate_left
  ·intro w'
   go_simp
   with_reducible rfl
  rotate_left
  ·simp only [Act.put, M.sq3, i64_w, i32_w]
   rfl
  refine last_ (i:=6) (N:=none) #[true,true,true,true,true,true,true] rfl rfl (by kernel_rfl) (by decide) (fun K hK=>?_)
  obtain⟨w4,hrun4,hm4,hg4⟩:=HST.out
  have HX4:=Aside0.mk (blk_grown HXd.out hg4 HNB.out)
  have HM4:=Aside0.mk hm4
  have HG4:=Aside0.mk (gb_trans HGd.out hg4)
  clear hm4 hg4 HST HX3 HXd HMd HGd HL3
  refine Go.Proofs.YtejpijgfpbcibaaGreat.M.step_skip (w1:=w4) rfl rfl (run_storeOp (.tmp 21) (.tmp 26) (.tmp 24) rfl (.map (some bm)) rfl rfl rfl hrun4) ?_
  clear hrun4
  refine hK.out _ _ ?_
  clear hK K
  refine done_ (by kernel_rfl) ?_
  have HMN:Aside0 (putM m ⟨x0,x1,x2⟩ (wrap64 (cn+1))=cntM (ws.take (i+1))):=⟨by rw [HXT.out,cntM_snoc,←HMM.out,←HCN.out]⟩
  go_wp2
  go_roundg (ws.length - (i+1))
  case measure=>have:=Hi.out;have:=HLT.out;omega
  case rel=>exact⟨i+1,by rw [show wrap64 ((i:Int)+1)=((i+1:Nat):Int) by have:=HLT.out;have:=HWS.out;unfold wrap64;omega],⟨HLT.out,Nat.le_refl _⟩,⟨by rw [←HMN.out];exact HM4.out⟩,HG4⟩
 have HCT : Aside0 (m = cntM ws) := ⟨by rw [HMM.out, List.take_of_length_le (by omega)]⟩
 have t1:=eq_false hlt
 have HBx:=Aside0.mk (below_gb HB5.out HG.out (by rintro k ⟨rfl⟩;have:=HBM.out;omega))
 have Hbb:=Aside0.mk (blk_grown H5.out HG.out (nes (by have:=HBM.out;omega)))
 clear hlt H5 HG HB5 HMM
 go_wp2
 clear t1 Hi
 have ml0:(l0.length:Int)≤1000000000:=by have:=HI0.out.2;omega
 go_loopg [8,30] l0.length (fun gq v8 v30 w'=>∃i:Nat,v30=.int .i64 (i:Int)∧v8=.int .i64 (wantW (l0.take i) g)∧Aside0 (i≤l0.length∧l0.length - i≤gq)∧Aside0 (Below wo.heap.size wo w'))
 case atStart=>exact⟨0,rfl,rfl,⟨by omega,by omega⟩,⟨Below.refl _ _⟩⟩
 case' round=>skip
 obtain⟨i,rfl,rfl,Hi,HG⟩:=hrel
 obtain⟨wp,rfl⟩:∃wp:World,wp=wr:=⟨_,rfl⟩
 have HBy:=Aside0.mk (below_then HBx.out HBx.out.size HG.out)
 have Hby:=Aside0.mk (blk_below Hbb.out HG.out)
 by_cases hlt:i < l0.length
 ·have HLT := Aside0.mk hlt
  obtain⟨ad,eA,k0,k1⟩:=at_T51 (Kd.C_below HI0.out.1 HBy.out) (i:Int) (by omega) (by omega)
  have hrd:rd_T51 l0 (i:Int)=l0[i]:=by unfold rd_T51;rw [Int.toNat_natCast,List.getD_eq_getElem?_getD,List.getElem?_eq_getElem hlt];rfl
  rw [hrd,Int.toNat_natCast] at k0 k1
  clear hrd
  have hxt:wantW (l0.take (i+1)) g=wrap64 ((if (l0[i]).f1=2 then wrap64 (wantW (l0.take i) g+g) else wantW (l0.take i) g)+1):=by rw [List.take_add_one,List.getElem?_eq_getElem hlt,←wantW_snoc];rfl
  generalize l0[i]=x at hxt k0 k1
  obtain⟨x0,x1⟩:=x
  have HXT:=Aside0.mk hxt
  clear hxt
  generalize wantW (l0.take i) g=acc at HXT ⊢
  have t1:=eq_true hlt
  have t2:=eq_true (show (0:Int)≤(i:Int) by omega)
  have t3:=eq_true (show (i:Int) < (l0.length:Int) by omega)
  subst eA
  clear hlt
  have HX1:Aside0 ((wp.alloc (.cells #[.string x0,.int .i64 x1] 51)).heap[wp.heap.size]? = some (.cells #[.string x0,.int .i64 x1] 51 (0,0))):=⟨blk_newAt _ rfl⟩
  have HX2:=Aside0.mk (blk_old Hby.out (.cells #[.string x0,.int .i64 x1] 51))
  have HG2:Aside0 (Below wo.heap.size wo (wp.alloc (.cells #[.string x0,.int .i64 x1] 51))):=⟨below_alloc HG.out _⟩
  have y1:=(blk_cell HX1.out 1).trans (show (#[.string x0,.int .i64 x1]:Array Value)[1]? = some (.int .i64 x1) from rfl)
  have y2:=(blk_cell HX2.out 1).trans (show (#[.int .i64 n,.int .i64 g,.slice B2 o2.length b2,.slice B3 o3.length b3,.slice B4 o4.length b4,.slice B5 o5.length b5,.slice B6 o6.length b6]:Array Value)[1]? = some (.int .i64 g) from rfl)
  by_cases hk:x1=2
  ·have HXN : Aside0 (wantW (l0.take (i + 1)) g = wrap64 (wrap64 (acc + g) + 1)) := ⟨by rw [HXT.out]; exact congrArg (fun z : Int => wrap64 (z + 1)) (if_pos hk)⟩
   have u1:=eq_true hk
   have u2:=decide_eq_true hk
   have u3:(x1 == 2)=true:=beq_iff_eq.2 hk
   clear hk
   go_wp2
   go_roundg (l0.length - (i+1))
   case measure=>have:=Hi.out;have:=HLT.out;omega
   case rel=>exact⟨i+1,by rw [show wrap64 ((i:Int)+1)=((i+1:Nat):Int) by have:=HLT.out;have:=HI0.out.2;unfold wrap64;omega],by rw [HXN.out],⟨HLT.out,Nat.le_refl _⟩,HG2⟩
  have HXN : Aside0 (wantW (l0.take (i + 1)) g = wrap64 (acc + 1)) := ⟨by rw [HXT.out]; exact congrArg (fun z : Int => wrap64 (z + 1)) (if_neg hk)⟩
  have u1:=eq_false hk
  have u2:=decide_eq_false hk
  have u3:(x1 == 2)=false:=beq_eq_false_iff_ne.2 hk
  clear hk
  go_wp2
  go_roundg (l0.length - (i+1))
  case measure=>have:=Hi.out;have:=HLT.out;omega
  case rel=>exact⟨i+1,by rw [show wrap64 ((i:Int)+1)=((i+1:Nat):Int) by have:=HLT.out;have:=HI0.out.2;unfold wrap64;omega],by rw [HXN.out],⟨HLT.out,Nat.le_refl _⟩,HG2⟩
 skip
 have t1:=eq_false hlt
 have e0:l0.take i=l0:=List.take_of_length_le (by omega)
 rw [e0]
 clear hlt e0
 obtain⟨es,ck,hes,hlen⟩:∃es ck,wp.heap[bm]? = some (.map es ck)∧es.size=m.length:=by
  obtain⟨es,ck,h1,h2,_⟩:=HM.out
  refine⟨es,ck,(HG.out.block bm (blk_lt h1)).trans h1,?_⟩
  have:=congrArg List.length h2
  simpa using this
 have hml:=Go.run_len_map (P:=Tryz.prog) (w:=wp) 68 3 bm es ck Tryz.underlying68 hes
 rw [hlen] at hml
 have y0:=(blk_cell Hby.out 0).trans (show (#[.int .i64 n,.int .i64 g,.slice B2 o2.length b2,.slice B3 o3.length b3,.slice B4 o4.length b4,.slice B5 o5.length b5,.slice B6 o6.length b6]:Array Value)[0]? = some (.int .i64 n) from rfl)
 have y2:=(blk_cell Hby.out 2).trans (show (#[.int .i64 n,.int .i64 g,.slice B2 o2.length b2,.slice B3 o3.length b3,.slice B4 o4.length b4,.slice B5 o5.length b5,.slice B6 o6.length b6]:Array Value)[2]? = some (.slice B2 o2.length b2) from rfl)
 have HRV3:Aside0 (rv=(decide (0 < o2.length) && decide ((m.length:Int)=wrap64 (wantW l0 g*n)))):=⟨by rw [HRV2.out,HCT.out];rfl⟩
 generalize wantW l0 g=wt at HRV3 ⊢
 clear hes hlen hmm
 by_cases hz:0 < (o2.length:Int)
 ·have HZ : Aside0 (((m.length : Int) == wrap64 (wt * n)) = rv) := ⟨by rw [HRV3.out, decide_eq_true (show 0 < o2.length by omega), Bool.true_and]; rfl⟩
  obtain⟨L2,hL2⟩:∃L2,L2=o2.length:=⟨_,rfl⟩
  rw [←hL2] at hz y2 ⊢
  have z1:=eq_true hz
  have z2:=decide_eq_true hz
  have z3:=eq_true (show 0 < L2 by omega)
  clear hz hL2 HRV3
  go_wp2
  go_ret
  exact⟨congrArg Value.bool HZ.out |> congrArg Ending.returned,HBy.out⟩
 have HZ : Aside0 (rv = false) := ⟨by rw [HRV3.out, decide_eq_false (show ¬ 0 < o2.length by omega), Bool.false_and]⟩
 obtain⟨L2,hL2⟩:∃L2,L2=o2.length:=⟨_,rfl⟩
 rw [←hL2] at hz y2 ⊢
 have z1:=eq_false hz
 have z2:=decide_eq_false hz
 have z3:=eq_false (show ¬0 < L2 by omega)
 clear hz hL2 HRV3
 go_wp2
 go_ret
 exact⟨by rw [HZ.out];rfl,HBy.out⟩
def auto_Whole.f (l0:List S51) (a1_0 a1_1:Int) (l1_2 l1_3:List Int) (l1_4:List TOpen) (l1_5:List TClose) (l1_6:List TInner):Option Bool:=
 if l0.length≤1000000000∧l1_2.length≤1000000000∧l1_3.length≤1000000000∧l1_4.length≤1000000000∧l1_5.length≤1000000000∧l1_6.length≤1000000000 then some (wholeB l0 a1_0 a1_1 (onceC cmpInt l1_2) (waysL (onceC cmpOpen l1_4) (onceC cmpClose l1_5) (onceC cmpInner l1_6))) else none
theorem auto_Whole.calls (A0:Option Addr) (c0:Nat) (l0:List S51) (a1_0 a1_1:Int) (A1_2:Option Addr) (c1_2:Nat) (l1_2:List Int) (A1_3:Option Addr) (c1_3:Nat) (l1_3:List Int) (A1_4:Option Addr) (c1_4:Nat) (l1_4:List TOpen) (A1_5:Option Addr) (c1_5:Nat) (l1_5:List TClose) (A1_6:Option Addr) (c1_6:Nat) (l1_6:List TInner) (r:Bool) (w:World) (hr0:Kd.C k51 w A0 l0.length l0) (hc0:l0.length≤c0) (hr1_2:Kd.C (Kd.int .i64) w A1_2 l1_2.length l1_2) (hc1_2:l1_2.length≤c1_2) (hr1_3:Kd.C (Kd.int .i64) w A1_3 l1_3.length l1_3) (hc1_3:l1_3.length≤c1_3) (hr1_4:Kd.C k36 w A1_4 l1_4.length l1_4) (hc1_4:l1_4.length≤c1_4) (hr1_5:Kd.C k38 w A1_5 l1_5.length l1_5) (hc1_5:l1_5.length≤c1_5) (hr1_6:Kd.C k40 w A1_6 l1_6.length l1_6) (hc1_6:l1_6.length≤c1_6) (h:auto_Whole.f l0 a1_0 a1_1 l1_2 l1_3 l1_4 l1_5 l1_6=some r) :
 Calls Tryz.prog 21 #[.slice A0 l0.length c0,.agg #[.int .i64 a1_0,.int .i64 a1_1,.slice A1_2 l1_2.length c1_2,.slice A1_3 l1_3.length c1_3,.slice A1_4 l1_4.length c1_4,.slice A1_5 l1_5.length c1_5,.slice A1_6 l1_6.length c1_6]] w fun e w'=>e=.returned (.bool r)∧Below w.heap.size w w':=by
 unfold auto_Whole.f at h
 split at h
 case isFalse=>cases h
 rename_i hl
 obtain⟨q0,q2,q3,q4,q5,q6⟩:=hl
 obtain rfl:=Option.some.inj h
 exact whole_own A0 c0 l0 a1_0 a1_1 A1_2 c1_2 l1_2 A1_3 c1_3 l1_3 A1_4 c1_4 l1_4 A1_5 c1_5 l1_5 A1_6 c1_6 l1_6 w hr0 q0 hr1_2 hc1_2 q2 hr1_3 hc1_3 q3 hr1_4 hc1_4 q4 hr1_5 hc1_5 q5 hr1_6 hc1_6 q6
end Go.Proofs.YtejpijgfpbcibaaGreat.P
