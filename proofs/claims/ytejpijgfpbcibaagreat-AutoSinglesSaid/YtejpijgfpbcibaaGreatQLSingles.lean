/- Words and walks of this claim: LSingles. -/
import Derived.Test.YtejpijgfpbcibaaGreatQMFar
import Derived.Test.YtejpijgfpbcibaaGreatQSKnown3
import Derived.Test.YtejpijgfpbcibaaGreatQUTrimEtc
import Derived.Test.YtejpijgfpbcibaaGreatQP0Etc
import Derived.Deep.CutBlock
set_option linter.unusedVariables false
set_option linter.unusedSimpArgs false
set_option linter.unnecessarySimpa false
namespace Go.Proofs.YtejpijgfpbcibaaGreat.P
open Go.RowKit Go.Sort Go.Shelf Go.Proofs.YtejpijgfpbcibaaGreatW.PrintWords Go.Proofs.YtejpijgfpbcibaaGreatW.PrintLast Go.Proofs.YtejpijgfpbcibaaGreatW.PrintMore Go.Proofs.YtejpijgfpbcibaaGreat.M
def oA (p:Int):List TOpen:=[⟨p,0,0,1⟩,⟨p,0,0,1⟩]
def cA (p:Int):List TClose:=[⟨p,1,0,0⟩,⟨p,1,1,1⟩,⟨p,1,1,1⟩]
def iA (p:Int):List TInner:=[⟨p,2,1⟩,⟨p,2,1⟩]
def oB (p:Int):List TOpen:=⟨p,0,0,2⟩ :: oA p
def cB (p:Int):List TClose:=⟨p,1,0,1⟩ :: cA p
def iB (p:Int):List TInner:=⟨p,2,0⟩ :: iA p
structure KA (w wq:World) (AS:Option Addr) (ga:Nat) (N p:Int) (p2 p4 p5 p6:Nat):Prop where
 b:Below w.heap.size w wq
 s:Kd.C k51 wq AS 3 S7
 h2:Kd.C (Kd.int .i64) wq (some ⟨p2,0,none⟩) 2 [0,0]
 h4:Kd.C k36 wq (some ⟨p4,0,none⟩) 2 (oA p)
 h5:Kd.C k38 wq (some ⟨p5,0,none⟩) 3 (cA p)
 h6:Kd.C k40 wq (some ⟨p6,0,none⟩) 2 (iA p)
 a:wq.heap[ga]? = some (.cells #[.int .i64 N,.int .i64 2,.slice (some ⟨p2,0,none⟩) 2 2,.slice none 0 0,.slice (some ⟨p4,0,none⟩) 2 2,.slice (some ⟨p5,0,none⟩) 3 3,.slice (some ⟨p6,0,none⟩) 2 2] 30 (0,0))
theorem KA.below {w wq w' : World} {AS:Option Addr} {ga:Nat} {N p:Int} {p2 p4 p5 p6:Nat} (h:KA w wq AS ga N p p2 p4 p5 p6) (hb:Below wq.heap.size wq w'):KA w w' AS ga N p p2 p4 p5 p6:=
 ⟨below_then h.b h.b.size hb,Kd.C_below h.s hb,Kd.C_below h.h2 hb,Kd.C_below h.h4 hb,Kd.C_below h.h5 hb,Kd.C_below h.h6 hb,blk_below h.a hb⟩
theorem within_s (a n:Int) (h0:0 < n) (h1:n≤1000):∃t:Int,canopylaw3_within.f a n=some t∧0≤t∧t < n:=by
 unfold canopylaw3_within.f
 rw [if_neg (by omega)]
 have h1:=Int.tmod_lt_of_pos a h0
 have h2:=Int.lt_tmod_of_pos a h0
 split
 ·refine ⟨_, rfl, ?_⟩
  unfold wrap64
  omega
 exact⟨_,rfl,by omega⟩
def Q21.T:Bool × List (List Nat × List Nat):=(true,[([],[]),([],[]),([0,1],[0,1]),([2,2],[2]),([3],[3]),([3],[3]),([4,5,3,3],[3,4,5]),([6,3],[3,6]),([3,7],[3,7]),([8,6],[8]),([9],[9]),([10,9,9],[9,10]),([9],[9]),([12,11,9],[9,12]),([11,13,13,9],[9,11,13]),([9,14],[9,14]),([15,14,0,1,2,3,4,5,6,7,8,9,10,11,12,13,14,15],[15])])
def Q21.B:List Nat:=[0,0,3,7,15,15,63,127,255,511,1023,2047,1023,8191,16383,32767,65535]
theorem Q21.tab:rtab .any (opsOf Tryz.f8 21)=Q21.T:=by kernel_rfl
theorem Q21.bits:waitsOk Q21.T.2 Q21.B=true:=by kernel_rfl
theorem one_open (w:World) (x:TOpen):Kd.R k36 36 (w.alloc (.cells #[.int .i64 x.f0,.int .i64 x.f1,.int .i64 x.f2,.int .i64 x.f3] 36)) w.heap.size (fun _=>True) (.slice (some ⟨w.heap.size,0,none⟩) 1 1) [x]:=
 ⟨fun _ _=>trivial,[.int .i64 x.f0,.int .i64 x.f1,.int .i64 x.f2,.int .i64 x.f3],World.ownsRow_lit (base:=w.heap.size) (e:=36) (size:=4) w #[.int .i64 x.f0,.int .i64 x.f1,.int .i64 x.f2,.int .i64 x.f3] 1 (Nat.le_refl _) (by decide) rfl,Reps.c4 (show Kd.M k36 _ _ _ x _ from k36_mkM _ _ _ x) (Reps.none _ _)⟩
theorem one_close (w:World) (x:TClose):Kd.R k38 38 (w.alloc (.cells #[.int .i64 x.f0,.int .i64 x.f1,.int .i64 x.f2,.int .i64 x.f3] 38)) w.heap.size (fun _=>True) (.slice (some ⟨w.heap.size,0,none⟩) 1 1) [x]:=
 ⟨fun _ _=>trivial,[.int .i64 x.f0,.int .i64 x.f1,.int .i64 x.f2,.int .i64 x.f3],World.ownsRow_lit (base:=w.heap.size) (e:=38) (size:=4) w #[.int .i64 x.f0,.int .i64 x.f1,.int .i64 x.f2,.int .i64 x.f3] 1 (Nat.le_refl _) (by decide) rfl,Reps.c4 (show Kd.M k38 _ _ _ x _ from k38_mkM _ _ _ x) (Reps.none _ _)⟩
theorem one_inner (w:World) (x:TInner):Kd.R k40 40 (w.alloc (.cells #[.int .i64 x.f0,.int .i64 x.f1,.int .i64 x.f2] 40)) w.heap.size (fun _=>True) (.slice (some ⟨w.heap.size,0,none⟩) 1 1) [x]:=
 ⟨fun _ _=>trivial,[.int .i64 x.f0,.int .i64 x.f1,.int .i64 x.f2],World.ownsRow_lit (base:=w.heap.size) (e:=40) (size:=3) w #[.int .i64 x.f0,.int .i64 x.f1,.int .i64 x.f2] 1 (Nat.le_refl _) (by decide) rfl,Reps.c3 (show Kd.M k40 _ _ _ x _ from k40_mkM _ _ _ x) (Reps.none _ _)⟩
structure KB (w wq:World) (AS:Option Addr) (cS ga gb:Nat) (N p:Int) (p2 p4 p5 p6:Nat):Prop where
 b:Below w.heap.size w wq
 s:∃(B:Nat) (ok:Nat→Prop),Kd.R k51 51 wq B ok (.slice AS 3 cS) S7
 h2:wq.heap[p2]? = some (.cells #[.int .i64 0,.int .i64 0] 3 (0,0))
 h4:wq.heap[p4]? = some (.cells #[.int .i64 p,.int .i64 0,.int .i64 0,.int .i64 1,.int .i64 p,.int .i64 0,.int .i64 0,.int .i64 1] 36 (0,0))
 h5:wq.heap[p5]? = some (.cells #[.int .i64 p,.int .i64 1,.int .i64 0,.int .i64 0,.int .i64 p,.int .i64 1,.int .i64 1,.int .i64 1,.int .i64 p,.int .i64 1,.int .i64 1,.int .i64 1] 38 (0,0))
 h6:wq.heap[p6]? = some (.cells #[.int .i64 p,.int .i64 2,.int .i64 1,.int .i64 p,.int .i64 2,.int .i64 1] 40 (0,0))
 a:wq.heap[ga]? = some (.cells #[.int .i64 N,.int .i64 2,.slice (some ⟨p2,0,none⟩) 2 2,.slice none 0 0,.slice (some ⟨p4,0,none⟩) 2 2,.slice (some ⟨p5,0,none⟩) 3 3,.slice (some ⟨p6,0,none⟩) 2 2] 30 (0,0))
 hg:w.heap.size≤gb
 ng:ga≠gb
section
variable {w wq w' : World} {AS : Option Addr} {cS ga gb : Nat} {N p : Int} {p2 p4 p5 p6 : Nat}
theorem KB.below (h:KB w wq AS cS ga gb N p p2 p4 p5 p6) (hb:Below wq.heap.size wq w'):KB w w' AS cS ga gb N p p2 p4 p5 p6:=
 ⟨below_then h.b h.b.size hb,(let ⟨B,ok,h1⟩:=h.s;⟨B,ok,Kd.R_below h1 hb⟩),blk_below h.h2 hb,blk_below h.h4 hb,blk_below h.h5 hb,blk_below h.h6 hb,blk_below h.a hb,h.hg,h.ng⟩
theorem KB.set (h:KB w wq AS cS ga gb N p p2 p4 p5 p6) {cs:Array Value} (hG:wq.heap[gb]? = some (.cells cs 30 (0,0))) (q:Nat) (u:Value):KB w (wq.setCell ⟨gb,q,none⟩ u) AS cS ga gb N p p2 p4 p5 p6:=by
 have ne:∀{x t:Nat} {ds:Array Value},wq.heap[x]? = some (.cells ds t (0,0))→t≠30→x≠gb:=fun h1 h2 e=>by
  rw [e,hG] at h1
  cases h1
  exact h2 rfl
 exact⟨h.b.setCell h.hg _,(let ⟨B,ok,h1⟩:=h.s;⟨B,_,Kd.R_far (p:=⟨gb,q,none⟩) (Kd.R_types h1 hG (by decide)) (fun _ hk=>hk.2) u⟩),blk_far h.h2 (ne h.h2 (by decide)) _,blk_far h.h4 (ne h.h4 (by decide)) _,blk_far h.h5 (ne h.h5 (by decide)) _,blk_far h.h6 (ne h.h6 (by decide)) _,blk_far h.a h.ng _,h.hg,h.ng⟩
theorem KB.ka (h:KB w wq AS cS ga gb N p p2 p4 p5 p6):KA w wq AS ga N p p2 p4 p5 p6:=
 ⟨h.b,(let ⟨B,ok,h1⟩:=h.s;(Kd.R_reads' h1).2.2),reads_laid (t:=3) (fun x=>[Value.int .i64 x]) [0,0] (fun _ _=>rfl) (by simp) h.h2,
  reads_laid (t:=36) (fun x:TOpen=>[Value.int .i64 x.f0,Value.int .i64 x.f1,Value.int .i64 x.f2,Value.int .i64 x.f3]) (oA p) (fun w x=>k36_mk w x) (by simp [oA]) h.h4,
  reads_laid (t:=38) (fun x:TClose=>[Value.int .i64 x.f0,Value.int .i64 x.f1,Value.int .i64 x.f2,Value.int .i64 x.f3]) (cA p) (fun w x=>k38_mk w x) (by simp [cA]) h.h5,
  reads_laid (t:=40) (fun x:TInner=>[Value.int .i64 x.f0,Value.int .i64 x.f1,Value.int .i64 x.f2]) (iA p) (fun w x=>k40_mk w x) (by simp [iA]) h.h6,h.a⟩
end
theorem same_self (n g:Int) (r2 r3:List Int) (r4:List TOpen) (r5:List TClose) (r6:List TInner) (h:r2.length≤1000000000∧r3.length≤1000000000∧r4.length≤1000000000∧r5.length≤1000000000∧r6.length≤1000000000):canopyref3_Same.f n g r2 r3 r4 r5 r6 n g r2 r3 r4 r5 r6=some true:=by
 unfold canopyref3_Same.f
 rw [if_pos ⟨h.1,h.2.1,h.2.2.1,h.2.2.2.1,h.2.2.2.2,h.1,h.2.1,h.2.2.1,h.2.2.2.1,h.2.2.2.2⟩]
 rw [sameL_refl (fun x=>by simp [eqOpen]) r4,sameL_refl (fun x=>by simp [eqClose]) r5,sameL_refl (fun x=>by simp [eqInner]) r6]
 simp
theorem single_HSN {N p:Int} (h1:2≤N) (h2:N≤4) (h3:0≤p) (h4:p < N):auto_Single.f S7 N 2 [0,0] [] (oA p) (cA p) (iA p)=some true:=by
 obtain rfl|rfl|rfl:N=2∨N=3∨N=4:=by omega
 ·obtain rfl | rfl : p = 0 ∨ p = 1 := by omega
  all_goals (clear h1 h2 h3 h4;kernel_rfl)
 ·obtain rfl | rfl | rfl : p = 0 ∨ p = 1 ∨ p = 2 := by omega
  all_goals (clear h1 h2 h3 h4;kernel_rfl)
 obtain rfl | rfl | rfl | rfl : p = 0 ∨ p = 1 ∨ p = 2 ∨ p = 3 := by omega
 all_goals (clear h1 h2 h3 h4;kernel_rfl)
theorem single_HS0 {N p:Int} (h1:2≤N) (h2:N≤4) (h3:0≤p) (h4:p < N):auto_Single.f S7 N 2 [0,0] [] (oB p) (cA p) (iA p)=some false:=by
 obtain rfl|rfl|rfl:N=2∨N=3∨N=4:=by omega
 ·obtain rfl | rfl : p = 0 ∨ p = 1 := by omega
  all_goals (clear h1 h2 h3 h4;kernel_rfl)
 ·obtain rfl | rfl | rfl : p = 0 ∨ p = 1 ∨ p = 2 := by omega
  all_goals (clear h1 h2 h3 h4;kernel_rfl)
 obtain rfl | rfl | rfl | rfl : p = 0 ∨ p = 1 ∨ p = 2 ∨ p = 3 := by omega
 all_goals (clear h1 h2 h3 h4;kernel_rfl)
theorem single_HS1 {N p:Int} (h1:2≤N) (h2:N≤4) (h3:0≤p) (h4:p < N):auto_Single.f S7 N 2 [0,0] [] (oA p) (cB p) (iA p)=some false:=by
 obtain rfl|rfl|rfl:N=2∨N=3∨N=4:=by omega
 ·obtain rfl | rfl : p = 0 ∨ p = 1 := by omega
  all_goals (clear h1 h2 h3 h4;kernel_rfl)
 ·obtain rfl | rfl | rfl : p = 0 ∨ p = 1 ∨ p = 2 := by omega
  all_goals (clear h1 h2 h3 h4;kernel_rfl)
 obtain rfl | rfl | rfl | rfl : p = 0 ∨ p = 1 ∨ p = 2 ∨ p = 3 := by omega
 all_goals (clear h1 h2 h3 h4;kernel_rfl)
theorem single_HS2 {N p:Int} (h1:2≤N) (h2:N≤4) (h3:0≤p) (h4:p < N):auto_Single.f S7 N 2 [0,0] [] (oA p) (cA p) (iB p)=some false:=by
 obtain rfl|rfl|rfl:N=2∨N=3∨N=4:=by omega
 ·obtain rfl | rfl : p = 0 ∨ p = 1 := by omega
  all_goals (clear h1 h2 h3 h4;kernel_rfl)
 ·obtain rfl | rfl | rfl : p = 0 ∨ p = 1 ∨ p = 2 := by omega
  all_goals (clear h1 h2 h3 h4;kernel_rfl)
 obtain rfl | rfl | rfl | rfl : p = 0 ∨ p = 1 ∨ p = 2 ∨ p = 3 := by omega
 all_goals (clear h1 h2 h3 h4;kernel_rfl)
theorem single_HS3 {N p:Int} (h1:2≤N) (h2:N≤4) (h3:0≤p) (h4:p < N):auto_Single.f S7 N 2 [0,1] [] (oA p) (cA p) (iA p)=some false:=by
 obtain rfl|rfl|rfl:N=2∨N=3∨N=4:=by omega
 ·obtain rfl | rfl : p = 0 ∨ p = 1 := by omega
  all_goals (clear h1 h2 h3 h4;kernel_rfl)
 ·obtain rfl | rfl | rfl : p = 0 ∨ p = 1 ∨ p = 2 := by omega
  all_goals (clear h1 h2 h3 h4;kernel_rfl)
 obtain rfl | rfl | rfl | rfl : p = 0 ∨ p = 1 ∨ p = 2 ∨ p = 3 := by omega
 all_goals (clear h1 h2 h3 h4;kernel_rfl)
theorem single_HS4 {N p:Int} (h1:2≤N) (h2:N≤4) (h3:0≤p) (h4:p < N):auto_Single.f S7 N 2 [] [] (oA p) (cA p) (iA p)=some false:=by
 obtain rfl|rfl|rfl:N=2∨N=3∨N=4:=by omega
 ·obtain rfl | rfl : p = 0 ∨ p = 1 := by omega
  all_goals (clear h1 h2 h3 h4;kernel_rfl)
 ·obtain rfl | rfl | rfl : p = 0 ∨ p = 1 ∨ p = 2 := by omega
  all_goals (clear h1 h2 h3 h4;kernel_rfl)
 obtain rfl | rfl | rfl | rfl : p = 0 ∨ p = 1 ∨ p = 2 ∨ p = 3 := by omega
 all_goals (clear h1 h2 h3 h4;kernel_rfl)
def canopylaw3_AutoSingles.Pure:Prop:=True
set_option maxHeartbeats 16000000 in
set_option maxRecDepth 100000 in
theorem canopylaw3_AutoSingles.walk (_:canopylaw3_AutoSingles.Pure) (a0:Int) (a1:Int) (a2:Int) (w:World) (w0:(Lit.int .i64 a0).wf=true) (w1:(Lit.int .i64 a1).wf=true) (w2:(Lit.int .i64 a2).wf=true) :
 Calls Tryz.prog 8 #[.int .i64 a0,.int .i64 a1,.int .i64 a2] w fun e w'=>e=.returned (.bool true)∧Below w.heap.size w w':=by
 clear w0 w1 w2
 obtain⟨t,ht,ht0,ht1⟩:=within_s a0 3 (by decide) (by decide)
 obtain⟨N,eN⟩:∃N:Int,N=wrap64 (2+t):=⟨_,rfl⟩
 have hN:2≤N∧N≤4:=by rw [eN];unfold wrap64;omega
 have HEN:=Aside0.mk eN
 obtain⟨p,hp,hp0,hp1⟩:=within_s a1 N (by omega) (by omega)
 obtain⟨q,hq,hq0,hq1⟩:=within_s a2 5 (by decide) (by decide)
 have HT:=Aside0.mk ht
 have HP:=Aside0.mk hp
 have HQ:=Aside0.mk hq
 have HR:Aside0 (2≤N∧N≤4∧0≤p∧p < N∧0≤q∧q < 5):=⟨by omega⟩
 clear ht hp hq ht0 ht1 hp0 hp1 hq0 hq1 hN eN
 go_enter Tryz.func8,Tryz.ntmps8
 go_wp2_with fail
 refine(canopylaw3_known.calls true _ rfl).mono ?_
 rintro e w1 ⟨rfl,hb1⟩
 go_wp2_with fail
 refine(canopylaw1_Syms.calls 0 none 0 [] S7 _ (none_row _ _) (Nat.le_refl _) syms_none).mono ?_
 rintro e w2 ⟨v1,rfl,hr1,hb2⟩
 obtain⟨AS,cS,eS,lS,gS⟩:=Kd.R_reads hr1
 replace eS:v1=.slice AS 3 cS:=eS
 subst eS
 have HS:=Aside0.mk hr1
 have LS:Aside0 (3≤cS):=⟨lS⟩
 have HB1:=Aside0.mk (below_then hb1 hb1.size hb2)
 clear hr1 hb1 hb2 gS lS
 go_wp2_with fail
 refine(canopylaw3_within.calls a0 3 t _ HT.out).mono ?_
 rintro e w3 ⟨rfl,hd3⟩
 have hb3:Below w2.heap.size w2 w3:=by obtain⟨nd,rfl⟩:=hd3;exact pw_below_drewN (Below.refl _ _) nd
 have HS3:=Aside0.mk (Kd.R_below HS.out hb3)
 have HB3:=Aside0.mk (below_then HB1.out HB1.out.size hb3)
 clear hb3 hd3 HS HB1 w2
 have eN:=HEN.out.symm
 go_wp2_with fail
 have HA:Aside0 (((w3.alloc (.cells #[.int .i64 0,.int .i64 0] 3)).alloc (.cells #[.int .i64 N,.int .i64 2,.slice (some ⟨w3.heap.size,0,none⟩) 2 2,.slice none 0 0,.slice none 0 0,.slice none 0 0,.slice none 0 0] 30)).heap[w3.heap.size+1]? = some (.cells #[.int .i64 N,.int .i64 2,.slice (some ⟨w3.heap.size,0,none⟩) 2 2,.slice none 0 0,.slice none 0 0,.slice none 0 0,.slice none 0 0] 30 (0,0))):=⟨blk_newAt _ (size_alloc _ _).symm⟩
 have H2:Aside0 (((w3.alloc (.cells #[.int .i64 0,.int .i64 0] 3)).alloc (.cells #[.int .i64 N,.int .i64 2,.slice (some ⟨w3.heap.size,0,none⟩) 2 2,.slice none 0 0,.slice none 0 0,.slice none 0 0,.slice none 0 0] 30)).heap[w3.heap.size]? = some (.cells #[.int .i64 0,.int .i64 0] 3 (0,0))):=⟨blk_old (blk_newAt _ rfl) _⟩
 have HSq:=Aside0.mk (Kd.R_alloc (Kd.R_alloc HS3.out (.cells #[.int .i64 0,.int .i64 0] 3)) (.cells #[.int .i64 N,.int .i64 2,.slice (some ⟨w3.heap.size,0,none⟩) 2 2,.slice none 0 0,.slice none 0 0,.slice none 0 0,.slice none 0 0] 30))
 have HB:Aside0 (Below w.heap.size w ((w3.alloc (.cells #[.int .i64 0,.int .i64 0] 3)).alloc (.cells #[.int .i64 N,.int .i64 2,.slice (some ⟨w3.heap.size,0,none⟩) 2 2,.slice none 0 0,.slice none 0 0,.slice none 0 0,.slice none 0 0] 30))):=⟨below_alloc (below_alloc HB3.out _) _⟩
 obtain⟨wq,hwq⟩:∃W:World,W=((w3.alloc (.cells #[.int .i64 0,.int .i64 0] 3)).alloc (.cells #[.int .i64 N,.int .i64 2,.slice (some ⟨w3.heap.size,0,none⟩) 2 2,.slice none 0 0,.slice none 0 0,.slice none 0 0,.slice none 0 0] 30)):=⟨_,rfl⟩
 obtain⟨ga,hga⟩:∃g,g=w3.heap.size+1:=⟨_,rfl⟩
 obtain⟨p2,hp2⟩:∃g,g=w3.heap.size:=⟨_,rfl⟩
 have HGA:Aside0 (w.heap.size≤ga):=⟨by have:=HB3.out.size;omega⟩
 rw [←hwq,←hga,←hp2] at HA
 rw [←hwq,←hp2] at H2
 rw [←hwq] at HSq HB ⊢
 rw [←hga,←hp2]
 clear hwq hga hp2 HS3 HB3 eN
 refine(canopylaw3_within.calls a1 N p _ HP.out).mono ?_
 rintro e w4 ⟨rfl,hd4⟩
 have hb4:Below wq.heap.size wq w4:=by obtain⟨nd,rfl⟩:=hd4;exact pw_below_drewN (Below.refl _ _) nd
 have HA1:=Aside0.mk (blk_below HA.out hb4)
 have H21:=Aside0.mk (blk_below H2.out hb4)
 have HS1:=Aside0.mk (Kd.R_below HSq.out hb4)
 have HB1:=Aside0.mk (below_then HB.out HB.out.size hb4)
 clear HA H2 HSq HB hb4 hd4
 have HA:=HA1
 have H2:=H21
 have HS:=HS1
 have HB:=HB1
 clear HA1 H21 HS1 HB1 wq w3
 obtain⟨wq,rfl⟩:∃W:World,W=w4:=⟨_,rfl⟩
 -- MARK2
 obtain⟨b0,b1,b2,b3,b4,b5,b6,b7⟩:=auto_cells HA.out
 have f_:=blk_frozen HA.out 4
 have hga:=blk_lt HA.out
 go_upto_region 7 with (fail)
 have HA1:Aside0 (((wq.setCell ⟨ga,4,none⟩ (.slice (some ⟨wq.heap.size,0,none⟩) 2 2)).alloc (.cells #[.int .i64 p,.int .i64 0,.int .i64 0,.int .i64 1,.int .i64 p,.int .i64 0,.int .i64 0,.int .i64 1] 36)).heap[ga]? = some (.cells #[(.int .i64 N),(.int .i64 2),(.slice (some ⟨p2,0,none⟩) 2 2),(.slice none 0 0),(.slice (some ⟨wq.heap.size,0,none⟩) 2 2),(.slice none 0 0),(.slice none 0 0)] 30 (0,0))):=⟨blk_old (blk_put HA.out 4 _ rfl) _⟩
 have H21:=Aside0.mk (blk_old (blk_far (p:=⟨ga,4,none⟩) H2.out (show p2≠ga from fun e=>by have h1:=H2.out;rw [e,HA.out] at h1;cases h1) (.slice (some ⟨wq.heap.size,0,none⟩) 2 2)) (.cells #[.int .i64 p,.int .i64 0,.int .i64 0,.int .i64 1,.int .i64 p,.int .i64 0,.int .i64 0,.int .i64 1] 36))
 have H41:Aside0 (((wq.setCell ⟨ga,4,none⟩ (.slice (some ⟨wq.heap.size,0,none⟩) 2 2)).alloc (.cells #[.int .i64 p,.int .i64 0,.int .i64 0,.int .i64 1,.int .i64 p,.int .i64 0,.int .i64 0,.int .i64 1] 36)).heap[wq.heap.size]? = some (.cells #[.int .i64 p,.int .i64 0,.int .i64 0,.int .i64 1,.int .i64 p,.int .i64 0,.int .i64 0,.int .i64 1] 36 (0,0))):=⟨blk_newAt _ (by simp [World.setCell]<;>rfl)⟩
 have HS1:=Aside0.mk (Kd.R_alloc (Kd.R_far (p:=⟨ga,4,none⟩) (Kd.R_types HS.out HA.out (by decide)) (fun _ hk=>hk.2) (.slice (some ⟨wq.heap.size,0,none⟩) 2 2)) (.cells #[.int .i64 p,.int .i64 0,.int .i64 0,.int .i64 1,.int .i64 p,.int .i64 0,.int .i64 0,.int .i64 1] 36))
 have HGE:Aside0 (w.heap.size≤ga):=⟨by have:=HGA.out;omega⟩
 have HB1:Aside0 (Below w.heap.size w ((wq.setCell ⟨ga,4,none⟩ (.slice (some ⟨wq.heap.size,0,none⟩) 2 2)).alloc (.cells #[.int .i64 p,.int .i64 0,.int .i64 0,.int .i64 1,.int .i64 p,.int .i64 0,.int .i64 0,.int .i64 1] 36))):=⟨below_alloc (HB.out.setCell HGE.out _) _⟩
 obtain⟨wd,hwd⟩:∃W:World,W=((wq.setCell ⟨ga,4,none⟩ (.slice (some ⟨wq.heap.size,0,none⟩) 2 2)).alloc (.cells #[.int .i64 p,.int .i64 0,.int .i64 0,.int .i64 1,.int .i64 p,.int .i64 0,.int .i64 0,.int .i64 1] 36)):=⟨_,rfl⟩
 obtain⟨p4,hp4⟩:∃g,g=wq.heap.size:=⟨_,rfl⟩
 rw [←hwd,←hp4] at HA1 H41
 rw [←hwd] at H21 HS1 HB1 ⊢
 rw [←hp4]
 clear hwd hp4 b0 b1 b2 b3 b4 b5 b6 b7 f_ hga HA HS HB HGE H2
 have HA:=HA1
 have HB:=HB1
 have HS:Aside0 (∃(b:Nat) (ok:Nat→Prop),Kd.R k51 51 wd b ok (.slice AS 3 cS) S7):=⟨_,_,HS1.out⟩
 have H2:=H21
 have H4:=H41
 clear HA1 HB1 HS1 H21 H41 wq
 obtain⟨wq,rfl⟩:∃W:World,W=wd:=⟨_,rfl⟩
 obtain⟨bS,okS,hS⟩:=HS.out
 clear HS
 have HS:=Aside0.mk hS
 clear hS
 obtain⟨b0,b1,b2,b3,b4,b5,b6,b7⟩:=auto_cells HA.out
 have f_:=blk_frozen HA.out 5
 have hga:=blk_lt HA.out
 go_upto_region 8 with (fail)
 have HA1:Aside0 (((wq.setCell ⟨ga,5,none⟩ (.slice (some ⟨wq.heap.size,0,none⟩) 3 3)).alloc (.cells #[.int .i64 p,.int .i64 1,.int .i64 0,.int .i64 0,.int .i64 p,.int .i64 1,.int .i64 1,.int .i64 1,.int .i64 p,.int .i64 1,.int .i64 1,.int .i64 1] 38)).heap[ga]? = some (.cells #[(.int .i64 N),(.int .i64 2),(.slice (some ⟨p2,0,none⟩) 2 2),(.slice none 0 0),(.slice (some ⟨p4,0,none⟩) 2 2),(.slice (some ⟨wq.heap.size,0,none⟩) 3 3),(.slice none 0 0)] 30 (0,0))):=⟨blk_old (blk_put HA.out 5 _ rfl) _⟩
 have H21:=Aside0.mk (blk_old (blk_far (p:=⟨ga,5,none⟩) H2.out (show p2≠ga from fun e=>by have h1:=H2.out;rw [e,HA.out] at h1;cases h1) (.slice (some ⟨wq.heap.size,0,none⟩) 3 3)) (.cells #[.int .i64 p,.int .i64 1,.int .i64 0,.int .i64 0,.int .i64 p,.int .i64 1,.int .i64 1,.int .i64 1,.int .i64 p,.int .i64 1,.int .i64 1,.int .i64 1] 38))
 have H41:=Aside0.mk (blk_old (blk_far (p:=⟨ga,5,none⟩) H4.out (show p4≠ga from fun e=>by have h1:=H4.out;rw [e,HA.out] at h1;cases h1) (.slice (some ⟨wq.heap.size,0,none⟩) 3 3)) (.cells #[.int .i64 p,.int .i64 1,.int .i64 0,.int .i64 0,.int .i64 p,.int .i64 1,.int .i64 1,.int .i64 1,.int .i64 p,.int .i64 1,.int .i64 1,.int .i64 1] 38))
 have H51:Aside0 (((wq.setCell ⟨ga,5,none⟩ (.slice (some ⟨wq.heap.size,0,none⟩) 3 3)).alloc (.cells #[.int .i64 p,.int .i64 1,.int .i64 0,.int .i64 0,.int .i64 p,.int .i64 1,.int .i64 1,.int .i64 1,.int .i64 p,.int .i64 1,.int .i64 1,.int .i64 1] 38)).heap[wq.heap.size]? = some (.cells #[.int .i64 p,.int .i64 1,.int .i64 0,.int .i64 0,.int .i64 p,.int .i64 1,.int .i64 1,.int .i64 1,.int .i64 p,.int .i64 1,.int .i64 1,.int .i64 1] 38 (0,0))):=⟨blk_newAt _ (by simp [World.setCell]<;>rfl)⟩
 have HS1:=Aside0.mk (Kd.R_alloc (Kd.R_far (p:=⟨ga,5,none⟩) (Kd.R_types HS.out HA.out (by decide)) (fun _ hk=>hk.2) (.slice (some ⟨wq.heap.size,0,none⟩) 3 3)) (.cells #[.int .i64 p,.int .i64 1,.int .i64 0,.int .i64 0,.int .i64 p,.int .i64 1,.int .i64 1,.int .i64 1,.int .i64 p,.int .i64 1,.int .i64 1,.int .i64 1] 38))
 have HGE:Aside0 (w.heap.size≤ga):=⟨by have:=HGA.out;omega⟩
 have HB1:Aside0 (Below w.heap.size w ((wq.setCell ⟨ga,5,none⟩ (.slice (some ⟨wq.heap.size,0,none⟩) 3 3)).alloc (.cells #[.int .i64 p,.int .i64 1,.int .i64 0,.int .i64 0,.int .i64 p,.int .i64 1,.int .i64 1,.int .i64 1,.int .i64 p,.int .i64 1,.int .i64 1,.int .i64 1] 38))):=⟨below_alloc (HB.out.setCell HGE.out _) _⟩
 obtain⟨wd,hwd⟩:∃W:World,W=((wq.setCell ⟨ga,5,none⟩ (.slice (some ⟨wq.heap.size,0,none⟩) 3 3)).alloc (.cells #[.int .i64 p,.int .i64 1,.int .i64 0,.int .i64 0,.int .i64 p,.int .i64 1,.int .i64 1,.int .i64 1,.int .i64 p,.int .i64 1,.int .i64 1,.int .i64 1] 38)):=⟨_,rfl⟩
 obtain⟨p5,hp5⟩:∃g,g=wq.heap.size:=⟨_,rfl⟩
 rw [←hwd,←hp5] at HA1 H51
 rw [←hwd] at H21 H41 HS1 HB1 ⊢
 rw [←hp5]
 clear hwd hp5 b0 b1 b2 b3 b4 b5 b6 b7 f_ hga HA HS HB HGE H2 H4
 have HA:=HA1
 have HB:=HB1
 have HS:Aside0 (∃(b:Nat) (ok:Nat→Prop),Kd.R k51 51 wd b ok (.slice AS 3 cS) S7):=⟨_,_,HS1.out⟩
 have H2:=H21
 have H4:=H41
 have H5:=H51
 clear HA1 HB1 HS1 H21 H41 H51 wq
 obtain⟨wq,rfl⟩:∃W:World,W=wd:=⟨_,rfl⟩
 obtain⟨bS,okS,hS⟩:=HS.out
 clear HS
 have HS:=Aside0.mk hS
 clear hS
 obtain⟨b0,b1,b2,b3,b4,b5,b6,b7⟩:=auto_cells HA.out
 have f_:=blk_frozen HA.out 6
 have hga:=blk_lt HA.out
 go_upto_region 9 with (fail)
 have HA1:Aside0 (((wq.setCell ⟨ga,6,none⟩ (.slice (some ⟨wq.heap.size,0,none⟩) 2 2)).alloc (.cells #[.int .i64 p,.int .i64 2,.int .i64 1,.int .i64 p,.int .i64 2,.int .i64 1] 40)).heap[ga]? = some (.cells #[(.int .i64 N),(.int .i64 2),(.slice (some ⟨p2,0,none⟩) 2 2),(.slice none 0 0),(.slice (some ⟨p4,0,none⟩) 2 2),(.slice (some ⟨p5,0,none⟩) 3 3),(.slice (some ⟨wq.heap.size,0,none⟩) 2 2)] 30 (0,0))):=⟨blk_old (blk_put HA.out 6 _ rfl) _⟩
 have H21:=Aside0.mk (blk_old (blk_far (p:=⟨ga,6,none⟩) H2.out (show p2≠ga from fun e=>by have h1:=H2.out;rw [e,HA.out] at h1;cases h1) (.slice (some ⟨wq.heap.size,0,none⟩) 2 2)) (.cells #[.int .i64 p,.int .i64 2,.int .i64 1,.int .i64 p,.int .i64 2,.int .i64 1] 40))
 have H41:=Aside0.mk (blk_old (blk_far (p:=⟨ga,6,none⟩) H4.out (show p4≠ga from fun e=>by have h1:=H4.out;rw [e,HA.out] at h1;cases h1) (.slice (some ⟨wq.heap.size,0,none⟩) 2 2)) (.cells #[.int .i64 p,.int .i64 2,.int .i64 1,.int .i64 p,.int .i64 2,.int .i64 1] 40))
 have H51:=Aside0.mk (blk_old (blk_far (p:=⟨ga,6,none⟩) H5.out (show p5≠ga from fun e=>by have h1:=H5.out;rw [e,HA.out] at h1;cases h1) (.slice (some ⟨wq.heap.size,0,none⟩) 2 2)) (.cells #[.int .i64 p,.int .i64 2,.int .i64 1,.int .i64 p,.int .i64 2,.int .i64 1] 40))
 have H61:Aside0 (((wq.setCell ⟨ga,6,none⟩ (.slice (some ⟨wq.heap.size,0,none⟩) 2 2)).alloc (.cells #[.int .i64 p,.int .i64 2,.int .i64 1,.int .i64 p,.int .i64 2,.int .i64 1] 40)).heap[wq.heap.size]? = some (.cells #[.int .i64 p,.int .i64 2,.int .i64 1,.int .i64 p,.int .i64 2,.int .i64 1] 40 (0,0))):=⟨blk_newAt _ (by simp [World.setCell]<;>rfl)⟩
 have HS1:=Aside0.mk (Kd.R_alloc (Kd.R_far (p:=⟨ga,6,none⟩) (Kd.R_types HS.out HA.out (by decide)) (fun _ hk=>hk.2) (.slice (some ⟨wq.heap.size,0,none⟩) 2 2)) (.cells #[.int .i64 p,.int .i64 2,.int .i64 1,.int .i64 p,.int .i64 2,.int .i64 1] 40))
 have HGE:Aside0 (w.heap.size≤ga):=⟨by have:=HGA.out;omega⟩
 have HB1:Aside0 (Below w.heap.size w ((wq.setCell ⟨ga,6,none⟩ (.slice (some ⟨wq.heap.size,0,none⟩) 2 2)).alloc (.cells #[.int .i64 p,.int .i64 2,.int .i64 1,.int .i64 p,.int .i64 2,.int .i64 1] 40))):=⟨below_alloc (HB.out.setCell HGE.out _) _⟩
 obtain⟨wd,hwd⟩:∃W:World,W=((wq.setCell ⟨ga,6,none⟩ (.slice (some ⟨wq.heap.size,0,none⟩) 2 2)).alloc (.cells #[.int .i64 p,.int .i64 2,.int .i64 1,.int .i64 p,.int .i64 2,.int .i64 1] 40)):=⟨_,rfl⟩
 obtain⟨p6,hp6⟩:∃g,g=wq.heap.size:=⟨_,rfl⟩
 rw [←hwd,←hp6] at HA1 H61
 rw [←hwd] at H21 H41 H51 HS1 HB1 ⊢
 rw [←hp6]
 clear hwd hp6 b0 b1 b2 b3 b4 b5 b6 b7 f_ hga HA HS HB HGE H2 H4 H5
 have HA:=HA1
 have HB:=HB1
 have HS:Aside0 (∃(b:Nat) (ok:Nat→Prop),Kd.R k51 51 wd b ok (.slice AS 3 cS) S7):=⟨_,_,HS1.out⟩
 have H2:=H21
 have H4:=H41
 have H5:=H51
 have H6:=H61
 clear HA1 HB1 HS1 H21 H41 H51 H61 wq
 obtain⟨wq,rfl⟩:∃W:World,W=wd:=⟨_,rfl⟩
 obtain⟨bS,okS,hS⟩:=HS.out
 clear HS
 have HS:=Aside0.mk hS
 clear hS
 obtain⟨b0,b1,b2,b3,b4,b5,b6,b7⟩:=auto_cells HA.out
 go_upto_region 10 with (fail)
 have HBB:Aside0 ((wq.alloc (.cells #[.int .i64 N,.int .i64 2,.slice (some ⟨p2,0,none⟩) 2 2,.slice none 0 0,.slice (some ⟨p4,0,none⟩) 2 2,.slice (some ⟨p5,0,none⟩) 3 3,.slice (some ⟨p6,0,none⟩) 2 2] 30)).heap[wq.heap.size]? = some (.cells #[.int .i64 N,.int .i64 2,.slice (some ⟨p2,0,none⟩) 2 2,.slice none 0 0,.slice (some ⟨p4,0,none⟩) 2 2,.slice (some ⟨p5,0,none⟩) 3 3,.slice (some ⟨p6,0,none⟩) 2 2] 30 (0,0))):=⟨blk_newAt _ rfl⟩
 have HA1:=Aside0.mk (blk_old HA.out (.cells #[.int .i64 N,.int .i64 2,.slice (some ⟨p2,0,none⟩) 2 2,.slice none 0 0,.slice (some ⟨p4,0,none⟩) 2 2,.slice (some ⟨p5,0,none⟩) 3 3,.slice (some ⟨p6,0,none⟩) 2 2] 30))
 have HS1:=Aside0.mk (Kd.R_alloc HS.out (.cells #[.int .i64 N,.int .i64 2,.slice (some ⟨p2,0,none⟩) 2 2,.slice none 0 0,.slice (some ⟨p4,0,none⟩) 2 2,.slice (some ⟨p5,0,none⟩) 3 3,.slice (some ⟨p6,0,none⟩) 2 2] 30))
 have HB1:Aside0 (Below w.heap.size w (wq.alloc (.cells #[.int .i64 N,.int .i64 2,.slice (some ⟨p2,0,none⟩) 2 2,.slice none 0 0,.slice (some ⟨p4,0,none⟩) 2 2,.slice (some ⟨p5,0,none⟩) 3 3,.slice (some ⟨p6,0,none⟩) 2 2] 30))):=⟨below_alloc HB.out _⟩
 have H21:=Aside0.mk (blk_old H2.out (.cells #[.int .i64 N,.int .i64 2,.slice (some ⟨p2,0,none⟩) 2 2,.slice none 0 0,.slice (some ⟨p4,0,none⟩) 2 2,.slice (some ⟨p5,0,none⟩) 3 3,.slice (some ⟨p6,0,none⟩) 2 2] 30))
 have H41:=Aside0.mk (blk_old H4.out (.cells #[.int .i64 N,.int .i64 2,.slice (some ⟨p2,0,none⟩) 2 2,.slice none 0 0,.slice (some ⟨p4,0,none⟩) 2 2,.slice (some ⟨p5,0,none⟩) 3 3,.slice (some ⟨p6,0,none⟩) 2 2] 30))
 have H51:=Aside0.mk (blk_old H5.out (.cells #[.int .i64 N,.int .i64 2,.slice (some ⟨p2,0,none⟩) 2 2,.slice none 0 0,.slice (some ⟨p4,0,none⟩) 2 2,.slice (some ⟨p5,0,none⟩) 3 3,.slice (some ⟨p6,0,none⟩) 2 2] 30))
 have H61:=Aside0.mk (blk_old H6.out (.cells #[.int .i64 N,.int .i64 2,.slice (some ⟨p2,0,none⟩) 2 2,.slice none 0 0,.slice (some ⟨p4,0,none⟩) 2 2,.slice (some ⟨p5,0,none⟩) 3 3,.slice (some ⟨p6,0,none⟩) 2 2] 30))
 have HNE:Aside0 (ga≠wq.heap.size∧w.heap.size≤wq.heap.size):=⟨by have h1:=blk_lt HA.out;have h2:=HGA.out;omega⟩
 obtain⟨wd,hwd⟩:∃W:World,W=(wq.alloc (.cells #[.int .i64 N,.int .i64 2,.slice (some ⟨p2,0,none⟩) 2 2,.slice none 0 0,.slice (some ⟨p4,0,none⟩) 2 2,.slice (some ⟨p5,0,none⟩) 3 3,.slice (some ⟨p6,0,none⟩) 2 2] 30)):=⟨_,rfl⟩
 obtain⟨gb,hgb⟩:∃g,g=wq.heap.size:=⟨_,rfl⟩
 rw [←hwd,←hgb] at HBB
 rw [←hgb] at HNE
 rw [←hwd] at HA1 HS1 HB1 H21 H41 H51 H61 ⊢
 rw [←hgb]
 clear hwd hgb b0 b1 b2 b3 b4 b5 b6 b7 HA HS HB H2 H4 H5 H6
 obtain⟨wq,rfl⟩:∃W:World,W=wd:=⟨_,rfl⟩
 go_wp2_with fail
 refine(canopylaw3_within.calls a2 5 q _ HQ.out).mono ?_
 rintro e w5 ⟨rfl,hd5⟩
 have hb5:Below wq.heap.size wq w5:=by obtain⟨nd,rfl⟩:=hd5;exact pw_below_drewN (Below.refl _ _) nd
 have HA:=Aside0.mk (blk_below HA1.out hb5)
 have HG:=Aside0.mk (blk_below HBB.out hb5)
 have HS:=Aside0.mk (Kd.R_below HS1.out hb5)
 have HB:=Aside0.mk (below_then HB1.out HB1.out.size hb5)
 have H2:=Aside0.mk (blk_below H21.out hb5)
 have H4:=Aside0.mk (blk_below H41.out hb5)
 have H5:=Aside0.mk (blk_below H51.out hb5)
 have H6:=Aside0.mk (blk_below H61.out hb5)
 clear hb5 hd5 HA1 HBB HS1 HB1 H21 H41 H51 H61
 obtain⟨wq,rfl⟩:∃W:World,W=w5:=⟨_,rfl⟩
 -- MARK4
 have HKB:Aside0 (KB w wq AS cS ga gb N p p2 p4 p5 p6):=⟨⟨HB.out,⟨_,_,HS.out⟩,H2.out,H4.out,H5.out,H6.out,HA.out,HNE.out.2,HNE.out.1⟩⟩
 clear HS HA HB H2 H4 H5 H6 HNE
 go_upto_block 0 with (fail)
 go_cut [] (fun wc=>∃(B2 B4 B5 B6:Option Addr) (c2 c4 c5 c6:Nat) (m2:List Int) (m4:List TOpen) (m5:List TClose) (m6:List TInner),Aside0 (wc.heap[gb]? = some (.cells #[.int .i64 N,.int .i64 2,.slice B2 m2.length c2,.slice none 0 0,.slice B4 m4.length c4,.slice B5 m5.length c5,.slice B6 m6.length c6] 30 (0,0)))∧Aside0 ((Kd.C (Kd.int .i64) wc B2 m2.length m2∧m2.length≤c2)∧(Kd.C k36 wc B4 m4.length m4∧m4.length≤c4)∧(Kd.C k38 wc B5 m5.length m5∧m5.length≤c5)∧(Kd.C k40 wc B6 m6.length m6∧m6.length≤c6))∧Aside0 (auto_Single.f S7 N 2 m2 [] m4 m5 m6=some false)∧Aside0 (KB w wc AS cS ga gb N p p2 p4 p5 p6))
 case first=>
  obtain⟨g0,g1,g2,g3,g4,g5,g6,g7⟩:=auto_cells HG.out
  obtain⟨b0,b1,b2,b3,b4,b5,b6,b7⟩:=auto_cells HKB.out.a
  have hga:=blk_lt HKB.out.a
  have hgb:=blk_lt HG.out
  clear g7 b7
  by_cases hq0:q=0
  ·have d0 : (q == 0) = true := beq_iff_eq.mpr hq0
   clear hq0
   have HS0:Aside0 (auto_Single.f S7 N 2 [0,0] [] (oB p) (cA p) (iA p)=some false):=⟨single_HS0 HR.out.1 HR.out.2.1 HR.out.2.2.1 HR.out.2.2.2.1⟩
   have hKw:=HKB.out.below (below_alloc (Below.refl _ _) (.cells #[.int .i64 p,.int .i64 0,.int .i64 0,.int .i64 2] 36))
   have HRR:=Aside0.mk hKw.ka.h4
   clear hKw
   go_wp2_with (at_builtin;go_loud (refine Kd.R_append_rows k36 (Rr:=k36.K (wq.alloc (.cells #[.int .i64 p,.int .i64 0,.int .i64 0,.int .i64 2] 36))) (w0:=wq) wq.heap.size rfl (.tmp 50) (.tmp 52) 26 36 (.agg #[.int .i64 0,.int .i64 0,.int .i64 0,.int .i64 0]) 32 rfl Tryz.underlying26 rinfoOpen rfl (by decide) (by decide) _ [⟨p,0,0,2⟩] (oA p) (some ⟨p4,0,none⟩) 2 2 (fun _=>True) (fun _=>False) rfl rfl (one_open wq ⟨p,0,0,2⟩) HRR.out (fun x cs h=>by obtain rfl:=k36_open h;exact k36_mkM _ _ _ x) (fun _ h=>h.elim) (fun _ _=>trivial) (below_alloc (Below.refl _ _) _) ?qb ?ql ?_);(case qb=>rw [size_alloc];omega);(case ql=>simp);intro v1 w6 hr1 hb1 hg1 hat1;have hr2:Kd.R k36 36 w6 wq.heap.size (fun _=>True) v1 (oB p):=hr1;obtain⟨B,c,rfl⟩:=Kd.R_slice hr2;have HR1:=Aside0.mk hr2;have HG1:=Aside0.mk (blk_below HG.out hb1);have HK1:=Aside0.mk (HKB.out.below hb1);clear hr1 hr2 hb1 hg1 hat1;have g4:=(blk_cell HG1.out 4).trans rfl;have fg:=blk_frozen HG1.out 4)
   have HKF:=Aside0.mk (HK1.out.set HG1.out 4 (.slice B (oB p).length c))
   have HRF:=Aside0.mk (Kd.R_far (p:=⟨gb,4,none⟩) (Kd.R_types HR1.out HG1.out (by decide)) (fun _ hk=>hk.2) (.slice B (oB p).length c))
   try go_meet
   case rel=>exact⟨(some ⟨p2,0,none⟩),B,(some ⟨p5,0,none⟩),(some ⟨p6,0,none⟩),2,c,3,2,[0,0],(oB p),(cA p),(iA p),⟨blk_put HG1.out 4 _ rfl⟩,⟨⟨HKF.out.ka.h2,Nat.le_refl _⟩,⟨(Kd.R_reads' HRF.out).2.2,(Kd.R_reads' HRF.out).2.1⟩,⟨HKF.out.ka.h5,Nat.le_refl _⟩,⟨HKF.out.ka.h6,Nat.le_refl _⟩⟩,HS0,HKF⟩
  have d0:(q == 0)=false:=beq_eq_false_iff_ne.mpr hq0
  by_cases hq1:q=1
  ·have d1 : (q == 1) = true := beq_iff_eq.mpr hq1
   clear hq1
   have HS1:Aside0 (auto_Single.f S7 N 2 [0,0] [] (oA p) (cB p) (iA p)=some false):=⟨single_HS1 HR.out.1 HR.out.2.1 HR.out.2.2.1 HR.out.2.2.2.1⟩
   have hKw:=HKB.out.below (below_alloc (Below.refl _ _) (.cells #[.int .i64 p,.int .i64 1,.int .i64 0,.int .i64 1] 38))
   have HRR:=Aside0.mk hKw.ka.h5
   clear hKw
   go_wp2_with (at_builtin;go_loud (refine Kd.R_append_rows k38 (Rr:=k38.K (wq.alloc (.cells #[.int .i64 p,.int .i64 1,.int .i64 0,.int .i64 1] 38))) (w0:=wq) wq.heap.size rfl (.tmp 59) (.tmp 61) 27 38 (.agg #[.int .i64 0,.int .i64 0,.int .i64 0,.int .i64 0]) 32 rfl Tryz.underlying27 rinfoClose rfl (by decide) (by decide) _ [⟨p,1,0,1⟩] (cA p) (some ⟨p5,0,none⟩) 3 3 (fun _=>True) (fun _=>False) rfl rfl (one_close wq ⟨p,1,0,1⟩) HRR.out (fun x cs h=>by obtain rfl:=k38_open h;exact k38_mkM _ _ _ x) (fun _ h=>h.elim) (fun _ _=>trivial) (below_alloc (Below.refl _ _) _) ?qb ?ql ?_);(case qb=>rw [size_alloc];omega);(case ql=>simp);intro v1 w6 hr1 hb1 hg1 hat1;have hr2:Kd.R k38 38 w6 wq.heap.size (fun _=>True) v1 (cB p):=hr1;obtain⟨B,c,rfl⟩:=Kd.R_slice hr2;have HR1:=Aside0.mk hr2;have HG1:=Aside0.mk (blk_below HG.out hb1);have HK1:=Aside0.mk (HKB.out.below hb1);clear hr1 hr2 hb1 hg1 hat1;have g5:=(blk_cell HG1.out 5).trans rfl;have fg:=blk_frozen HG1.out 5)
   have HKF:=Aside0.mk (HK1.out.set HG1.out 5 (.slice B (cB p).length c))
   have HRF:=Aside0.mk (Kd.R_far (p:=⟨gb,5,none⟩) (Kd.R_types HR1.out HG1.out (by decide)) (fun _ hk=>hk.2) (.slice B (cB p).length c))
   try go_meet
   case rel=>exact⟨(some ⟨p2,0,none⟩),(some ⟨p4,0,none⟩),B,(some ⟨p6,0,none⟩),2,2,c,2,[0,0],(oA p),(cB p),(iA p),⟨blk_put HG1.out 5 _ rfl⟩,⟨⟨HKF.out.ka.h2,Nat.le_refl _⟩,⟨HKF.out.ka.h4,Nat.le_refl _⟩,⟨(Kd.R_reads' HRF.out).2.2,(Kd.R_reads' HRF.out).2.1⟩,⟨HKF.out.ka.h6,Nat.le_refl _⟩⟩,HS1,HKF⟩
  have d1:(q == 1)=false:=beq_eq_false_iff_ne.mpr hq1
  by_cases hq2:q=2
  ·have d2 : (q == 2) = true := beq_iff_eq.mpr hq2
   clear hq2
   have HS2:Aside0 (auto_Single.f S7 N 2 [0,0] [] (oA p) (cA p) (iB p)=some false):=⟨single_HS2 HR.out.1 HR.out.2.1 HR.out.2.2.1 HR.out.2.2.2.1⟩
   have hKw:=HKB.out.below (below_alloc (Below.refl _ _) (.cells #[.int .i64 p,.int .i64 2,.int .i64 0] 40))
   have HRR:=Aside0.mk hKw.ka.h6
   clear hKw
   go_wp2_with (at_builtin;go_loud (refine Kd.R_append_rows k40 (Rr:=k40.K (wq.alloc (.cells #[.int .i64 p,.int .i64 2,.int .i64 0] 40))) (w0:=wq) wq.heap.size rfl (.tmp 68) (.tmp 70) 28 40 (.agg #[.int .i64 0,.int .i64 0,.int .i64 0]) 24 rfl Tryz.underlying28 rinfoInner rfl (by decide) (by decide) _ [⟨p,2,0⟩] (iA p) (some ⟨p6,0,none⟩) 2 2 (fun _=>True) (fun _=>False) rfl rfl (one_inner wq ⟨p,2,0⟩) HRR.out (fun x cs h=>by obtain rfl:=k40_open h;exact k40_mkM _ _ _ x) (fun _ h=>h.elim) (fun _ _=>trivial) (below_alloc (Below.refl _ _) _) ?qb ?ql ?_);(case qb=>rw [size_alloc];omega);(case ql=>simp);intro v1 w6 hr1 hb1 hg1 hat1;have hr2:Kd.R k40 40 w6 wq.heap.size (fun _=>True) v1 (iB p):=hr1;obtain⟨B,c,rfl⟩:=Kd.R_slice hr2;have HR1:=Aside0.mk hr2;have HG1:=Aside0.mk (blk_below HG.out hb1);have HK1:=Aside0.mk (HKB.out.below hb1);clear hr1 hr2 hb1 hg1 hat1;have g6:=(blk_cell HG1.out 6).trans rfl;have fg:=blk_frozen HG1.out 6)
   have HKF:=Aside0.mk (HK1.out.set HG1.out 6 (.slice B (iB p).length c))
   have HRF:=Aside0.mk (Kd.R_far (p:=⟨gb,6,none⟩) (Kd.R_types HR1.out HG1.out (by decide)) (fun _ hk=>hk.2) (.slice B (iB p).length c))
   try go_meet
   case rel=>exact⟨(some ⟨p2,0,none⟩),(some ⟨p4,0,none⟩),(some ⟨p5,0,none⟩),B,2,2,3,c,[0,0],(oA p),(cA p),(iB p),⟨blk_put HG1.out 6 _ rfl⟩,⟨⟨HKF.out.ka.h2,Nat.le_refl _⟩,⟨HKF.out.ka.h4,Nat.le_refl _⟩,⟨HKF.out.ka.h5,Nat.le_refl _⟩,⟨(Kd.R_reads' HRF.out).2.2,(Kd.R_reads' HRF.out).2.1⟩⟩,HS2,HKF⟩
  have d2:(q == 2)=false:=beq_eq_false_iff_ne.mpr hq2
  by_cases hq3:q=3
  ·have d3 : (q == 3) = true := beq_iff_eq.mpr hq3
   clear hq3
   have HS3:Aside0 (auto_Single.f S7 N 2 [0,1] [] (oA p) (cA p) (iA p)=some false):=⟨single_HS3 HR.out.1 HR.out.2.1 HR.out.2.2.1 HR.out.2.2.2.1⟩
   have fg:=blk_frozen HG.out 2
   go_wp2
   have HKF:=Aside0.mk ((HKB.out.set HG.out 2 (.slice (some ⟨wq.heap.size,0,none⟩) 2 2)).below (below_alloc (Below.refl _ _) (.cells #[.int .i64 0,.int .i64 1] 3)))
   try go_meet
   case rel=>exact⟨(some ⟨wq.heap.size,0,none⟩),(some ⟨p4,0,none⟩),(some ⟨p5,0,none⟩),(some ⟨p6,0,none⟩),2,2,3,2,[0,1],(oA p),(cA p),(iA p),⟨blk_old (blk_put HG.out 2 _ rfl) _⟩,⟨⟨reads_laid (t:=3) (fun x=>[Value.int .i64 x]) [0,1] (fun _ _=>rfl) (by simp) (blk_newAt _ (by simp [World.setCell]<;>rfl)),Nat.le_refl _⟩,⟨HKF.out.ka.h4,Nat.le_refl _⟩,⟨HKF.out.ka.h5,Nat.le_refl _⟩,⟨HKF.out.ka.h6,Nat.le_refl _⟩⟩,HS3,HKF⟩
  have d3:(q == 3)=false:=beq_eq_false_iff_ne.mpr hq3
  by_cases hq4:q=4
  ·have d4 : (q == 4) = true := beq_iff_eq.mpr hq4
   clear hq4
   have HS4:Aside0 (auto_Single.f S7 N 2 [] [] (oA p) (cA p) (iA p)=some false):=⟨single_HS4 HR.out.1 HR.out.2.1 HR.out.2.2.1 HR.out.2.2.2.1⟩
   have fg:=blk_frozen HG.out 2
   go_wp2
   have HKF:=Aside0.mk (HKB.out.set HG.out 2 (.slice none 0 0))
   try go_meet
   case rel=>exact⟨none,(some ⟨p4,0,none⟩),(some ⟨p5,0,none⟩),(some ⟨p6,0,none⟩),0,2,3,2,[],(oA p),(cA p),(iA p),⟨blk_put HG.out 2 _ rfl⟩,⟨⟨none_row _ _,Nat.le_refl _⟩,⟨HKF.out.ka.h4,Nat.le_refl _⟩,⟨HKF.out.ka.h5,Nat.le_refl _⟩,⟨HKF.out.ka.h6,Nat.le_refl _⟩⟩,HS4,HKF⟩
  have d4:(q == 4)=false:=beq_eq_false_iff_ne.mpr hq4
  exact absurd HR.out (by omega)
 case' rest=>skip
 obtain⟨B2,B4,B5,B6,c2,c4,c5,c6,m2,m4,m5,m6,HGc,HCb,HSB,HKc⟩:=hcut
 clear HKB HG
 have HK:=HKc
 have HQ:=HGc
 clear HKc HGc
 try clear wq
 obtain⟨wq,rfl⟩:∃W:World,W=wc:=⟨_,rfl⟩
 have HSN:Aside0 (auto_Single.f S7 N 2 [0,0] [] (oA p) (cA p) (iA p)=some true):=⟨single_HSN HR.out.1 HR.out.2.1 HR.out.2.2.1 HR.out.2.2.2.1⟩
 obtain⟨r2,e2⟩:∃r,r=onceC cmpInt [0,0]:=⟨_,rfl⟩
 obtain⟨r3,e3⟩:∃r,r=onceC cmpInt ([]:List Int):=⟨_,rfl⟩
 obtain⟨r4,e4⟩:∃r,r=onceC cmpOpen (oA p):=⟨_,rfl⟩
 obtain⟨r5,e5⟩:∃r,r=onceC cmpClose (cA p):=⟨_,rfl⟩
 obtain⟨r6,e6⟩:∃r,r=onceC cmpInner (iA p):=⟨_,rfl⟩
 have HNF:Aside0 (auto_Norm.f N 2 [0,0] [] (oA p) (cA p) (iA p)=some (N,2,r2,r3,r4,r5,r6)):=⟨by rw [e2,e3,e4,e5,e6];exact if_pos (by simp [oA,cA,iA])⟩
 have HRF:Aside0 (canopyref3_Norm.f N 2 [0,0] [] (oA p) (cA p) (iA p)=some (N,2,r2,r3,r4,r5,r6)):=⟨HNF.out⟩
 have HSM:Aside0 (canopyref3_Same.f N 2 r2 r3 r4 r5 r6 N 2 r2 r3 r4 r5 r6=some true):=⟨same_self N 2 r2 r3 r4 r5 r6 (by rw [e2,e3,e4,e5,e6];exact⟨Nat.le_trans (once_lenle totalInt _) (by simp),Nat.le_trans (once_lenle totalInt _) (by simp),Nat.le_trans (once_lenle totalOpen _) (by simp [oA]),Nat.le_trans (once_lenle totalClose _) (by simp [cA]),Nat.le_trans (once_lenle totalInner _) (by simp [iA])⟩)⟩
 clear e2 e3 e4 e5 e6
 go_upto_region 21 with (fail)
 refine start_ (n:=17) (S:=fun w'=>w'.cell? ⟨ga,0,none⟩=some (.int .i64 N)∧w'.cell? ⟨ga,1,none⟩=some (.int .i64 2)∧w'.cell? ⟨ga,2,none⟩=some (.slice (some ⟨p2,0,none⟩) 2 2)∧w'.cell? ⟨ga,3,none⟩=some (.slice none 0 0)∧w'.cell? ⟨ga,4,none⟩=some (.slice (some ⟨p4,0,none⟩) 2 2)∧w'.cell? ⟨ga,5,none⟩=some (.slice (some ⟨p5,0,none⟩) 3 3)∧w'.cell? ⟨ga,6,none⟩=some (.slice (some ⟨p6,0,none⟩) 2 2)∧w'.cell? ⟨gb,0,none⟩=some (.int .i64 N)∧w'.cell? ⟨gb,1,none⟩=some (.int .i64 2)∧w'.cell? ⟨gb,2,none⟩=some (.slice B2 m2.length c2)∧w'.cell? ⟨gb,3,none⟩=some (.slice none 0 0)∧w'.cell? ⟨gb,4,none⟩=some (.slice B4 m4.length c4)∧w'.cell? ⟨gb,5,none⟩=some (.slice B5 m5.length c5)∧w'.cell? ⟨gb,6,none⟩=some (.slice B6 m6.length c6)) (ds:=[16]) (pm 0 17) (by kernel_rfl) rfl rfl ⟨(blk_cell (HK.out.below (below_drew (Below.refl _ _))).a 0).trans rfl,(blk_cell (HK.out.below (below_drew (Below.refl _ _))).a 1).trans rfl,(blk_cell (HK.out.below (below_drew (Below.refl _ _))).a 2).trans rfl,(blk_cell (HK.out.below (below_drew (Below.refl _ _))).a 3).trans rfl,(blk_cell (HK.out.below (below_drew (Below.refl _ _))).a 4).trans rfl,(blk_cell (HK.out.below (below_drew (Below.refl _ _))).a 5).trans rfl,(blk_cell (HK.out.below (below_drew (Below.refl _ _))).a 6).trans rfl,(blk_cell (blk_drew HQ.out) 0).trans rfl,(blk_cell (blk_drew HQ.out) 1).trans rfl,(blk_cell (blk_drew HQ.out) 2).trans rfl,(blk_cell (blk_drew HQ.out) 3).trans rfl,(blk_cell (blk_drew HQ.out) 4).trans rfl,(blk_cell (blk_drew HQ.out) 5).trans rfl,(blk_cell (blk_drew HQ.out) 6).trans rfl⟩ (fun hHeld=>?_)
 refine with_tabW Q21.tab Q21.bits (fun HT_ HW_=>?_)
 have HK1:=Aside0.mk (HK.out.below (below_drew (Below.refl _ _)))
 have HQ1:=Aside0.mk (blk_below HQ.out (below_drew (Below.refl _ _)))
 have HC1:=Aside0.mk (And.intro (And.intro (Kd.C_below HCb.out.1.1 (below_drew (Below.refl _ _))) HCb.out.1.2) (And.intro (And.intro (Kd.C_below HCb.out.2.1.1 (below_drew (Below.refl _ _))) HCb.out.2.1.2) (And.intro (And.intro (Kd.C_below HCb.out.2.2.1.1 (below_drew (Below.refl _ _))) HCb.out.2.2.1.2) (And.intro (Kd.C_below HCb.out.2.2.2.1 (below_drew (Below.refl _ _))) HCb.out.2.2.2.2))))
 clear HK HQ HCb
 have HK:=HK1
 have HQ:=HQ1
 have HCb:=HC1
 clear HK1 HQ1 HC1
 obtain⟨wd,hwd⟩:∃wd:World,wd=wq.drew:=⟨_,rfl⟩
 rw [←hwd] at HK HQ HCb hHeld ⊢
 clear hwd
 try clear wq
 obtain⟨wq,rfl⟩:∃wq:World,wq=wd:=⟨_,rfl⟩
 iterate 2 (first|(refine pn_ (v:=?_) (a':=?_) rfl (rfl (a:=some _)) (any_of HT_.out (by kernel_rfl)) (fun _ _ _ h=>h) (Or.inl ⟨by rfl,?_⟩) ?_ ?_;rotate_left;(intro w';go_simp;with_reducible rfl);rotate_left;(simp only [Act.put,M.sq3,i64_w,i32_w];rfl))|(refine tn_ (v:=?_) (a':=?_) rfl (rfl (a:=some _)) (take_ofW HT_.out HW_.out (by kernel_rfl)) (fun _ _ _ h=>h) (Or.inl ⟨by rfl,?_⟩) hHeld ?_ ?_;rotate_left;(intro w' hS_;obtain⟨s0,s1,s2,s3,s4,s5,s6,s7,s8,s9,s10,s11,s12,s13⟩:=hS_;go_simp;with_reducible rfl);rotate_left;(simp only [Act.put,M.sq3,i64_w,i32_w];rfl)))
 refine one_ (i:=2) (N:=(some 82)) (pm 3 14) rfl rfl (one_of HT_.out (by kernel_rfl)) (by decide) (fun K hK=>?_)
 refine goes_ Tryz.func19 (by kernel_rfl) rfl #[.slice AS 3 cS,.agg #[.int .i64 N,.int .i64 2,.slice (some ⟨p2,0,none⟩) 2 2,.slice none 0 0,.slice (some ⟨p4,0,none⟩) 2 2,.slice (some ⟨p5,0,none⟩) 3 3,.slice (some ⟨p6,0,none⟩) 2 2]] rfl rfl rfl (by(try simp only [List.map_toArray,List.map_cons,List.map_nil]);rfl) ?_
 refine(auto_Single.calls AS cS S7 N 2 (some ⟨p2,0,none⟩) 2 [0,0] none 0 [] (some ⟨p4,0,none⟩) 2 (oA p) (some ⟨p5,0,none⟩) 3 (cA p) (some ⟨p6,0,none⟩) 2 (iA p) _ _ HK.out.ka.s LS.out HK.out.ka.h2 (Nat.le_refl _) (none_row _ _) (Nat.le_refl _) HK.out.ka.h4 (Nat.le_refl _) HK.out.ka.h5 (Nat.le_refl _) HK.out.ka.h6 (Nat.le_refl _) HSN.out).mono ?_
 rintro e we ⟨rfl,hb⟩
 have HK1:=Aside0.mk (HK.out.below hb)
 have HQ1:=Aside0.mk (blk_below HQ.out hb)
 have HC1:=Aside0.mk (And.intro (And.intro (Kd.C_below HCb.out.1.1 hb) HCb.out.1.2) (And.intro (And.intro (Kd.C_below HCb.out.2.1.1 hb) HCb.out.2.1.2) (And.intro (And.intro (Kd.C_below HCb.out.2.2.1.1 hb) HCb.out.2.2.1.2) (And.intro (Kd.C_below HCb.out.2.2.2.1 hb) HCb.out.2.2.2.2))))
 clear HK HQ HCb
 have HK:=HK1
 have HQ:=HQ1
 have HCb:=HC1
 clear HK1 HQ1 HC1
 clear hb hHeld
 refine⟨_,rfl,?_⟩
 refine hK.out _ _ ⟨(blk_cell HK.out.a 0).trans rfl,(blk_cell HK.out.a 1).trans rfl,(blk_cell HK.out.a 2).trans rfl,(blk_cell HK.out.a 3).trans rfl,(blk_cell HK.out.a 4).trans rfl,(blk_cell HK.out.a 5).trans rfl,(blk_cell HK.out.a 6).trans rfl,(blk_cell HQ.out 0).trans rfl,(blk_cell HQ.out 1).trans rfl,(blk_cell HQ.out 2).trans rfl,(blk_cell HQ.out 3).trans rfl,(blk_cell HQ.out 4).trans rfl,(blk_cell HQ.out 5).trans rfl,(blk_cell HQ.out 6).trans rfl⟩ (fun hHeld=>?_)
 clear hK K
 obtain⟨wq,rfl⟩:∃wq:World,wq=we:=⟨_,rfl⟩
 refine norm_ (a':=?_) ?_ ?_
 rotate_left
 ·show Act.put _ (some 82) _ = _
  simp only [Act.put,M.sq3,i64_w,i32_w]
  rfl
 iterate 3 (first|(refine pn_ (v:=?_) (a':=?_) rfl (rfl (a:=some _)) (any_of HT_.out (by kernel_rfl)) (fun _ _ _ h=>h) (Or.inl ⟨by rfl,?_⟩) ?_ ?_;rotate_left;(intro w';go_simp;with_reducible rfl);rotate_left;(simp only [Act.put,M.sq3,i64_w,i32_w];rfl))|(refine tn_ (v:=?_) (a':=?_) rfl (rfl (a:=some _)) (take_ofW HT_.out HW_.out (by kernel_rfl)) (fun _ _ _ h=>h) (Or.inl ⟨by rfl,?_⟩) hHeld ?_ ?_;rotate_left;(intro w' hS_;obtain⟨s0,s1,s2,s3,s4,s5,s6,s7,s8,s9,s10,s11,s12,s13⟩:=hS_;go_simp;with_reducible rfl);rotate_left;(simp only [Act.put,M.sq3,i64_w,i32_w];rfl)))
 refine one_ (i:=6) (N:=(some 86)) (pm 7 10) rfl rfl (one_of HT_.out (by kernel_rfl)) (by decide) (fun K hK=>?_)
 refine goes_ Tryz.func19 (by kernel_rfl) rfl #[.slice AS 3 cS,.agg #[.int .i64 N,.int .i64 2,.slice B2 m2.length c2,.slice none 0 0,.slice B4 m4.length c4,.slice B5 m5.length c5,.slice B6 m6.length c6]] rfl rfl rfl (by(try simp only [List.map_toArray,List.map_cons,List.map_nil]);rfl) ?_
 refine(auto_Single.calls AS cS S7 N 2 B2 c2 m2 none 0 [] B4 c4 m4 B5 c5 m5 B6 c6 m6 _ _ HK.out.ka.s LS.out HCb.out.1.1 HCb.out.1.2 (none_row _ _) (Nat.le_refl _) HCb.out.2.1.1 HCb.out.2.1.2 HCb.out.2.2.1.1 HCb.out.2.2.1.2 HCb.out.2.2.2.1 HCb.out.2.2.2.2 HSB.out).mono ?_
 rintro e we ⟨rfl,hb⟩
 have HK1:=Aside0.mk (HK.out.below hb)
 have HQ1:=Aside0.mk (blk_below HQ.out hb)
 have HC1:=Aside0.mk (And.intro (And.intro (Kd.C_below HCb.out.1.1 hb) HCb.out.1.2) (And.intro (And.intro (Kd.C_below HCb.out.2.1.1 hb) HCb.out.2.1.2) (And.intro (And.intro (Kd.C_below HCb.out.2.2.1.1 hb) HCb.out.2.2.1.2) (And.intro (Kd.C_below HCb.out.2.2.2.1 hb) HCb.out.2.2.2.2))))
 clear HK HQ HCb
 have HK:=HK1
 have HQ:=HQ1
 have HCb:=HC1
 clear HK1 HQ1 HC1
 clear hb hHeld
 refine⟨_,rfl,?_⟩
 refine hK.out _ _ ⟨(blk_cell HK.out.a 0).trans rfl,(blk_cell HK.out.a 1).trans rfl,(blk_cell HK.out.a 2).trans rfl,(blk_cell HK.out.a 3).trans rfl,(blk_cell HK.out.a 4).trans rfl,(blk_cell HK.out.a 5).trans rfl,(blk_cell HK.out.a 6).trans rfl,(blk_cell HQ.out 0).trans rfl,(blk_cell HQ.out 1).trans rfl,(blk_cell HQ.out 2).trans rfl,(blk_cell HQ.out 3).trans rfl,(blk_cell HQ.out 4).trans rfl,(blk_cell HQ.out 5).trans rfl,(blk_cell HQ.out 6).trans rfl⟩ (fun hHeld=>?_)
 clear hK K
 obtain⟨wq,rfl⟩:∃wq:World,wq=we:=⟨_,rfl⟩
 refine norm_ (a':=?_) ?_ ?_
 rotate_left
 ·show Act.put _ (some 86) _ = _
  simp only [Act.put,M.sq3,i64_w,i32_w]
  rfl
 iterate 4 (first|(refine pn_ (v:=?_) (a':=?_) rfl (rfl (a:=some _)) (any_of HT_.out (by kernel_rfl)) (fun _ _ _ h=>h) (Or.inl ⟨by rfl,?_⟩) ?_ ?_;rotate_left;(intro w';go_simp;with_reducible rfl);rotate_left;(simp only [Act.put,M.sq3,i64_w,i32_w];rfl))|(refine tn_ (v:=?_) (a':=?_) rfl (rfl (a:=some _)) (take_ofW HT_.out HW_.out (by kernel_rfl)) (fun _ _ _ h=>h) (Or.inl ⟨by rfl,?_⟩) hHeld ?_ ?_;rotate_left;(intro w' hS_;obtain⟨s0,s1,s2,s3,s4,s5,s6,s7,s8,s9,s10,s11,s12,s13⟩:=hS_;go_simp;with_reducible rfl);rotate_left;(simp only [Act.put,M.sq3,i64_w,i32_w];rfl)))
 refine to_ 12 (v:=?_) (a':=?_) rfl (rfl (a:=some _)) (take_ofW HT_.out HW_.out (by kernel_rfl)) (fun _ _ _ h=>h) (Or.inl ⟨by rfl,?_⟩) hHeld ?_ ?_;rotate_left;(intro w' hS_;obtain⟨s0,s1,s2,s3,s4,s5,s6,s7,s8,s9,s10,s11,s12,s13⟩:=hS_;go_simp;with_reducible rfl);rotate_left;(simp only [Act.put,M.sq3,i64_w,i32_w];rfl)
 refine one_ (i:=11) (N:=(some 91)) (pm 13 4) rfl rfl (one_of HT_.out (by kernel_rfl)) (by decide) (fun K hK=>?_)
 refine goes_ Tryz.func25 (by kernel_rfl) rfl #[.agg #[.int .i64 N,.int .i64 2,.slice (some ⟨p2,0,none⟩) 2 2,.slice none 0 0,.slice (some ⟨p4,0,none⟩) 2 2,.slice (some ⟨p5,0,none⟩) 3 3,.slice (some ⟨p6,0,none⟩) 2 2]] rfl rfl rfl (by(try simp only [List.map_toArray,List.map_cons,List.map_nil]);rfl) ?_
 refine(auto_Norm.calls N 2 (some ⟨p2,0,none⟩) 2 [0,0] none 0 [] (some ⟨p4,0,none⟩) 2 (oA p) (some ⟨p5,0,none⟩) 3 (cA p) (some ⟨p6,0,none⟩) 2 (iA p) N 2 r2 r3 r4 r5 r6 _ HK.out.ka.h2 (Nat.le_refl _) (none_row _ _) (Nat.le_refl _) HK.out.ka.h4 (Nat.le_refl _) HK.out.ka.h5 (Nat.le_refl _) HK.out.ka.h6 (Nat.le_refl _) HNF.out).mono ?_
 rintro e we ⟨v2,v3,v4,v5,v6,rfl,hv2,hv3,hv4,hv5,hv6,hb⟩
 obtain⟨D2,d2,rfl⟩:=Kd.V_slice hv2
 have HD2:=Aside0.mk (And.intro (Kd.V_reads' hv2).2.2 (Kd.V_reads' hv2).2.1)
 clear hv2
 obtain⟨D3,d3,rfl⟩:=Kd.V_slice hv3
 have HD3:=Aside0.mk (And.intro (Kd.V_reads' hv3).2.2 (Kd.V_reads' hv3).2.1)
 clear hv3
 obtain⟨D4,d4,rfl⟩:=Kd.V_slice hv4
 have HD4:=Aside0.mk (And.intro (Kd.V_reads' hv4).2.2 (Kd.V_reads' hv4).2.1)
 clear hv4
 obtain⟨D5,d5,rfl⟩:=Kd.V_slice hv5
 have HD5:=Aside0.mk (And.intro (Kd.V_reads' hv5).2.2 (Kd.V_reads' hv5).2.1)
 clear hv5
 obtain⟨D6,d6,rfl⟩:=Kd.V_slice hv6
 have HD6:=Aside0.mk (And.intro (Kd.V_reads' hv6).2.2 (Kd.V_reads' hv6).2.1)
 clear hv6
 have HK1:=Aside0.mk (HK.out.below hb)
 have HQ1:=Aside0.mk (blk_below HQ.out hb)
 have HC1:=Aside0.mk (And.intro (And.intro (Kd.C_below HCb.out.1.1 hb) HCb.out.1.2) (And.intro (And.intro (Kd.C_below HCb.out.2.1.1 hb) HCb.out.2.1.2) (And.intro (And.intro (Kd.C_below HCb.out.2.2.1.1 hb) HCb.out.2.2.1.2) (And.intro (Kd.C_below HCb.out.2.2.2.1 hb) HCb.out.2.2.2.2))))
 clear HK HQ HCb
 have HK:=HK1
 have HQ:=HQ1
 have HCb:=HC1
 clear HK1 HQ1 HC1
 clear hb hHeld
 refine⟨_,rfl,?_⟩
 refine hK.out _ _ ⟨(blk_cell HK.out.a 0).trans rfl,(blk_cell HK.out.a 1).trans rfl,(blk_cell HK.out.a 2).trans rfl,(blk_cell HK.out.a 3).trans rfl,(blk_cell HK.out.a 4).trans rfl,(blk_cell HK.out.a 5).trans rfl,(blk_cell HK.out.a 6).trans rfl,(blk_cell HQ.out 0).trans rfl,(blk_cell HQ.out 1).trans rfl,(blk_cell HQ.out 2).trans rfl,(blk_cell HQ.out 3).trans rfl,(blk_cell HQ.out 4).trans rfl,(blk_cell HQ.out 5).trans rfl,(blk_cell HQ.out 6).trans rfl⟩ (fun hHeld=>?_)
 clear hK K
 obtain⟨wq,rfl⟩:∃wq:World,wq=we:=⟨_,rfl⟩
 refine norm_ (a':=?_) ?_ ?_
 rotate_left
 ·show Act.put _ (some 91) _ = _
  simp only [Act.put,M.sq3,i64_w,i32_w]
  rfl
 refine one_ (i:=13) (N:=(some 93)) (pm 14 3) rfl rfl (one_of HT_.out (by kernel_rfl)) (by decide) (fun K hK=>?_)
 refine goes_ Tryz.func28 (by kernel_rfl) rfl #[.agg #[.int .i64 N,.int .i64 2,.slice (some ⟨p2,0,none⟩) 2 2,.slice none 0 0,.slice (some ⟨p4,0,none⟩) 2 2,.slice (some ⟨p5,0,none⟩) 3 3,.slice (some ⟨p6,0,none⟩) 2 2]] rfl rfl rfl (by(try simp only [List.map_toArray,List.map_cons,List.map_nil]);rfl) ?_
 refine(canopyref3_Norm.calls N 2 (some ⟨p2,0,none⟩) 2 [0,0] none 0 [] (some ⟨p4,0,none⟩) 2 (oA p) (some ⟨p5,0,none⟩) 3 (cA p) (some ⟨p6,0,none⟩) 2 (iA p) N 2 r2 r3 r4 r5 r6 _ HK.out.ka.h2 (Nat.le_refl _) (none_row _ _) (Nat.le_refl _) HK.out.ka.h4 (Nat.le_refl _) HK.out.ka.h5 (Nat.le_refl _) HK.out.ka.h6 (Nat.le_refl _) HRF.out).mono ?_
 rintro e we ⟨v2,v3,v4,v5,v6,rfl,hv2,hv3,hv4,hv5,hv6,hb⟩
 obtain⟨E2,n2,rfl⟩:=Kd.V_slice hv2
 have HE2:=Aside0.mk (And.intro (Kd.V_reads' hv2).2.2 (Kd.V_reads' hv2).2.1)
 clear hv2
 obtain⟨E3,n3,rfl⟩:=Kd.V_slice hv3
 have HE3:=Aside0.mk (And.intro (Kd.V_reads' hv3).2.2 (Kd.V_reads' hv3).2.1)
 clear hv3
 obtain⟨E4,n4,rfl⟩:=Kd.V_slice hv4
 have HE4:=Aside0.mk (And.intro (Kd.V_reads' hv4).2.2 (Kd.V_reads' hv4).2.1)
 clear hv4
 obtain⟨E5,n5,rfl⟩:=Kd.V_slice hv5
 have HE5:=Aside0.mk (And.intro (Kd.V_reads' hv5).2.2 (Kd.V_reads' hv5).2.1)
 clear hv5
 obtain⟨E6,n6,rfl⟩:=Kd.V_slice hv6
 have HE6:=Aside0.mk (And.intro (Kd.V_reads' hv6).2.2 (Kd.V_reads' hv6).2.1)
 clear hv6
 have hd:=And.intro (Kd.C_below HD2.out.1 hb) HD2.out.2
 clear HD2
 have HD2:=Aside0.mk hd
 clear hd
 have hd:=And.intro (Kd.C_below HD3.out.1 hb) HD3.out.2
 clear HD3
 have HD3:=Aside0.mk hd
 clear hd
 have hd:=And.intro (Kd.C_below HD4.out.1 hb) HD4.out.2
 clear HD4
 have HD4:=Aside0.mk hd
 clear hd
 have hd:=And.intro (Kd.C_below HD5.out.1 hb) HD5.out.2
 clear HD5
 have HD5:=Aside0.mk hd
 clear hd
 have hd:=And.intro (Kd.C_below HD6.out.1 hb) HD6.out.2
 clear HD6
 have HD6:=Aside0.mk hd
 clear hd
 have HK1:=Aside0.mk (HK.out.below hb)
 have HQ1:=Aside0.mk (blk_below HQ.out hb)
 have HC1:=Aside0.mk (And.intro (And.intro (Kd.C_below HCb.out.1.1 hb) HCb.out.1.2) (And.intro (And.intro (Kd.C_below HCb.out.2.1.1 hb) HCb.out.2.1.2) (And.intro (And.intro (Kd.C_below HCb.out.2.2.1.1 hb) HCb.out.2.2.1.2) (And.intro (Kd.C_below HCb.out.2.2.2.1 hb) HCb.out.2.2.2.2))))
 clear HK HQ HCb
 have HK:=HK1
 have HQ:=HQ1
 have HCb:=HC1
 clear HK1 HQ1 HC1
 clear hb hHeld
 refine⟨_,rfl,?_⟩
 refine hK.out _ _ ⟨(blk_cell HK.out.a 0).trans rfl,(blk_cell HK.out.a 1).trans rfl,(blk_cell HK.out.a 2).trans rfl,(blk_cell HK.out.a 3).trans rfl,(blk_cell HK.out.a 4).trans rfl,(blk_cell HK.out.a 5).trans rfl,(blk_cell HK.out.a 6).trans rfl,(blk_cell HQ.out 0).trans rfl,(blk_cell HQ.out 1).trans rfl,(blk_cell HQ.out 2).trans rfl,(blk_cell HQ.out 3).trans rfl,(blk_cell HQ.out 4).trans rfl,(blk_cell HQ.out 5).trans rfl,(blk_cell HQ.out 6).trans rfl⟩ (fun hHeld=>?_)
 clear hK K
 obtain⟨wq,rfl⟩:∃wq:World,wq=we:=⟨_,rfl⟩
 refine norm_ (a':=?_) ?_ ?_
 rotate_left
 ·show Act.put _ (some 93) _ = _
  simp only [Act.put,M.sq3,i64_w,i32_w]
  rfl
 refine one_ (i:=14) (N:=(some 94)) (pm 15 2) rfl rfl (one_of HT_.out (by kernel_rfl)) (by decide) (fun K hK=>?_)
 refine goes_ Tryz.func23 (by kernel_rfl) rfl #[.agg #[.int .i64 N,.int .i64 2,.slice D2 r2.length d2,.slice D3 r3.length d3,.slice D4 r4.length d4,.slice D5 r5.length d5,.slice D6 r6.length d6],.agg #[.int .i64 N,.int .i64 2,.slice E2 r2.length n2,.slice E3 r3.length n3,.slice E4 r4.length n4,.slice E5 r5.length n5,.slice E6 r6.length n6]] rfl rfl rfl (by(try simp only [List.map_toArray,List.map_cons,List.map_nil]);rfl) ?_
 refine(canopyref3_Same.calls N 2 D2 d2 r2 D3 d3 r3 D4 d4 r4 D5 d5 r5 D6 d6 r6 N 2 E2 n2 r2 E3 n3 r3 E4 n4 r4 E5 n5 r5 E6 n6 r6 _ _ HD2.out.1 HD2.out.2 HD3.out.1 HD3.out.2 HD4.out.1 HD4.out.2 HD5.out.1 HD5.out.2 HD6.out.1 HD6.out.2 HE2.out.1 HE2.out.2 HE3.out.1 HE3.out.2 HE4.out.1 HE4.out.2 HE5.out.1 HE5.out.2 HE6.out.1 HE6.out.2 HSM.out).mono ?_
 rintro e we ⟨rfl,hb⟩
 have HK1:=Aside0.mk (HK.out.below hb)
 have HQ1:=Aside0.mk (blk_below HQ.out hb)
 have HC1:=Aside0.mk (And.intro (And.intro (Kd.C_below HCb.out.1.1 hb) HCb.out.1.2) (And.intro (And.intro (Kd.C_below HCb.out.2.1.1 hb) HCb.out.2.1.2) (And.intro (And.intro (Kd.C_below HCb.out.2.2.1.1 hb) HCb.out.2.2.1.2) (And.intro (Kd.C_below HCb.out.2.2.2.1 hb) HCb.out.2.2.2.2))))
 clear HK HQ HCb
 have HK:=HK1
 have HQ:=HQ1
 have HCb:=HC1
 clear HK1 HQ1 HC1
 clear hb hHeld
 refine⟨_,rfl,?_⟩
 refine hK.out _ _ ⟨(blk_cell HK.out.a 0).trans rfl,(blk_cell HK.out.a 1).trans rfl,(blk_cell HK.out.a 2).trans rfl,(blk_cell HK.out.a 3).trans rfl,(blk_cell HK.out.a 4).trans rfl,(blk_cell HK.out.a 5).trans rfl,(blk_cell HK.out.a 6).trans rfl,(blk_cell HQ.out 0).trans rfl,(blk_cell HQ.out 1).trans rfl,(blk_cell HQ.out 2).trans rfl,(blk_cell HQ.out 3).trans rfl,(blk_cell HQ.out 4).trans rfl,(blk_cell HQ.out 5).trans rfl,(blk_cell HQ.out 6).trans rfl⟩ (fun hHeld=>?_)
 clear hK K
 obtain⟨wq,rfl⟩:∃wq:World,wq=we:=⟨_,rfl⟩
 refine norm_ (a':=?_) ?_ ?_
 rotate_left
 ·show Act.put _ (some 94) _ = _
  simp only [Act.put,M.sq3,i64_w,i32_w]
  rfl
 refine pn_ (v:=?_) (a':=?_) rfl (rfl (a:=some _)) (any_of HT_.out (by kernel_rfl)) (fun _ _ _ h=>h) (Or.inl ⟨by rfl,?_⟩) ?_ ?_;rotate_left;(intro w';go_simp;with_reducible rfl);rotate_left;(simp only [Act.put,M.sq3,i64_w,i32_w];rfl)
 refine pn_ (v:=?_) (a':=?_) rfl (rfl (a:=some _)) (any_of HT_.out (by kernel_rfl)) (fun _ _ _ h=>h) (Or.inl ⟨by rfl,?_⟩) ?_ ?_;rotate_left;(intro w';go_simp;with_reducible rfl);rotate_left;(simp only [Act.put,M.sq3,i64_w,i32_w];rfl)
 refine done_ (done_of HT_.out (by kernel_rfl)) ?_
 go_wp2
 go_ret
 exact⟨rfl,HK.out.b⟩
end Go.Proofs.YtejpijgfpbcibaaGreat.P
