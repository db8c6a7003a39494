/- Words and walks of this claim: SKnown3. -/
import Derived.Test.YtejpijgfpbcibaaGreatRMFar
import Derived.Test.YtejpijgfpbcibaaGreatRSTrim
import Derived.Test.YtejpijgfpbcibaaGreatRSWhole
import Derived.Test.YtejpijgfpbcibaaGreatRSSame3
import Derived.Test.YtejpijgfpbcibaaGreatRPCanopylaw1Syms
set_option linter.unusedVariables false
set_option linter.unusedSimpArgs false
set_option linter.unnecessarySimpa false
namespace Go.Proofs.YtejpijgfpbcibaaGreat.P
open Go.RowKit Go.Sort Go.Shelf Go.Proofs.YtejpijgfpbcibaaGreatW.PrintWords Go.Proofs.YtejpijgfpbcibaaGreatW.PrintLast Go.Proofs.YtejpijgfpbcibaaGreatW.PrintMore Go.Proofs.YtejpijgfpbcibaaGreat.M
theorem flat_at {α:Type} {enc:α→List Value} {sz:Nat} (hk:∀x,(enc x).length=sz):∀(l:List α) (j:Nat) (x:α) (i:Nat),l[j]? = some x→i < sz→(l.flatMap enc)[j*sz+i]? = (enc x)[i]?
 | [],j,x,i,h,_=>by simp at h
 | y :: l,0,x,i,h,hi=>by
  simp at h
  subst h
  rw [List.flatMap_cons,List.getElem?_append_left (by rw [hk];omega)]
  simp
 | y :: l,j+1,x,i,h,hi=>by
  rw [List.flatMap_cons,List.getElem?_append_right (by rw [hk,Nat.add_mul];omega),hk,show (j+1)*sz+i - sz=j*sz+i by rw [Nat.add_mul];omega]
  exact flat_at hk l j x i (by simpa using h) hi
theorem reads_laid {α:Type} {d:Kd α} (enc:α→List Value) {w:World} {g t:Nat} (xs:List α) (hK:∀w x,d.K w x (enc x)) (hl:xs.length≤9223372036854775807) (h:w.heap[g]? = some (.cells (xs.flatMap enc).toArray t (0,0))):Kd.C d w (some ⟨g,0,none⟩) xs.length xs:=by
 have hk:∀x,(enc x).length=d.sz:=fun x=>d.K_len (hK w x)
 refine⟨rfl,hl,fun _=>⟨⟨g,0,none⟩,rfl,fun j p hp=>⟨enc p,hk p,hK w p,fun i u hu=>?_⟩⟩⟩
 have hi:i < d.sz:=by rw [←hk p];exact(List.getElem?_eq_some_iff.1 hu).1
 rw [Addr.add_lit]
 have:=flat_at hk xs j p i hp hi
 rw [hu] at this
 rw [show 0+(j*d.sz+i)=j*d.sz+i by omega]
 exact(blk_cell h _).trans (by simpa using this)
def S7:List S51:=[(⟨(⟨#[97]⟩:ByteArray),1⟩),(⟨(⟨#[97]⟩:ByteArray),2⟩),(⟨(⟨#[98]⟩:ByteArray),3⟩)]
def canopylaw3_known.f:Option Bool:=some true
theorem syms_none:canopylaw1_Syms.f 0 []=some S7:=by kernel_rfl
def kO:List TOpen:=[⟨0,0,0,1⟩]
def kC:List TClose:=[⟨0,1,1,1⟩]
theorem known_trim:auto_Trim.f S7 2 1 [0] [1] kO kC []=some (2,1,[0],[1],kO,kC,[]):=by kernel_rfl
theorem known_trim0:auto_Trim.f S7 0 0 [] [] [] [] []=some (0,0,[],[],[],[],[]):=by kernel_rfl
theorem known_check:auto_Check.f S7 2 1 [0] [1] kO kC []=some 0:=by kernel_rfl
theorem known_check9:auto_Check.f S7 1 0 [] [1] [] [] []=some 9:=by kernel_rfl
theorem known_single:auto_Single.f S7 2 1 [0] [1] kO kC []=some true:=by kernel_rfl
theorem known_whole:auto_Whole.f S7 2 1 [0] [1] kO kC []=some false:=by kernel_rfl
theorem known_norm:auto_Norm.f 2 1 [0] [1] kO kC []=some (2,1,[0],[1],kO,kC,[]):=by kernel_rfl
theorem known_same:canopyref3_Same.f 2 1 [0] [1] kO kC [] 2 1 [0] [1] kO kC []=some true:=by kernel_rfl
theorem auto_cells {w:World} {g t:Nat} {a b c d e f h:Value} (H:w.heap[g]? = some (.cells #[a,b,c,d,e,f,h] t (0,0))):w.cell? ⟨g,0,none⟩=some a∧w.cell? ⟨g,1,none⟩=some b∧w.cell? ⟨g,2,none⟩=some c∧w.cell? ⟨g,3,none⟩=some d∧w.cell? ⟨g,4,none⟩=some e∧w.cell? ⟨g,5,none⟩=some f∧w.cell? ⟨g,6,none⟩=some h∧g < w.heap.size:=
 ⟨(blk_cell H 0).trans rfl,(blk_cell H 1).trans rfl,(blk_cell H 2).trans rfl,(blk_cell H 3).trans rfl,(blk_cell H 4).trans rfl,(blk_cell H 5).trans rfl,(blk_cell H 6).trans rfl,blk_lt H⟩
theorem field0 (a b:Int) (v2 v3 v4 v5 v6:Value) (w' : World):(Instr.field 30 (.agg #[.int .i64 a,.int .i64 b,v2,v3,v4,v5,v6]) 0).run Tryz.prog w' = .ok (.int .i64 a) w':=by
 simp only [Instr.field,Sem.run_bind,run_underlying Tryz.underlying30,Result.andThen_ok]
 go_simp
 simp [asAgg,Result.andThen,Sem.run_bind]
structure K3 (w wq:World) (AS:Option Addr) (cS ga p2 p3 p4 p5:Nat):Prop where
 b:Below w.heap.size w wq
 s:Kd.C k51 wq AS 3 S7
 h2:Kd.C (Kd.int .i64) wq (some ⟨p2,0,none⟩) 1 [0]
 h3:Kd.C (Kd.int .i64) wq (some ⟨p3,0,none⟩) 1 [1]
 h4:Kd.C k36 wq (some ⟨p4,0,none⟩) 1 kO
 h5:Kd.C k38 wq (some ⟨p5,0,none⟩) 1 kC
 a:wq.heap[ga]? = some (.cells #[.int .i64 2,.int .i64 1,.slice (some ⟨p2,0,none⟩) 1 1,.slice (some ⟨p3,0,none⟩) 1 1,.slice (some ⟨p4,0,none⟩) 1 1,.slice (some ⟨p5,0,none⟩) 1 1,.slice none 0 0] 30 (0,0))
theorem K3.below {w wq w' : World} {AS:Option Addr} {cS ga p2 p3 p4 p5:Nat} (h:K3 w wq AS cS ga p2 p3 p4 p5) (hb:Below wq.heap.size wq w'):K3 w w' AS cS ga p2 p3 p4 p5:=
 ⟨below_then h.b h.b.size hb,Kd.C_below h.s hb,Kd.C_below h.h2 hb,Kd.C_below h.h3 hb,Kd.C_below h.h4 hb,Kd.C_below h.h5 hb,blk_below h.a hb⟩
theorem none_row {α:Type} (d:Kd α) (w:World):Kd.C d w none 0 []:=⟨rfl,by simp,fun h=>absurd h (by simp)⟩
theorem one_row {v:Value} {α:Type} {d:Kd α} {e base:Nat} {w:World} {ok:Nat→Prop} {xs:List α} {n:Nat} (h:Kd.V d e w base ok v xs) (hn:xs.length=n):∃A c,v=.slice A n c∧n≤c∧Kd.C d w A xs.length xs:=by
 subst hn
 obtain⟨A,c,rfl⟩:=Kd.V_slice h
 exact⟨A,c,rfl,(Kd.V_reads' h).2.1,(Kd.V_reads' h).2.2⟩
def K3r.T:Bool × List (List Nat × List Nat):=(true,[([],[]),([],[]),([0,1],[0,1]),([2],[2]),([3],[3]),([4,2],[4]),([5],[5]),([5],[5]),([6,7,5,5],[5,6,7]),([8,5],[5,8]),([5,9],[5,9]),([10,8],[10]),([11],[11]),([11],[11]),([12,13,11,11],[11,12,13]),([11,14],[11,14]),([15,14],[15]),([16],[16]),([16],[16]),([17,18,16,16],[16,17,18]),([19,16],[16,19]),([16,20],[16,20]),([21,19],[21]),([22],[22]),([23,22],[22,23]),([24,22],[22,24]),([22,25],[22,25]),([26,22],[26]),([27],[27]),([28,27],[27,28]),([29,27],[27,29]),([30,27],[27,30]),([27,31],[27,31]),([32,27],[32]),([33],[33]),([34,33,33],[33,34]),([33],[33]),([35,36,35,33],[33,35,36]),([33,37],[33,37]),([38,37],[38]),([39],[39]),([39],[39]),([41,39],[39,41]),([40,42,39,39],[39,40,42]),([43,39],[39,43]),([39,44],[39,44]),([45,43,0,1,2,3,4,5,6,7,8,9,10,11,12,13,14,15,16,17,18,19,20,21,22,23,24,25,26,27,28,29,30,31,32,33,34,35,36,37,38,39,40,41,42,43,44,45],[45])])
def K3r.B:List Nat:=[0,0,3,7,15,31,63,63,255,511,1023,2047,4095,4095,16383,32767,65535,131071,131071,524287,1048575,2097151,4194303,8388607,16777215,33554431,67108863,134217727,268435455,536870911,1073741823,2147483647,4294967295,8589934591,17179869183,34359738367,17179869183,137438953471,274877906943,549755813887,1099511627775,1099511627775,3298534883327,8796093022207,17592186044415,35184372088831,70368744177663]
theorem K3r.tab:rtab .any (opsOf Tryz.f12 4)=K3r.T:=by kernel_rfl
theorem K3r.bits:waitsOk K3r.T.2 K3r.B=true:=by kernel_rfl
set_option maxHeartbeats 16000000 in
set_option maxRecDepth 100000 in
theorem canopylaw3_known.calls (r:Bool) (w:World) (h:canopylaw3_known.f=some r) :
 Calls Tryz.prog 12 #[] w fun e w'=>e=.returned (.bool r)∧Below w.heap.size w w':=by
 cases h
 go_enter Tryz.func12,Tryz.ntmps12
 go_wp2_with fail
 refine(canopylaw1_Syms.calls 0 none 0 [] S7 _ (none_row _ _) (Nat.le_refl _) syms_none).mono ?_
 rintro e w1 ⟨v1,rfl,hr1,hb1⟩
 obtain⟨AS,cS,eS,lS,gS⟩:=Kd.R_reads hr1
 replace eS:v1=.slice AS 3 cS:=eS
 subst eS
 have HS:=Aside0.mk gS
 have LS:Aside0 (3≤cS):=⟨lS⟩
 have HB1:=Aside0.mk hb1
 clear hr1 hb1 gS lS
 have HK:Aside0 (K3 w (((((w1.alloc (.cells #[.int .i64 0] 3)).alloc (.cells #[.int .i64 1] 3)).alloc (.cells #[.int .i64 0,.int .i64 0,.int .i64 0,.int .i64 1] 36)).alloc (.cells #[.int .i64 0,.int .i64 1,.int .i64 1,.int .i64 1] 38)).alloc (.cells #[.int .i64 2,.int .i64 1,.slice (some ⟨w1.heap.size,0,none⟩) 1 1,.slice (some ⟨(w1.heap.size+1),0,none⟩) 1 1,.slice (some ⟨(w1.heap.size+1+1),0,none⟩) 1 1,.slice (some ⟨(w1.heap.size+1+1+1),0,none⟩) 1 1,.slice none 0 0] 30)) AS cS (w1.heap.size+1+1+1+1) w1.heap.size (w1.heap.size+1) (w1.heap.size+1+1) (w1.heap.size+1+1+1)):=⟨⟨by repeat (first|exact HB1.out|apply below_alloc),Kd.C_below HS.out (by repeat (first|exact Below.refl _ _|apply below_alloc)),reads_laid (t:=3) (fun x=>[Value.int .i64 x]) [0] (fun _ _=>rfl) (by simp) (blk_old (blk_old (blk_old (blk_old (blk_newAt (w:=w1) (n:=w1.heap.size) _ rfl) _) _) _) _),reads_laid (t:=3) (fun x=>[Value.int .i64 x]) [1] (fun _ _=>rfl) (by simp) (blk_old (blk_old (blk_old (blk_newAt _ (by simp only [size_alloc])) _) _) _),reads_laid (t:=36) (fun x:TOpen=>[Value.int .i64 x.f0,.int .i64 x.f1,.int .i64 x.f2,.int .i64 x.f3]) kO (fun w x=>k36_mk w x) (by simp [kO]) (blk_old (blk_old (blk_newAt _ (by simp only [size_alloc])) _) _),reads_laid (t:=38) (fun x:TClose=>[Value.int .i64 x.f0,.int .i64 x.f1,.int .i64 x.f2,.int .i64 x.f3]) kC (fun w x=>k38_mk w x) (by simp [kC]) (blk_old (blk_newAt _ (by simp only [size_alloc])) _),blk_newAt _ (by simp only [size_alloc])⟩⟩
 clear HS HB1
 go_upto_region 3 with (fail)
 generalize (((((w1.alloc (.cells #[.int .i64 0] 3)).alloc (.cells #[.int .i64 1] 3)).alloc (.cells #[.int .i64 0,.int .i64 0,.int .i64 0,.int .i64 1] 36)).alloc (.cells #[.int .i64 0,.int .i64 1,.int .i64 1,.int .i64 1] 38)).alloc (.cells #[.int .i64 2,.int .i64 1,.slice (some ⟨w1.heap.size,0,none⟩) 1 1,.slice (some ⟨(w1.heap.size+1),0,none⟩) 1 1,.slice (some ⟨(w1.heap.size+1+1),0,none⟩) 1 1,.slice (some ⟨(w1.heap.size+1+1+1),0,none⟩) 1 1,.slice none 0 0] 30))=wq at HK ⊢
 obtain⟨p2,h2⟩:∃p,p=w1.heap.size:=⟨_,rfl⟩
 obtain⟨p3,h3⟩:∃p,p=(w1.heap.size+1):=⟨_,rfl⟩
 obtain⟨p4,h4⟩:∃p,p=(w1.heap.size+1+1):=⟨_,rfl⟩
 obtain⟨p5,h5⟩:∃p,p=(w1.heap.size+1+1+1):=⟨_,rfl⟩
 obtain⟨ga,h6⟩:∃p,p=(w1.heap.size+1+1+1+1):=⟨_,rfl⟩
 rw [←h6,←h5,←h4,←h3,←h2] at HK ⊢
 clear h2 h3 h4 h5 h6
 clear w1
 obtain⟨a0,a1,a2,a3,a4,a5,a6,_⟩:=auto_cells HK.out.a
 go_wp2_with fail
 refine(auto_Trim.calls AS cS S7 2 1 (some ⟨p2,0,none⟩) 1 [0] (some ⟨p3,0,none⟩) 1 [1] (some ⟨p4,0,none⟩) 1 kO (some ⟨p5,0,none⟩) 1 kC none 0 [] _ _ _ _ _ _ _ _ HK.out.s LS.out HK.out.h2 (Nat.le_refl _) HK.out.h3 (Nat.le_refl _) HK.out.h4 (Nat.le_refl _) HK.out.h5 (Nat.le_refl _) (none_row _ _) (Nat.le_refl _) known_trim).mono ?_
 rintro e w2 ⟨v2,v3,v4,v5,v6,rfl,hv2,hv3,hv4,hv5,hv6,hb2⟩
 obtain⟨C2,k2,rfl,-,-⟩:=one_row hv2 (n:=1) rfl
 obtain⟨C3,k3,rfl,-,-⟩:=one_row hv3 (n:=1) rfl
 obtain⟨C4,k4,rfl,-,-⟩:=one_row hv4 (n:=1) rfl
 obtain⟨C5,k5,rfl,-,-⟩:=one_row hv5 (n:=1) rfl
 obtain⟨C6,k6,rfl,-,-⟩:=one_row hv6 (n:=0) rfl
 have HK1:=Aside0.mk ((HK.out.below hb2).below (below_alloc (Below.refl _ _) (.cells #[.int .i64 2,.int .i64 1,.slice C2 1 k2,.slice C3 1 k3,.slice C4 1 k4,.slice C5 1 k5,.slice C6 0 k6] 30)))
 have HQ:Aside0 ((w2.alloc (.cells #[.int .i64 2,.int .i64 1,.slice C2 1 k2,.slice C3 1 k3,.slice C4 1 k4,.slice C5 1 k5,.slice C6 0 k6] 30)).heap[w2.heap.size]? = some (.cells #[.int .i64 2,.int .i64 1,.slice C2 1 k2,.slice C3 1 k3,.slice C4 1 k4,.slice C5 1 k5,.slice C6 0 k6] 30 (0,0))):=⟨blk_newAt _ rfl⟩
 clear HK hb2 a0 a1 a2 a3 a4 a5 a6 hv2 hv3 hv4 hv5 hv6
 have HK:=HK1
 clear HK1
 go_upto_region 4 with (fail)
 obtain⟨wv,hwv⟩:∃wv:World,wv=w2.alloc (.cells #[.int .i64 2,.int .i64 1,.slice C2 1 k2,.slice C3 1 k3,.slice C4 1 k4,.slice C5 1 k5,.slice C6 0 k6] 30):=⟨_,rfl⟩
 obtain⟨gb,hgb⟩:∃g,g=w2.heap.size:=⟨_,rfl⟩
 rw [←hwv] at HK HQ ⊢
 rw [←hgb] at HQ ⊢
 clear hwv hgb
 try clear w2
 try clear wq
 obtain⟨wq,rfl⟩:∃wq:World,wq=wv:=⟨_,rfl⟩
 refine start_ (n:=47) (S:=fun w'=>w'.cell? ⟨ga,0,none⟩=some (.int .i64 2)∧w'.cell? ⟨ga,1,none⟩=some (.int .i64 1)∧w'.cell? ⟨ga,2,none⟩=some (.slice (some ⟨p2,0,none⟩) 1 1)∧w'.cell? ⟨ga,3,none⟩=some (.slice (some ⟨p3,0,none⟩) 1 1)∧w'.cell? ⟨ga,4,none⟩=some (.slice (some ⟨p4,0,none⟩) 1 1)∧w'.cell? ⟨ga,5,none⟩=some (.slice (some ⟨p5,0,none⟩) 1 1)∧w'.cell? ⟨ga,6,none⟩=some (.slice none 0 0)∧w'.cell? ⟨gb,0,none⟩=some (.int .i64 2)∧w'.cell? ⟨gb,4,none⟩=some (.slice C4 1 k4)) (ds:=[46]) (pm 0 47) (by kernel_rfl) rfl rfl ⟨(blk_cell (HK.out.below (below_drew (Below.refl _ _))).a 0).trans rfl,(blk_cell (HK.out.below (below_drew (Below.refl _ _))).a 1).trans rfl,(blk_cell (HK.out.below (below_drew (Below.refl _ _))).a 2).trans rfl,(blk_cell (HK.out.below (below_drew (Below.refl _ _))).a 3).trans rfl,(blk_cell (HK.out.below (below_drew (Below.refl _ _))).a 4).trans rfl,(blk_cell (HK.out.below (below_drew (Below.refl _ _))).a 5).trans rfl,(blk_cell (HK.out.below (below_drew (Below.refl _ _))).a 6).trans rfl,(blk_cell (blk_drew HQ.out) 0).trans rfl,(blk_cell (blk_drew HQ.out) 4).trans rfl⟩ (fun hHeld=>?_)
 refine with_tabW K3r.tab K3r.bits (fun HT_ HW_=>?_)
 have HK1:=Aside0.mk (HK.out.below (below_drew (Below.refl _ _)))
 have HQ1:=Aside0.mk (blk_below HQ.out (below_drew (Below.refl _ _)))
 clear HK HQ
 have HK:=HK1
 have HQ:=HQ1
 clear HK1 HQ1
 obtain⟨wd,hwd⟩:∃wd:World,wd=wq.drew:=⟨_,rfl⟩
 rw [←hwd] at HK HQ hHeld ⊢
 clear hwd
 try clear wq
 obtain⟨wq,rfl⟩:∃wq:World,wq=wd:=⟨_,rfl⟩
 iterate 2 (refine pn_ (v:=?_) (a':=?_) rfl (rfl (a:=some _)) (any_of HT_.out (by kernel_rfl)) (fun _ _ _ h=>h) (Or.inl ⟨by rfl,?_⟩) ?_ ?_;rotate_left;(intro w';go_simp;with_reducible rfl);rotate_left;(simp only [Act.put,M.sq3,i64_w,i32_w];rfl))
 refine one_ (i:=2) (N:=(some 17)) (pm 3 44) rfl rfl (one_of HT_.out (by kernel_rfl)) (by decide) (fun K hK=>?_)
 refine goes_ Tryz.func18 (by kernel_rfl) rfl #[.slice AS 3 cS,.agg #[.int .i64 0,.int .i64 0,.slice none 0 0,.slice none 0 0,.slice none 0 0,.slice none 0 0,.slice none 0 0]] rfl rfl rfl (by(try simp only [List.map_toArray,List.map_cons,List.map_nil]);rfl) ?_
 refine(auto_Trim.calls AS cS S7 0 0 none 0 [] none 0 [] none 0 [] none 0 [] none 0 [] _ _ _ _ _ _ _ _ HK.out.s LS.out (none_row _ _) (Nat.le_refl _) (none_row _ _) (Nat.le_refl _) (none_row _ _) (Nat.le_refl _) (none_row _ _) (Nat.le_refl _) (none_row _ _) (Nat.le_refl _) known_trim0).mono ?_
 rintro e we ⟨y2,y3,y4,y5,y6,rfl,hv2,hv3,hv4,hv5,hv6,hb⟩
 obtain⟨E2,n2,rfl,-,-⟩:=one_row hv2 (n:=0) rfl
 clear hv2
 obtain⟨E3,n3,rfl,-,-⟩:=one_row hv3 (n:=0) rfl
 clear hv3
 obtain⟨E4,n4,rfl,-,-⟩:=one_row hv4 (n:=0) rfl
 clear hv4
 obtain⟨E5,n5,rfl,-,-⟩:=one_row hv5 (n:=0) rfl
 clear hv5
 obtain⟨E6,n6,rfl,-,-⟩:=one_row hv6 (n:=0) rfl
 clear hv6
 have HK1:=Aside0.mk (HK.out.below hb)
 have HQ1:=Aside0.mk (blk_below HQ.out hb)
 clear HK HQ
 have HK:=HK1
 have HQ:=HQ1
 clear HK1 HQ1
 clear hb hHeld
 refine⟨_,rfl,?_⟩
 refine hK.out _ _ ⟨(blk_cell HK.out.a 0).trans rfl,(blk_cell HK.out.a 1).trans rfl,(blk_cell HK.out.a 2).trans rfl,(blk_cell HK.out.a 3).trans rfl,(blk_cell HK.out.a 4).trans rfl,(blk_cell HK.out.a 5).trans rfl,(blk_cell HK.out.a 6).trans rfl,(blk_cell HQ.out 0).trans rfl,(blk_cell HQ.out 4).trans rfl⟩ (fun hHeld=>?_)
 clear hK K
 obtain⟨wq,rfl⟩:∃wq:World,wq=we:=⟨_,rfl⟩
 refine norm_ (a':=?_) ?_ ?_
 rotate_left
 ·show Act.put _ (some 17) _ = _
  simp only [Act.put,M.sq3,i64_w,i32_w]
  rfl
 have hfield:=field0 0 0 (.slice E2 0 n2) (.slice E3 0 n3) (.slice E4 0 n4) (.slice E5 0 n5) (.slice E6 0 n6)
 iterate 5 (first|(refine pn_ (v:=?_) (a':=?_) rfl (rfl (a:=some _)) (any_of HT_.out (by kernel_rfl)) (fun _ _ _ h=>h) (Or.inl ⟨by rfl,?_⟩) ?_ ?_;rotate_left;(intro w';go_simp;with_reducible rfl);rotate_left;(simp only [Act.put,M.sq3,i64_w,i32_w];rfl))|(refine tn_ (v:=?_) (a':=?_) rfl (rfl (a:=some _)) (take_ofW HT_.out HW_.out (by kernel_rfl)) (fun _ _ _ h=>h) (Or.inl ⟨by rfl,?_⟩) hHeld ?_ ?_;rotate_left;(intro w' hS_;obtain⟨s0,s1,s2,s3,s4,s5,s6,s7,s8⟩:=hS_;go_simp;with_reducible rfl);rotate_left;(simp only [Act.put,M.sq3,i64_w,i32_w];rfl)))
 clear hfield
 refine one_ (i:=8) (N:=(some 23)) (pm 9 38) rfl rfl (one_of HT_.out (by kernel_rfl)) (by decide) (fun K hK=>?_)
 refine goes_ Tryz.func15 (by kernel_rfl) rfl #[.slice AS 3 cS,.agg #[.int .i64 2,.int .i64 1,.slice (some ⟨p2,0,none⟩) 1 1,.slice (some ⟨p3,0,none⟩) 1 1,.slice (some ⟨p4,0,none⟩) 1 1,.slice (some ⟨p5,0,none⟩) 1 1,.slice none 0 0]] rfl rfl rfl (by(try simp only [List.map_toArray,List.map_cons,List.map_nil]);rfl) ?_
 refine(auto_Check.calls AS cS S7 2 1 (some ⟨p2,0,none⟩) 1 [0] (some ⟨p3,0,none⟩) 1 [1] (some ⟨p4,0,none⟩) 1 kO (some ⟨p5,0,none⟩) 1 kC none 0 [] _ _ HK.out.s LS.out HK.out.h2 (Nat.le_refl _) HK.out.h3 (Nat.le_refl _) HK.out.h4 (Nat.le_refl _) HK.out.h5 (Nat.le_refl _) (none_row _ _) (Nat.le_refl _) known_check).mono ?_
 rintro e we ⟨rfl,hb⟩
 have HK1:=Aside0.mk (HK.out.below hb)
 have HQ1:=Aside0.mk (blk_below HQ.out hb)
 clear HK HQ
 have HK:=HK1
 have HQ:=HQ1
 clear HK1 HQ1
 clear hb hHeld
 refine⟨_,rfl,?_⟩
 refine hK.out _ _ ⟨(blk_cell HK.out.a 0).trans rfl,(blk_cell HK.out.a 1).trans rfl,(blk_cell HK.out.a 2).trans rfl,(blk_cell HK.out.a 3).trans rfl,(blk_cell HK.out.a 4).trans rfl,(blk_cell HK.out.a 5).trans rfl,(blk_cell HK.out.a 6).trans rfl,(blk_cell HQ.out 0).trans rfl,(blk_cell HQ.out 4).trans rfl⟩ (fun hHeld=>?_)
 clear hK K
 obtain⟨wq,rfl⟩:∃wq:World,wq=we:=⟨_,rfl⟩
 refine norm_ (a':=?_) ?_ ?_
 rotate_left
 ·show Act.put _ (some 23) _ = _
  simp only [Act.put,M.sq3,i64_w,i32_w]
  rfl
 iterate 5 (first|(refine pn_ (v:=?_) (a':=?_) rfl (rfl (a:=some _)) (any_of HT_.out (by kernel_rfl)) (fun _ _ _ h=>h) (Or.inl ⟨by rfl,?_⟩) ?_ ?_;rotate_left;(intro w';go_simp;with_reducible rfl);rotate_left;(simp only [Act.put,M.sq3,i64_w,i32_w];rfl))|(refine tn_ (v:=?_) (a':=?_) rfl (rfl (a:=some _)) (take_ofW HT_.out HW_.out (by kernel_rfl)) (fun _ _ _ h=>h) (Or.inl ⟨by rfl,?_⟩) hHeld ?_ ?_;rotate_left;(intro w' hS_;obtain⟨s0,s1,s2,s3,s4,s5,s6,s7,s8⟩:=hS_;go_simp;with_reducible rfl);rotate_left;(simp only [Act.put,M.sq3,i64_w,i32_w];rfl)))
 refine one_ (i:=14) (N:=(some 29)) (pm 15 32) rfl rfl (one_of HT_.out (by kernel_rfl)) (by decide) (fun K hK=>?_)
 refine goes_ Tryz.func19 (by kernel_rfl) rfl #[.slice AS 3 cS,.agg #[.int .i64 2,.int .i64 1,.slice (some ⟨p2,0,none⟩) 1 1,.slice (some ⟨p3,0,none⟩) 1 1,.slice (some ⟨p4,0,none⟩) 1 1,.slice (some ⟨p5,0,none⟩) 1 1,.slice none 0 0]] rfl rfl rfl (by(try simp only [List.map_toArray,List.map_cons,List.map_nil]);rfl) ?_
 refine(auto_Single.calls AS cS S7 2 1 (some ⟨p2,0,none⟩) 1 [0] (some ⟨p3,0,none⟩) 1 [1] (some ⟨p4,0,none⟩) 1 kO (some ⟨p5,0,none⟩) 1 kC none 0 [] _ _ HK.out.s LS.out HK.out.h2 (Nat.le_refl _) HK.out.h3 (Nat.le_refl _) HK.out.h4 (Nat.le_refl _) HK.out.h5 (Nat.le_refl _) (none_row _ _) (Nat.le_refl _) known_single).mono ?_
 rintro e we ⟨rfl,hb⟩
 have HK1:=Aside0.mk (HK.out.below hb)
 have HQ1:=Aside0.mk (blk_below HQ.out hb)
 clear HK HQ
 have HK:=HK1
 have HQ:=HQ1
 clear HK1 HQ1
 clear hb hHeld
 refine⟨_,rfl,?_⟩
 refine hK.out _ _ ⟨(blk_cell HK.out.a 0).trans rfl,(blk_cell HK.out.a 1).trans rfl,(blk_cell HK.out.a 2).trans rfl,(blk_cell HK.out.a 3).trans rfl,(blk_cell HK.out.a 4).trans rfl,(blk_cell HK.out.a 5).trans rfl,(blk_cell HK.out.a 6).trans rfl,(blk_cell HQ.out 0).trans rfl,(blk_cell HQ.out 4).trans rfl⟩ (fun hHeld=>?_)
 clear hK K
 obtain⟨wq,rfl⟩:∃wq:World,wq=we:=⟨_,rfl⟩
 refine norm_ (a':=?_) ?_ ?_
 rotate_left
 ·show Act.put _ (some 29) _ = _
  simp only [Act.put,M.sq3,i64_w,i32_w]
  rfl
 iterate 4 (first|(refine pn_ (v:=?_) (a':=?_) rfl (rfl (a:=some _)) (any_of HT_.out (by kernel_rfl)) (fun _ _ _ h=>h) (Or.inl ⟨by rfl,?_⟩) ?_ ?_;rotate_left;(intro w';go_simp;with_reducible rfl);rotate_left;(simp only [Act.put,M.sq3,i64_w,i32_w];rfl))|(refine tn_ (v:=?_) (a':=?_) rfl (rfl (a:=some _)) (take_ofW HT_.out HW_.out (by kernel_rfl)) (fun _ _ _ h=>h) (Or.inl ⟨by rfl,?_⟩) hHeld ?_ ?_;rotate_left;(intro w' hS_;obtain⟨s0,s1,s2,s3,s4,s5,s6,s7,s8⟩:=hS_;go_simp;with_reducible rfl);rotate_left;(simp only [Act.put,M.sq3,i64_w,i32_w];rfl)))
 refine one_ (i:=19) (N:=(some 34)) (pm 20 27) rfl rfl (one_of HT_.out (by kernel_rfl)) (by decide) (fun K hK=>?_)
 refine goes_ Tryz.func21 (by kernel_rfl) rfl #[.slice AS 3 cS,.agg #[.int .i64 2,.int .i64 1,.slice (some ⟨p2,0,none⟩) 1 1,.slice (some ⟨p3,0,none⟩) 1 1,.slice (some ⟨p4,0,none⟩) 1 1,.slice (some ⟨p5,0,none⟩) 1 1,.slice none 0 0]] rfl rfl rfl (by(try simp only [List.map_toArray,List.map_cons,List.map_nil]);rfl) ?_
 refine(auto_Whole.calls AS cS S7 2 1 (some ⟨p2,0,none⟩) 1 [0] (some ⟨p3,0,none⟩) 1 [1] (some ⟨p4,0,none⟩) 1 kO (some ⟨p5,0,none⟩) 1 kC none 0 [] _ _ HK.out.s LS.out HK.out.h2 (Nat.le_refl _) HK.out.h3 (Nat.le_refl _) HK.out.h4 (Nat.le_refl _) HK.out.h5 (Nat.le_refl _) (none_row _ _) (Nat.le_refl _) known_whole).mono ?_
 rintro e we ⟨rfl,hb⟩
 have HK1:=Aside0.mk (HK.out.below hb)
 have HQ1:=Aside0.mk (blk_below HQ.out hb)
 clear HK HQ
 have HK:=HK1
 have HQ:=HQ1
 clear HK1 HQ1
 clear hb hHeld
 refine⟨_,rfl,?_⟩
 refine hK.out _ _ ⟨(blk_cell HK.out.a 0).trans rfl,(blk_cell HK.out.a 1).trans rfl,(blk_cell HK.out.a 2).trans rfl,(blk_cell HK.out.a 3).trans rfl,(blk_cell HK.out.a 4).trans rfl,(blk_cell HK.out.a 5).trans rfl,(blk_cell HK.out.a 6).trans rfl,(blk_cell HQ.out 0).trans rfl,(blk_cell HQ.out 4).trans rfl⟩ (fun hHeld=>?_)
 clear hK K
 obtain⟨wq,rfl⟩:∃wq:World,wq=we:=⟨_,rfl⟩
 refine norm_ (a':=?_) ?_ ?_
 rotate_left
 ·show Act.put _ (some 34) _ = _
  simp only [Act.put,M.sq3,i64_w,i32_w]
  rfl
 iterate 15 (first|(refine pn_ (v:=?_) (a':=?_) rfl (rfl (a:=some _)) (any_of HT_.out (by kernel_rfl)) (fun _ _ _ h=>h) (Or.inl ⟨by rfl,?_⟩) ?_ ?_;rotate_left;(intro w';go_simp;with_reducible rfl);rotate_left;(simp only [Act.put,M.sq3,i64_w,i32_w];rfl))|(refine tn_ (v:=?_) (a':=?_) rfl (rfl (a:=some _)) (take_ofW HT_.out HW_.out (by kernel_rfl)) (fun _ _ _ h=>h) (Or.inl ⟨by rfl,?_⟩) hHeld ?_ ?_;rotate_left;(intro w' hS_;obtain⟨s0,s1,s2,s3,s4,s5,s6,s7,s8⟩:=hS_;go_simp;with_reducible rfl);rotate_left;(simp only [Act.put,M.sq3,i64_w,i32_w];rfl)))
 refine to_ 36 (v:=?_) (a':=?_) rfl (rfl (a:=some _)) (take_ofW HT_.out HW_.out (by kernel_rfl)) (fun _ _ _ h=>h) (Or.inl ⟨by rfl,?_⟩) hHeld ?_ ?_;rotate_left;(intro w' hS_;obtain⟨s0,s1,s2,s3,s4,s5,s6,s7,s8⟩:=hS_;go_simp;with_reducible rfl);rotate_left;(simp only [Act.put,M.sq3,i64_w,i32_w];rfl)
 refine one_ (i:=35) (N:=(some 50)) (pm 37 10) rfl rfl (one_of HT_.out (by kernel_rfl)) (by decide) (fun K hK=>?_)
 refine goes_ Tryz.func25 (by kernel_rfl) rfl #[.agg #[.int .i64 2,.int .i64 1,.slice (some ⟨p2,0,none⟩) 1 1,.slice (some ⟨p3,0,none⟩) 1 1,.slice (some ⟨p4,0,none⟩) 1 1,.slice (some ⟨p5,0,none⟩) 1 1,.slice none 0 0]] rfl rfl rfl (by(try simp only [List.map_toArray,List.map_cons,List.map_nil]);rfl) ?_
 refine(auto_Norm.calls 2 1 (some ⟨p2,0,none⟩) 1 [0] (some ⟨p3,0,none⟩) 1 [1] (some ⟨p4,0,none⟩) 1 kO (some ⟨p5,0,none⟩) 1 kC none 0 [] _ _ _ _ _ _ _ _ HK.out.h2 (Nat.le_refl _) HK.out.h3 (Nat.le_refl _) HK.out.h4 (Nat.le_refl _) HK.out.h5 (Nat.le_refl _) (none_row _ _) (Nat.le_refl _) known_norm).mono ?_
 rintro e we ⟨v2,v3,v4,v5,v6,rfl,hv2,hv3,hv4,hv5,hv6,hb⟩
 obtain⟨D2,m2,rfl,hc2,hd2⟩:=one_row hv2 (n:=1) rfl
 have HD2:=Aside0.mk (And.intro hd2 hc2)
 clear hv2 hd2 hc2
 obtain⟨D3,m3,rfl,hc3,hd3⟩:=one_row hv3 (n:=1) rfl
 have HD3:=Aside0.mk (And.intro hd3 hc3)
 clear hv3 hd3 hc3
 obtain⟨D4,m4,rfl,hc4,hd4⟩:=one_row hv4 (n:=1) rfl
 have HD4:=Aside0.mk (And.intro hd4 hc4)
 clear hv4 hd4 hc4
 obtain⟨D5,m5,rfl,hc5,hd5⟩:=one_row hv5 (n:=1) rfl
 have HD5:=Aside0.mk (And.intro hd5 hc5)
 clear hv5 hd5 hc5
 obtain⟨D6,m6,rfl,hc6,hd6⟩:=one_row hv6 (n:=0) rfl
 have HD6:=Aside0.mk (And.intro hd6 hc6)
 clear hv6 hd6 hc6
 have HK1:=Aside0.mk (HK.out.below hb)
 have HQ1:=Aside0.mk (blk_below HQ.out hb)
 clear HK HQ
 have HK:=HK1
 have HQ:=HQ1
 clear HK1 HQ1
 clear hb hHeld
 refine⟨_,rfl,?_⟩
 refine hK.out _ _ ⟨(blk_cell HK.out.a 0).trans rfl,(blk_cell HK.out.a 1).trans rfl,(blk_cell HK.out.a 2).trans rfl,(blk_cell HK.out.a 3).trans rfl,(blk_cell HK.out.a 4).trans rfl,(blk_cell HK.out.a 5).trans rfl,(blk_cell HK.out.a 6).trans rfl,(blk_cell HQ.out 0).trans rfl,(blk_cell HQ.out 4).trans rfl⟩ (fun hHeld=>?_)
 clear hK K
 obtain⟨wq,rfl⟩:∃wq:World,wq=we:=⟨_,rfl⟩
 refine norm_ (a':=?_) ?_ ?_
 rotate_left
 ·show Act.put _ (some 50) _ = _
  simp only [Act.put,M.sq3,i64_w,i32_w]
  rfl
 refine one_ (i:=37) (N:=(some 52)) (pm 38 9) rfl rfl (one_of HT_.out (by kernel_rfl)) (by decide) (fun K hK=>?_)
 refine goes_ Tryz.func23 (by kernel_rfl) rfl #[.agg #[.int .i64 2,.int .i64 1,.slice D2 1 m2,.slice D3 1 m3,.slice D4 1 m4,.slice D5 1 m5,.slice D6 0 m6],.agg #[.int .i64 2,.int .i64 1,.slice (some ⟨p2,0,none⟩) 1 1,.slice (some ⟨p3,0,none⟩) 1 1,.slice (some ⟨p4,0,none⟩) 1 1,.slice (some ⟨p5,0,none⟩) 1 1,.slice none 0 0]] rfl rfl rfl (by(try simp only [List.map_toArray,List.map_cons,List.map_nil]);rfl) ?_
 refine(canopyref3_Same.calls 2 1 D2 m2 [0] D3 m3 [1] D4 m4 kO D5 m5 kC D6 m6 [] 2 1 (some ⟨p2,0,none⟩) 1 [0] (some ⟨p3,0,none⟩) 1 [1] (some ⟨p4,0,none⟩) 1 kO (some ⟨p5,0,none⟩) 1 kC none 0 [] _ _ HD2.out.1 HD2.out.2 HD3.out.1 HD3.out.2 HD4.out.1 HD4.out.2 HD5.out.1 HD5.out.2 HD6.out.1 HD6.out.2 HK.out.h2 (Nat.le_refl _) HK.out.h3 (Nat.le_refl _) HK.out.h4 (Nat.le_refl _) HK.out.h5 (Nat.le_refl _) (none_row _ _) (Nat.le_refl _) known_same).mono ?_
 rintro e we ⟨rfl,hb⟩
 have HK1:=Aside0.mk (HK.out.below hb)
 have HQ1:=Aside0.mk (blk_below HQ.out hb)
 clear HK HQ
 have HK:=HK1
 have HQ:=HQ1
 clear HK1 HQ1
 clear hb hHeld
 refine⟨_,rfl,?_⟩
 refine hK.out _ _ ⟨(blk_cell HK.out.a 0).trans rfl,(blk_cell HK.out.a 1).trans rfl,(blk_cell HK.out.a 2).trans rfl,(blk_cell HK.out.a 3).trans rfl,(blk_cell HK.out.a 4).trans rfl,(blk_cell HK.out.a 5).trans rfl,(blk_cell HK.out.a 6).trans rfl,(blk_cell HQ.out 0).trans rfl,(blk_cell HQ.out 4).trans rfl⟩ (fun hHeld=>?_)
 clear hK K
 obtain⟨wq,rfl⟩:∃wq:World,wq=we:=⟨_,rfl⟩
 refine norm_ (a':=?_) ?_ ?_
 rotate_left
 ·show Act.put _ (some 52) _ = _
  simp only [Act.put,M.sq3,i64_w,i32_w]
  rfl
 iterate 3 (refine pn_ (v:=?_) (a':=?_) rfl (rfl (a:=some _)) (any_of HT_.out (by kernel_rfl)) (fun _ _ _ h=>h) (Or.inl ⟨by rfl,?_⟩) ?_ ?_;rotate_left;(intro w';go_simp;with_reducible rfl);rotate_left;(simp only [Act.put,M.sq3,i64_w,i32_w];rfl))
 refine one_ (i:=41) (N:=(some 56)) (pm 42 5) rfl rfl (one_of HT_.out (by kernel_rfl)) (by decide) (fun K hK=>?_)
 refine step_run (v:=.slice (some ⟨wq.heap.size,0,none⟩) 1 1) (w1:=wq.alloc (.cells #[.int .i64 1] 3)) rfl (by go_simp) ?_
 have HF:Aside0 (Kd.C (Kd.int .i64) (wq.alloc (.cells #[.int .i64 1] 3)) (some ⟨wq.heap.size,0,none⟩) 1 [1]):=⟨reads_laid (t:=3) (fun x=>[Value.int .i64 x]) [1] (fun _ _=>rfl) (by simp) (blk_newAt _ rfl)⟩
 have HK1:=Aside0.mk (HK.out.below (below_alloc (Below.refl _ _) (.cells #[.int .i64 1] 3)))
 have HQ1:=Aside0.mk (blk_below HQ.out (below_alloc (Below.refl _ _) (.cells #[.int .i64 1] 3)))
 clear HK HQ
 have HK:=HK1
 have HQ:=HQ1
 clear HK1 HQ1
 clear hHeld
 refine hK.out _ _ ⟨(blk_cell HK.out.a 0).trans rfl,(blk_cell HK.out.a 1).trans rfl,(blk_cell HK.out.a 2).trans rfl,(blk_cell HK.out.a 3).trans rfl,(blk_cell HK.out.a 4).trans rfl,(blk_cell HK.out.a 5).trans rfl,(blk_cell HK.out.a 6).trans rfl,(blk_cell HQ.out 0).trans rfl,(blk_cell HQ.out 4).trans rfl⟩ (fun hHeld=>?_)
 clear hK K
 obtain⟨wv,hwv⟩:∃wv:World,wv=wq.alloc (.cells #[.int .i64 1] 3):=⟨_,rfl⟩
 rw [←hwv] at HK HQ HF hHeld ⊢
 obtain⟨pf,hpf⟩:∃p,p=wq.heap.size:=⟨_,rfl⟩
 rw [←hpf] at HF ⊢
 clear hwv hpf
 obtain⟨wq,rfl⟩:∃wq:World,wq=wv:=⟨_,rfl⟩
 refine norm_ (a':=?_) ?_ ?_
 rotate_left
 ·show Act.put _ (some 56) _ = _
  simp only [Act.put,M.sq3,i64_w,i32_w]
  rfl
 refine pn_ (v:=?_) (a':=?_) rfl (rfl (a:=some _)) (any_of HT_.out (by kernel_rfl)) (fun _ _ _ h=>h) (Or.inl ⟨by rfl,?_⟩) ?_ ?_;rotate_left;(intro w';go_simp;with_reducible rfl);rotate_left;(simp only [Act.put,M.sq3,i64_w,i32_w];rfl)
 refine one_ (i:=43) (N:=(some 58)) (pm 44 3) rfl rfl (one_of HT_.out (by kernel_rfl)) (by decide) (fun K hK=>?_)
 refine goes_ Tryz.func15 (by kernel_rfl) rfl #[.slice AS 3 cS,.agg #[.int .i64 1,.int .i64 0,.slice none 0 0,.slice (some ⟨pf,0,none⟩) 1 1,.slice none 0 0,.slice none 0 0,.slice none 0 0]] rfl rfl rfl (by(try simp only [List.map_toArray,List.map_cons,List.map_nil]);rfl) ?_
 refine(auto_Check.calls AS cS S7 1 0 none 0 [] (some ⟨pf,0,none⟩) 1 [1] none 0 [] none 0 [] none 0 [] _ _ HK.out.s LS.out (none_row _ _) (Nat.le_refl _) HF.out (Nat.le_refl _) (none_row _ _) (Nat.le_refl _) (none_row _ _) (Nat.le_refl _) (none_row _ _) (Nat.le_refl _) known_check9).mono ?_
 rintro e we ⟨rfl,hb⟩
 have HK1:=Aside0.mk (HK.out.below hb)
 have HQ1:=Aside0.mk (blk_below HQ.out hb)
 clear HK HQ
 have HK:=HK1
 have HQ:=HQ1
 clear HK1 HQ1
 clear hb hHeld
 refine⟨_,rfl,?_⟩
 refine hK.out _ _ ⟨(blk_cell HK.out.a 0).trans rfl,(blk_cell HK.out.a 1).trans rfl,(blk_cell HK.out.a 2).trans rfl,(blk_cell HK.out.a 3).trans rfl,(blk_cell HK.out.a 4).trans rfl,(blk_cell HK.out.a 5).trans rfl,(blk_cell HK.out.a 6).trans rfl,(blk_cell HQ.out 0).trans rfl,(blk_cell HQ.out 4).trans rfl⟩ (fun hHeld=>?_)
 clear hK K
 obtain⟨wq,rfl⟩:∃wq:World,wq=we:=⟨_,rfl⟩
 refine norm_ (a':=?_) ?_ ?_
 rotate_left
 ·show Act.put _ (some 58) _ = _
  simp only [Act.put,M.sq3,i64_w,i32_w]
  rfl
 iterate 2 (refine pn_ (v:=?_) (a':=?_) rfl (rfl (a:=some _)) (any_of HT_.out (by kernel_rfl)) (fun _ _ _ h=>h) (Or.inl ⟨by rfl,?_⟩) ?_ ?_;rotate_left;(intro w';go_simp;with_reducible rfl);rotate_left;(simp only [Act.put,M.sq3,i64_w,i32_w];rfl))
 refine pn_ (v:=?_) (a':=?_) rfl (rfl (a:=some _)) (any_of HT_.out (by kernel_rfl)) (fun _ _ _ h=>h) (Or.inl ⟨by rfl,?_⟩) ?_ ?_;rotate_left;(intro w';go_simp;with_reducible rfl);rotate_left;(simp only [Act.put,M.sq3,i64_w,i32_w];rfl)
 refine done_ (done_of HT_.out (by kernel_rfl)) ?_
 go_wp2
 go_ret
 exact⟨rfl,HK.out.b⟩
end Go.Proofs.YtejpijgfpbcibaaGreat.P
