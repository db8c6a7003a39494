/- Words and walks of this claim: GInner. -/
import Derived.Test.YtejpijgfpbcibaaGreatRMFar
import Derived.Test.YtejpijgfpbcibaaGreatRMHasEtc
import Derived.Test.YtejpijgfpbcibaaGreatRP0Etc
import Derived.Test.YtejpijgfpbcibaaGreatRLOpenEtc
set_option linter.unusedVariables false
set_option linter.unusedSimpArgs false
set_option linter.unnecessarySimpa false
namespace Go.Proofs.YtejpijgfpbcibaaGreat.P
open Go.RowKit Go.Proofs.YtejpijgfpbcibaaGreatW.PrintWords Go.Proofs.YtejpijgfpbcibaaGreatW.PrintLast Go.Proofs.YtejpijgfpbcibaaGreatW.PrintMore Go.Proofs.YtejpijgfpbcibaaGreat.M
open Go.Sort Go.Shelf
set_option maxHeartbeats 8000000 in
set_option maxRecDepth 100000 in
theorem orderInner_calls (a0 a1 a2 b0 b1 b2:Int) (w:World) :
 Calls Tryz.prog 48 #[.agg #[.int .i64 a0,.int .i64 a1,.int .i64 a2],.agg #[.int .i64 b0,.int .i64 b1,.int .i64 b2]] w fun e w'=>e=.returned (.int .i64 (orInt (cmpInt a0 b0) (orInt (cmpInt a1 b1) (cmpInt a2 b2))))∧GD w w':=by
 go_enter Tryz.func48,Tryz.ntmps48
 go_wp2
 have H2:Aside0 (((w.alloc (.cells #[.int .i64 a0,.int .i64 a1,.int .i64 a2] 40)).alloc (.cells #[.int .i64 b0,.int .i64 b1,.int .i64 b2] 40)).drew.heap[w.heap.size]? = some (.cells #[.int .i64 a0,.int .i64 a1,.int .i64 a2] 40 (0,0))):=⟨blk_old (blk_newAt _ rfl) _⟩
 have H3:Aside0 (((w.alloc (.cells #[.int .i64 a0,.int .i64 a1,.int .i64 a2] 40)).alloc (.cells #[.int .i64 b0,.int .i64 b1,.int .i64 b2] 40)).drew.heap[w.heap.size+1]? = some (.cells #[.int .i64 b0,.int .i64 b1,.int .i64 b2] 40 (0,0))):=⟨blk_newAt _ (size_alloc _ _).symm⟩
 have HG:Aside0 (GD w ((w.alloc (.cells #[.int .i64 a0,.int .i64 a1,.int .i64 a2] 40)).alloc (.cells #[.int .i64 b0,.int .i64 b1,.int .i64 b2] 40)).drew):=⟨(((GD.refl w).alloc _).alloc _).drew⟩
 refine start_ (n:=18) (S:=fun w'=>w'.cell? ⟨w.heap.size,0,none⟩=some (.int .i64 a0)∧w'.cell? ⟨w.heap.size,1,none⟩=some (.int .i64 a1)∧w'.cell? ⟨w.heap.size,2,none⟩=some (.int .i64 a2)∧w'.cell? ⟨w.heap.size+1,0,none⟩=some (.int .i64 b0)∧w'.cell? ⟨w.heap.size+1,1,none⟩=some (.int .i64 b1)∧w'.cell? ⟨w.heap.size+1,2,none⟩=some (.int .i64 b2)) (ds:=[]) #[false,false,false,false,false,false,false,false,false,false,false,false,false,false,false,false,false,false] (by kernel_rfl) rfl rfl ⟨(blk_cell H2.out 0).trans rfl,(blk_cell H2.out 1).trans rfl,(blk_cell H2.out 2).trans rfl,(blk_cell H3.out 0).trans rfl,(blk_cell H3.out 1).trans rfl,(blk_cell H3.out 2).trans rfl⟩ (fun hHeld=>?_)
 generalize ((w.alloc (.cells #[.int .i64 a0,.int .i64 a1,.int .i64 a2] 40)).alloc (.cells #[.int .i64 b0,.int .i64 b1,.int .i64 b2] 40)).drew=wd at H2 H3 HG hHeld ⊢
 refine pure_ (i:=0) (N:=(some 5)) (v:=?_) (a':=?_) #[true,false,false,false,false,false,false,false,false,false,false,false,false,false,false,false,false,false] rfl rfl (by kernel_rfl) (fun _ _ _ h=>h) (Or.inl ⟨by rfl,?_⟩) ?_ ?_
 rotate_left
 ·intro w'
  go_simp
  with_reducible rfl
 rotate_left
 ·simp only [Act.put, M.sq3, i64_w, i32_w]
  rfl
 refine pure_ (i:=2) (N:=(some 7)) (v:=?_) (a':=?_) #[true,false,true,false,false,false,false,false,false,false,false,false,false,false,false,false,false,false] rfl rfl (by kernel_rfl) (fun _ _ _ h=>h) (Or.inl ⟨by rfl,?_⟩) ?_ ?_
 rotate_left
 ·intro w'
  go_simp
  with_reducible rfl
 rotate_left
 ·simp only [Act.put, M.sq3, i64_w, i32_w]
  rfl
 refine pure_ (i:=5) (N:=(some 10)) (v:=?_) (a':=?_) #[true,false,true,false,false,true,false,false,false,false,false,false,false,false,false,false,false,false] rfl rfl (by kernel_rfl) (fun _ _ _ h=>h) (Or.inl ⟨by rfl,?_⟩) ?_ ?_
 rotate_left
 ·intro w'
  go_simp
  with_reducible rfl
 rotate_left
 ·simp only [Act.put, M.sq3, i64_w, i32_w]
  rfl
 refine pure_ (i:=7) (N:=(some 12)) (v:=?_) (a':=?_) #[true,false,true,false,false,true,false,true,false,false,false,false,false,false,false,false,false,false] rfl rfl (by kernel_rfl) (fun _ _ _ h=>h) (Or.inl ⟨by rfl,?_⟩) ?_ ?_
 rotate_left
 ·intro w'
  go_simp
  with_reducible rfl
 rotate_left
 ·simp only [Act.put, M.sq3, i64_w, i32_w]
  rfl
 refine pure_ (i:=10) (N:=(some 15)) (v:=?_) (a':=?_) #[true,false,true,false,false,true,false,true,false,false,true,false,false,false,false,false,false,false] rfl rfl (by kernel_rfl) (fun _ _ _ h=>h) (Or.inl ⟨by rfl,?_⟩) ?_ ?_
 rotate_left
 ·intro w'
  go_simp
  with_reducible rfl
 rotate_left
 ·simp only [Act.put, M.sq3, i64_w, i32_w]
  rfl
 refine pure_ (i:=12) (N:=(some 17)) (v:=?_) (a':=?_) #[true,false,true,false,false,true,false,true,false,false,true,false,true,false,false,false,false,false] rfl rfl (by kernel_rfl) (fun _ _ _ h=>h) (Or.inl ⟨by rfl,?_⟩) ?_ ?_
 rotate_left
 ·intro w'
  go_simp
  with_reducible rfl
 rotate_left
 ·simp only [Act.put, M.sq3, i64_w, i32_w]
  rfl
 refine take_ (i:=1) (N:=(some 6)) (v:=?_) (a':=?_) #[true,true,true,false,false,true,false,true,false,false,true,false,true,false,false,false,false,false] rfl rfl (by kernel_rfl) (fun _ _ _ h=>h) (Or.inl ⟨by rfl,?_⟩) hHeld ?_ ?_
 rotate_left
 ·intro w' hS_
  obtain⟨s0,s1,s2,s3,s4,s5⟩:=hS_
  go_simp
  with_reducible rfl
 rotate_left
 ·simp only [Act.put, M.sq3, i64_w, i32_w]
  rfl
 refine take_ (i:=3) (N:=(some 8)) (v:=?_) (a':=?_) #[true,true,true,true,false,true,false,true,false,false,true,false,true,false,false,false,false,false] rfl rfl (by kernel_rfl) (fun _ _ _ h=>h) (Or.inl ⟨by rfl,?_⟩) hHeld ?_ ?_
 rotate_left
 ·intro w' hS_
  obtain⟨s0,s1,s2,s3,s4,s5⟩:=hS_
  go_simp
  with_reducible rfl
 rotate_left
 ·simp only [Act.put, M.sq3, i64_w, i32_w]
  rfl
 refine take_ (i:=6) (N:=(some 11)) (v:=?_) (a':=?_) #[true,true,true,true,false,true,true,true,false,false,true,false,true,false,false,false,false,false] rfl rfl (by kernel_rfl) (fun _ _ _ h=>h) (Or.inl ⟨by rfl,?_⟩) hHeld ?_ ?_
 rotate_left
 ·intro w' hS_
  obtain⟨s0,s1,s2,s3,s4,s5⟩:=hS_
  go_simp
  with_reducible rfl
 rotate_left
 ·simp only [Act.put, M.sq3, i64_w, i32_w]
  rfl
 refine take_ (i:=8) (N:=(some 13)) (v:=?_) (a':=?_) #[true,true,true,true,false,true,true,true,true,false,true,false,true,false,false,false,false,false] rfl rfl (by kernel_rfl) (fun _ _ _ h=>h) (Or.inl ⟨by rfl,?_⟩) hHeld ?_ ?_
 rotate_left
 ·intro w' hS_
  obtain⟨s0,s1,s2,s3,s4,s5⟩:=hS_
  go_simp
  with_reducible rfl
 rotate_left
 ·simp only [Act.put, M.sq3, i64_w, i32_w]
  rfl
 refine take_ (i:=11) (N:=(some 16)) (v:=?_) (a':=?_) #[true,true,true,true,false,true,true,true,true,false,true,true,true,false,false,false,false,false] rfl rfl (by kernel_rfl) (fun _ _ _ h=>h) (Or.inl ⟨by rfl,?_⟩) hHeld ?_ ?_
 rotate_left
 ·intro w' hS_
  obtain⟨s0,s1,s2,s3,s4,s5⟩:=hS_
  go_simp
  with_reducible rfl
 rotate_left
 ·simp only [Act.put, M.sq3, i64_w, i32_w]
  rfl
 refine take_ (i:=13) (N:=(some 18)) (v:=?_) (a':=?_) #[true,true,true,true,false,true,true,true,true,false,true,true,true,true,false,false,false,false] rfl rfl (by kernel_rfl) (fun _ _ _ h=>h) (Or.inl ⟨by rfl,?_⟩) hHeld ?_ ?_
 rotate_left
 ·intro w' hS_
  obtain⟨s0,s1,s2,s3,s4,s5⟩:=hS_
  go_simp
  with_reducible rfl
 rotate_left
 ·simp only [Act.put, M.sq3, i64_w, i32_w]
  rfl
 refine one_ (i:=4) (N:=(some 9)) #[true,true,true,true,true,true,true,true,true,false,true,true,true,true,false,false,false,false] rfl rfl (by kernel_rfl) (by decide) (fun K hK=>?_)
 refine goes_ Tryz.func65 (by kernel_rfl) rfl #[.int .i64 a0,.int .i64 b0] rfl rfl rfl (by(try simp only [List.map_toArray,List.map_cons,List.map_nil]);rfl) ?_
 refine(cmp_Compare_int.calls a0 b0 (cmpInt a0 b0) _ (compare_f a0 b0)).mono ?_
 rintro e w' ⟨rfl,⟨nd,hnd⟩⟩
 subst hnd
 refine⟨_,rfl,?_⟩
 replace H2:=Aside0.mk (blk_drewN H2.out nd)
 replace H3:=Aside0.mk (blk_drewN H3.out nd)
 replace HG:=Aside0.mk (HG.out.drewN nd)
 generalize hw_:World.drewN _ nd=w1 at H2 H3 HG ⊢
 clear hw_
 refine hK.out _ _ ⟨(blk_cell H2.out 0).trans rfl,(blk_cell H2.out 1).trans rfl,(blk_cell H2.out 2).trans rfl,(blk_cell H3.out 0).trans rfl,(blk_cell H3.out 1).trans rfl,(blk_cell H3.out 2).trans rfl⟩ (fun hHeld=>?_)
 clear hK K
 refine norm_ (a':=?_) ?_ ?_
 rotate_left
 ·show Act.put _ (some 9) _ = _
  simp only [Act.put,M.sq3,i64_w,i32_w]
  rfl
 refine one_ (i:=9) (N:=(some 14)) #[true,true,true,true,true,true,true,true,true,true,true,true,true,true,false,false,false,false] rfl rfl (by kernel_rfl) (by decide) (fun K hK=>?_)
 refine goes_ Tryz.func65 (by kernel_rfl) rfl #[.int .i64 a1,.int .i64 b1] rfl rfl rfl (by(try simp only [List.map_toArray,List.map_cons,List.map_nil]);rfl) ?_
 refine(cmp_Compare_int.calls a1 b1 (cmpInt a1 b1) _ (compare_f a1 b1)).mono ?_
 rintro e w' ⟨rfl,⟨nd,hnd⟩⟩
 subst hnd
 refine⟨_,rfl,?_⟩
 replace H2:=Aside0.mk (blk_drewN H2.out nd)
 replace H3:=Aside0.mk (blk_drewN H3.out nd)
 replace HG:=Aside0.mk (HG.out.drewN nd)
 generalize hw_:World.drewN _ nd=w2 at H2 H3 HG ⊢
 clear hw_
 refine hK.out _ _ ⟨(blk_cell H2.out 0).trans rfl,(blk_cell H2.out 1).trans rfl,(blk_cell H2.out 2).trans rfl,(blk_cell H3.out 0).trans rfl,(blk_cell H3.out 1).trans rfl,(blk_cell H3.out 2).trans rfl⟩ (fun hHeld=>?_)
 clear hK K
 refine norm_ (a':=?_) ?_ ?_
 rotate_left
 ·show Act.put _ (some 14) _ = _
  simp only [Act.put,M.sq3,i64_w,i32_w]
  rfl
 refine one_ (i:=14) (N:=(some 19)) #[true,true,true,true,true,true,true,true,true,true,true,true,true,true,true,false,false,false] rfl rfl (by kernel_rfl) (by decide) (fun K hK=>?_)
 refine goes_ Tryz.func65 (by kernel_rfl) rfl #[.int .i64 a2,.int .i64 b2] rfl rfl rfl (by(try simp only [List.map_toArray,List.map_cons,List.map_nil]);rfl) ?_
 refine(cmp_Compare_int.calls a2 b2 (cmpInt a2 b2) _ (compare_f a2 b2)).mono ?_
 rintro e w' ⟨rfl,⟨nd,hnd⟩⟩
 subst hnd
 refine⟨_,rfl,?_⟩
 replace H2:=Aside0.mk (blk_drewN H2.out nd)
 replace H3:=Aside0.mk (blk_drewN H3.out nd)
 replace HG:=Aside0.mk (HG.out.drewN nd)
 generalize hw_:World.drewN _ nd=w3 at H2 H3 HG ⊢
 clear hw_
 refine hK.out _ _ ⟨(blk_cell H2.out 0).trans rfl,(blk_cell H2.out 1).trans rfl,(blk_cell H2.out 2).trans rfl,(blk_cell H3.out 0).trans rfl,(blk_cell H3.out 1).trans rfl,(blk_cell H3.out 2).trans rfl⟩ (fun hHeld=>?_)
 clear hK K
 refine norm_ (a':=?_) ?_ ?_
 rotate_left
 ·show Act.put _ (some 19) _ = _
  simp only [Act.put,M.sq3,i64_w,i32_w]
  rfl
 refine one_ (i:=15) (N:=(some 20)) #[true,true,true,true,true,true,true,true,true,true,true,true,true,true,true,true,false,false] rfl rfl (by kernel_rfl) (by decide) (fun K hK=>?_)
 refine step_run (v:=.slice (some ⟨w3.heap.size,0,none⟩) 3 3) (w1:=w3.alloc (.cells #[.int .i64 (cmpInt a0 b0),.int .i64 (cmpInt a1 b1),.int .i64 (cmpInt a2 b2)] 3)) rfl (by go_simp) ?_
 replace H2:=Aside0.mk (blk_old H2.out (.cells #[.int .i64 (cmpInt a0 b0),.int .i64 (cmpInt a1 b1),.int .i64 (cmpInt a2 b2)] 3))
 replace H3:=Aside0.mk (blk_old H3.out (.cells #[.int .i64 (cmpInt a0 b0),.int .i64 (cmpInt a1 b1),.int .i64 (cmpInt a2 b2)] 3))
 replace HG:=Aside0.mk (HG.out.alloc (.cells #[.int .i64 (cmpInt a0 b0),.int .i64 (cmpInt a1 b1),.int .i64 (cmpInt a2 b2)] 3))
 have HR:=Aside0.mk (blk_newAt (w:=w3) (n:=w3.heap.size) (.cells #[.int .i64 (cmpInt a0 b0),.int .i64 (cmpInt a1 b1),.int .i64 (cmpInt a2 b2)] 3) rfl)
 refine hK.out _ _ ⟨(blk_cell H2.out 0).trans rfl,(blk_cell H2.out 1).trans rfl,(blk_cell H2.out 2).trans rfl,(blk_cell H3.out 0).trans rfl,(blk_cell H3.out 1).trans rfl,(blk_cell H3.out 2).trans rfl⟩ (fun hHeld=>?_)
 clear hK K
 refine norm_ (a':=?_) ?_ ?_
 rotate_left
 ·show Act.put _ (some 20) _ = _
  simp only [Act.put,M.sq3,i64_w,i32_w]
  rfl
 refine one_ (i:=16) (N:=(some 21)) #[true,true,true,true,true,true,true,true,true,true,true,true,true,true,true,true,true,false] rfl rfl (by kernel_rfl) (by decide) (fun K hK=>?_)
 refine goes_ Tryz.func64 (by kernel_rfl) rfl #[.slice (some ⟨w3.heap.size,0,none⟩) 3 3] rfl rfl rfl (by(try simp only [List.map_toArray,List.map_cons,List.map_nil]);rfl) ?_
 refine(cmp_Or_int.calls 4 (some ⟨w3.heap.size,0,none⟩) 3 [cmpInt a0 b0,cmpInt a1 b1,cmpInt a2 b2] (orInt (cmpInt a0 b0) (orInt (cmpInt a1 b1) (cmpInt a2 b2))) _ (reads_block (xs:=[cmpInt a0 b0,cmpInt a1 b1,cmpInt a2 b2]) HR.out (by simp)) (Nat.le_refl _) (or_f3 (cmpInt a0 b0) (cmpInt a1 b1) (cmpInt a2 b2))).mono ?_
 rintro e w' ⟨rfl,⟨nd,hnd⟩⟩
 subst hnd
 refine⟨_,rfl,?_⟩
 replace H2:=Aside0.mk (blk_drewN H2.out nd)
 replace H3:=Aside0.mk (blk_drewN H3.out nd)
 replace HG:=Aside0.mk (HG.out.drewN nd)
 replace HR:=Aside0.mk (blk_drewN HR.out nd)
 generalize hw_:World.drewN _ nd=w4 at H2 H3 HG HR ⊢
 clear hw_
 refine hK.out _ _ ⟨(blk_cell H2.out 0).trans rfl,(blk_cell H2.out 1).trans rfl,(blk_cell H2.out 2).trans rfl,(blk_cell H3.out 0).trans rfl,(blk_cell H3.out 1).trans rfl,(blk_cell H3.out 2).trans rfl⟩ (fun hHeld=>?_)
 clear hK K
 refine norm_ (a':=?_) ?_ ?_
 rotate_left
 ·show Act.put _ (some 21) _ = _
  simp only [Act.put,M.sq3,i64_w,i32_w]
  rfl
 refine pure_ (i:=17) (N:=(some 4)) (v:=?_) (a':=?_) #[true,true,true,true,true,true,true,true,true,true,true,true,true,true,true,true,true,true] rfl rfl (by kernel_rfl) (fun _ _ _ h=>h) (Or.inl ⟨by rfl,?_⟩) ?_ ?_
 rotate_left
 ·intro w'
  go_simp
  with_reducible rfl
 rotate_left
 ·simp only [Act.put, M.sq3, i64_w, i32_w]
  rfl
 refine done_ (by kernel_rfl) ?_
 try go_wp2
 go_ret
 exact⟨rfl,HG.out⟩
def encInner (p:TInner):List Value:=[.int .i64 p.f0,.int .i64 p.f1,.int .i64 p.f2]
theorem hkInner:∀p:TInner,(encInner p).length=3:=fun _=>rfl
def InnerRow (w:World) (base:Nat) (v:Value) (es:List TInner):Prop:=w.ownsRow base 40 3 v es.length (es.flatMap encInner)
theorem sort_Inner (w:World) (base g n cap:Nat) (es:List TInner) (hn:n=es.length) (hl:es.length≤1000000000) (ho:InnerRow w base (.slice (some ⟨g,0,none⟩) n cap) es) :
 Calls Tryz.prog 71 #[.slice (some ⟨g,0,none⟩) n cap,.func (.func 48) #[] #[]] w fun e w'=>e=.returned (.tuple #[])∧
  ∃es',es'.Perm es∧es'.Pairwise (fun p q=>¬cmpInner q p < 0)∧InnerRow w' base (.slice (some ⟨g,0,none⟩) n cap) es'∧w.grownBy w' (some g):=by
 subst hn
 obtain⟨g',cur,hg',hb,hg,hnc,hcm,hsz,htk⟩:=row_block ho
 cases hg'
 have eg:∀args w,(callFunc 48 args).run Tryz.prog w=.ok (.enter 48 args) w:=enters_of Tryz.func48 (by kernel_rfl) rfl
 haveI:Inhabited TInner:=⟨⟨0,0,0⟩⟩
 let d:Array TInner:=es.toArray
 have hd:d.size=es.length:=by simp [d]
 have hH:HoldsK encInner 3 w g 0 d:=holds_of_own hkInner hd ho
 have hT:TotalCmp cmpInner:=totalInner
 have hO:SWO (ltOf cmpInner):=⟨fun x=>(hT.swo).irrefl _,fun x y z=>(hT.swo).trans _ _ _,fun x y z=>(hT.swo).ntrans _ _ _⟩
 have hcmp:CmpLays Tryz.prog 48 #[] encInner 3 cmpInner g 0 d.size w:=by
  intro m os dk hdk x y
  have:=orderInner_calls x.f0 x.f1 x.f2 y.f0 y.f1 y.f2 (sortWorldK encInner 3 w g 0 m dk os)
  exact this.mono fun e w' ⟨he,q,os',hw⟩=>⟨he,q,os',hw⟩
 have hcon:=AnyQ.slices_SortFunc Tryz.sortInner 3 Tryz.isAgg40 Tryz.sizeOf40 encInner hkInner (fun x v hv=>by
  simp [encInner] at hv
  rcases hv with rfl|rfl|rfl<;>rfl) cmpInner hO 48 #[] g 0 cap d w eg hcmp hH (Array.getElem?_eq_some_iff.1 hg).1 (by rw [hd];omega)
 rw [hd] at hcon
 refine hcon.mono ?_
 rintro e w' ⟨he,d',m,os,hp,hso,rfl⟩
 have hd' : d'.size=es.length:=hp.1.trans hd
 obtain⟨o1,o2⟩:=own_sorted (enc:=encInner) hkInner (d':=d') hd' m os ho
 have hperm:d'.toList.Perm es:=by
  have h1:=hp.2.2
  rw [Array.extract_eq_self_of_le (by omega),Array.extract_eq_self_of_le (by omega)] at h1
  exact h1
 refine⟨he,d'.toList,hperm,?_,?_,o2⟩
 ·rw [List.pairwise_iff_getElem]
  intro i j hi hj hij
  have:=hso i j (Nat.zero_le _) hij (by simpa [hd'] using hj)
  rw [getElem!_pos d' j (by simpa using hj),getElem!_pos d' i (by simpa using hi)] at this
  simpa [ltOf] using this
 unfold InnerRow
 rw [hperm.length_eq]
 exact o1
def eqInner (p q:TInner):Bool:=p.f0 == q.f0 && (p.f1 == q.f1 && p.f2 == q.f2)
theorem eqInner_iff (p q:TInner):eqInner p q=decide (cmpInner p q=0):=by
 have:=totalInner.zero (x:=p) (y:=q)
 rw [Bool.eq_iff_iff,decide_eq_true_eq,this]
 cases p;cases q
 simp [eqInner,and_assoc]
attribute [local go_sem high] eqA40
set_option maxHeartbeats 8000000 in
set_option maxRecDepth 100000 in
theorem compact_Inner (w:World) (base g n cap:Nat) (es:List TInner) (hn:n=es.length) (hl:es.length≤1000000000) (ho:InnerRow w base (.slice (some ⟨g,0,none⟩) n cap) es) :
 Calls Tryz.prog 73 #[.slice (some ⟨g,0,none⟩) n cap] w fun e w'=>e=.returned (.slice (some ⟨g,0,none⟩) (dd eqInner es).length cap)∧
  InnerRow w' base (.slice (some ⟨g,0,none⟩) (dd eqInner es).length cap) (dd eqInner es)∧w.grownBy w' (some g):=by
 subst hn
 obtain⟨hh,hb,hc⟩:=HasN.of_own rfl ho
 obtain⟨cur0,hg0,_⟩:=id hh
 have HH:=Aside0.mk hh
 have HO:=Aside0.mk ho
 have HG0:=Aside0.mk hg0
 have hcap:=hh
 obtain⟨_,_,_,hcap,_⟩:=hcap
 have HC:=Aside0.mk (And.intro hb (And.intro hc (And.intro hl hcap)))
 have same:Aside0 (∀w',GD w w'→dd eqInner es=es→InnerRow w' base (.slice (some ⟨g,0,none⟩) (dd eqInner es).length cap) (dd eqInner es)∧w.grownBy w' (some g)):=⟨fun w' hw he=>by
  rw [he]
  refine⟨(HH.out.move (hw.below.block g HH.out.lt)).own hkInner HC.out.1 HC.out.2.1,?_⟩
  have b:=hw.below
  exact⟨b.os,b.tape,b.output,b.size,fun k hk _=>b.block k hk⟩⟩
 clear ho hh hb hc hg0 hcap
 by_cases h2:es.length < 2
 ·have d2 : decide ((es.length : Int) < 2) = true := decide_eq_true (by omega)
  have hone:=Aside0.mk (dd_one eqInner es (by omega))
  clear h2 hl
  go_enter Tryz.func73,Tryz.ntmps73
  go_wp2
  go_ret
  have:=same.out w (GD.refl w) hone.out
  exact⟨by rw [hone.out];rfl,this.1,this.2⟩
 have d2 : decide ((es.length : Int) < 2) = false := decide_eq_false (by omega)
 clear hl
 go_enter Tryz.func73,Tryz.ntmps73
 go_wp2
 go_loopg [3] es.length (fun gq v5 w'=>∃i:Nat,v5=.int .i64 ((i:Int)+1)∧Aside0 (i+1≤es.length∧es.length - (i+1)≤gq)∧Aside0 (dd eqInner (es.take (i+1))=es.take (i+1))∧Aside0 (GD w w'))
 case atStart=>exact⟨0,rfl,⟨by omega,by omega⟩,⟨dd_one _ _ (by simp;omega)⟩,⟨GD.refl w⟩⟩
 case' round=>skip
 obtain⟨i,rfl,Hi,Hd,Hg⟩:=hrel
 by_cases hlt:i+1 < es.length
 ·have d3 : decide ((i : Int) + 1 < (es.length : Int)) = true := decide_eq_true (by omega)
  have t1:=eq_true (show (0:Int)≤(i:Int)+1 by omega)
  have t2:=eq_true (show (i:Int)+1 < (es.length:Int) by omega)
  have t3:=eq_true (show (0:Int)≤(i:Int) by omega)
  have t4:=eq_true (show (i:Int) < (es.length:Int) by omega)
  have wr1:wrap64 (i:Int)=(i:Int):=by have:=HC.out.2.2.1;unfold wrap64;omega
  have HL:=Aside0.mk hlt
  have HHr:=HH.out.move (Hg.out.below.block g HH.out.lt)
  have c0:=HHr.cell hkInner (i+1) hlt 0 (.int .i64 es[i+1].f0) rfl
  have c1:=HHr.cell hkInner (i+1) hlt 1 (.int .i64 es[i+1].f1) rfl
  have c2:=HHr.cell hkInner (i+1) hlt 2 (.int .i64 es[i+1].f2) rfl
  have c3:=HHr.cell hkInner i (by omega) 0 (.int .i64 (es[i]'(by omega)).f0) rfl
  have c4:=HHr.cell hkInner i (by omega) 1 (.int .i64 (es[i]'(by omega)).f1) rfl
  have c5:=HHr.cell hkInner i (by omega) 2 (.int .i64 (es[i]'(by omega)).f2) rfl
  simp only [Nat.add_zero] at c0 c3
  clear HHr h2
  have Hn:=Aside0.mk (dd_next eqInner es (i+1) (by omega) hlt)
  simp only [Nat.add_sub_cancel] at Hn
  obtain⟨x,hx⟩:∃x,x=es[i+1]:=⟨_,rfl⟩
  rw [←hx] at c0 c1 c2 Hn
  have Hx:Aside0 (es[i+1]? = some x):=⟨by rw [hx];exact List.getElem?_eq_getElem hlt⟩
  clear hx
  generalize es[i]'(by omega)=y at c3 c4 c5 Hn
  clear hlt
  obtain⟨x0,x1,x2⟩:=x
  obtain⟨y0,y1,y2⟩:=y
  have Hc:Aside0 (eqInner { f0:=x0,f1:=x1,f2:=x2 } { f0:=y0,f1:=y1,f2:=y2 } = (x0 == y0 && (x1 == y1 && x2 == y2))):=⟨rfl⟩
  go_wp2
  go_quiet (fail)
  obtain⟨nq1,rfl⟩:∃m:Nat,m=nq:=⟨_,rfl⟩
  have Hw:=Aside0.mk (Hg.out.drewN nq1)
  generalize wr.drewN nq1=w3 at Hw ⊢
  clear c0 c1 c2 c3 c4 c5
  generalize (x0 == y0 && (x1 == y1 && x2 == y2))=bb at Hc ⊢
  cases bb with
  | false=>
   go_wp2
   go_roundg (es.length - (i+2))
   case measure=>have:=Hi.out;have:=HL.out;omega
   case rel=>exact⟨i+1,by have:=HC.out.2.2.1;have:=HL.out;rw [show wrap64 ((i:Int)+1+1)=((i+1:Nat):Int)+1 by unfold wrap64;omega],⟨HL.out,Nat.le_refl _⟩,⟨by rw [Hn.out,Hd.out,Hc.out,if_neg (by decide),List.take_add_one (i:=i+1),Hx.out];rfl⟩,Hw⟩
  | true=>
   have q1:(cap=i+1)=False:=eq_false (by have:=HL.out;have:=HC.out.2.2.2;omega)
   have q2:=eq_true (show (i:Int)+1≤(es.length:Int) by have:=HL.out;omega)
   go_wp2
   clear q1 q2 t1 t2 t3 t4 wr1 d3
   generalize hL2:es.length - (i+1)=L2
   generalize hC2:cap - (i+1)=C2
   have HL2:=Aside0.mk (And.intro hL2 hC2)
   clear hL2 hC2
   obtain⟨wo,rfl⟩:∃wo:World,wo=w3:=⟨_,rfl⟩
   go_loopg [3,5] es.length (fun gq v5 v7 w'=>∃(kk j:Nat) (rows:List TInner),v5=.int .i64 (kk:Int)∧v7=.int .i64 ((j:Int)+1)∧Aside0 (j+1≤L2∧L2 - (j+1)≤gq∧1≤kk∧kk≤i+1+j∧kk=(dd eqInner (es.take (i+1+j+1))).length)∧Aside0 (HasN encInner 3 w' g 40 cap rows)∧
    Aside0 (rows.length=es.length∧rows.take kk=dd eqInner (es.take (i+1+j+1))∧rows.drop (i+1+j)=es.drop (i+1+j))∧Aside0 (w.grownBy w' (some g)))
   case atStart=>
    have e1:dd eqInner (es.take (i+1+1))=es.take (i+1):=by rw [Hn.out,Hd.out,Hc.out,if_pos rfl,List.append_nil]
    have b:=Hw.out.below
    have:=HL.out
    exact⟨i+1,0,es,by push_cast;rfl,rfl,⟨by have:=HL2.out.1;omega,by have:=HL2.out.1;omega,by omega,by omega,by simp only [Nat.add_zero];rw [e1];simp;omega⟩,⟨HH.out.move (b.block g HH.out.lt)⟩,⟨rfl,by simp only [Nat.add_zero];rw [e1],rfl⟩,⟨b.os,b.tape,b.output,b.size,fun k hk _=>b.block k hk⟩⟩
   case' round=>skip
   obtain⟨kk,j,rows,rfl,rfl,Hj,HM,Hr,Hgb⟩:=hrel
   by_cases hlt:j+1 < L2
   ·have d4 : decide ((j : Int) + 1 < (L2 : Int)) = true := decide_eq_true (by omega)
    have t1:=eq_true (show (0:Int)≤(j:Int)+1 by omega)
    have t2:=eq_true (show (j:Int)+1 < (L2:Int) by omega)
    have t3:=eq_true (show (0:Int)≤(j:Int) by omega)
    have t4:=eq_true (show (j:Int) < (L2:Int) by omega)
    have wr1:wrap64 (j:Int)=(j:Int):=by have:=HC.out.2.2.1;have:=HL2.out.1;unfold wrap64;omega
    have HL3:=Aside0.mk hlt
    have hp:i+1+(j+1) < es.length:=by have:=HL2.out.1;omega
    have hpr:i+1+(j+1) < rows.length:=by rw [Hr.out.1];exact hp
    have e1:rows[i+1+(j+1)]=es[i+1+(j+1)]:=by
     have h1:(rows.drop (i+1+j))[1]? = rows[i+1+(j+1)]?:=List.getElem?_drop
     have h2:(es.drop (i+1+j))[1]? = es[i+1+(j+1)]?:=List.getElem?_drop
     rw [Hr.out.2.2,h2,List.getElem?_eq_getElem hp,List.getElem?_eq_getElem hpr] at h1
     exact(Option.some.inj h1).symm
    have e2:rows[i+1+j]'(by omega)=es[i+1+j]'(by omega):=by
     have h1:=List.getElem?_drop (xs:=rows) (i:=i+1+j) (j:=0)
     have h2:=List.getElem?_drop (xs:=es) (i:=i+1+j) (j:=0)
     rw [Hr.out.2.2,h2,Nat.add_zero,List.getElem?_eq_getElem (by omega),List.getElem?_eq_getElem (by omega)] at h1
     exact(Option.some.inj h1).symm
    have c0:=HM.out.cell hkInner (i+1+(j+1)) hpr 0 (.int .i64 es[i+1+(j+1)].f0) (by rw [e1];rfl)
    have c1:=HM.out.cell hkInner (i+1+(j+1)) hpr 1 (.int .i64 es[i+1+(j+1)].f1) (by rw [e1];rfl)
    have c2:=HM.out.cell hkInner (i+1+(j+1)) hpr 2 (.int .i64 es[i+1+(j+1)].f2) (by rw [e1];rfl)
    have c3:=HM.out.cell hkInner (i+1+j) (by omega) 0 (.int .i64 (es[i+1+j]'(by omega)).f0) (by rw [e2];rfl)
    have c4:=HM.out.cell hkInner (i+1+j) (by omega) 1 (.int .i64 (es[i+1+j]'(by omega)).f1) (by rw [e2];rfl)
    have c5:=HM.out.cell hkInner (i+1+j) (by omega) 2 (.int .i64 (es[i+1+j]'(by omega)).f2) (by rw [e2];rfl)
    simp only [Nat.add_zero] at c0 c3
    rw [show (i+1+(j+1))*3=(i+1)*3+(j+1)*3 by omega] at c0 c1 c2
    rw [show (i+1+j)*3=(i+1)*3+j*3 by omega] at c3 c4 c5
    have Hn2:=Aside0.mk (dd_next eqInner es (i+1+(j+1)) (by omega) hp)
    simp only [show i+1+(j+1) - 1=i+1+j by omega] at Hn2
    obtain⟨x,hx⟩:∃x,x=es[i+1+(j+1)]:=⟨_,rfl⟩
    rw [←hx] at c0 c1 c2 Hn2
    have Hx2:Aside0 (es[i+1+(j+1)]? = some x):=⟨by rw [hx];exact List.getElem?_eq_getElem hp⟩
    generalize es[i+1+j]'(by omega)=y at c3 c4 c5 Hn2
    have HxR:Aside0 (∃h:i+1+(j+1) < rows.length,rows[i+1+(j+1)]=x):=⟨hpr,e1.trans hx.symm⟩
    clear hlt e1 e2 hx hp hpr
    obtain⟨u0,u1,u2⟩:=x
    obtain⟨v0,v1,v2⟩:=y
    have Hc2:Aside0 (eqInner { f0:=u0,f1:=u1,f2:=u2 } { f0:=v0,f1:=v1,f2:=v2 } = (u0 == v0 && (u1 == v1 && u2 == v2))):=⟨rfl⟩
    go_wp2
    go_quiet (fail)
    obtain⟨nq2,rfl⟩:∃m:Nat,m=nq:=⟨_,rfl⟩
    have HM4:Aside0 (HasN encInner 3 (wr.drewN nq2) g 40 cap rows):=⟨HM.out.move rfl⟩
    have Hgb4:=Aside0.mk (gb_drewN Hgb.out nq2)
    generalize wr.drewN nq2=w4 at HM4 Hgb4 ⊢
    clear c0 c1 c2 c3 c4 c5
    rw [←Bool.not_and,←Bool.not_and]
    generalize (u0 == v0 && (u1 == v1 && u2 == v2))=b2 at Hc2 ⊢
    have Hlen:=Aside0.mk (show (dd eqInner (es.take (i+1+(j+1)+1))).length=kk+if b2=true then 0 else 1 by rw [Hn2.out,List.length_append,Hj.out.2.2.2.2,Hc2.out];cases b2<;>rfl)
    cases b2 with
    | true=>
     go_wp2
     go_roundg (L2 - (j+2))
     case measure=>have:=Hj.out;have:=HL3.out;omega
     case rel=>exact⟨kk,j+1,rows,rfl,by have:=HC.out.2.2.1;have:=HL3.out;have:=HL2.out.1;rw [show wrap64 ((j:Int)+1+1)=((j+1:Nat):Int)+1 by unfold wrap64;omega],⟨HL3.out,Nat.le_refl _,Hj.out.2.2.1,by have:=Hj.out;omega,Hlen.out.symm⟩,HM4,⟨Hr.out.1,by rw [show i+1+(j+1)+1=i+1+(j+1)+1 from rfl,Hn2.out,Hc2.out,if_pos rfl,List.append_nil];exact Hr.out.2.1,by
      have:=congrArg (List.drop 1) Hr.out.2.2
      rw [List.drop_drop,List.drop_drop] at this
      exact this⟩,Hgb4⟩
    | false=>
     obtain⟨hpr,e1⟩:=HxR.out
     have c0:=HM4.out.cell hkInner (i+1+(j+1)) hpr 0 (.int .i64 u0) (by rw [e1];rfl)
     have c1:=HM4.out.cell hkInner (i+1+(j+1)) hpr 1 (.int .i64 u1) (by rw [e1];rfl)
     have c2:=HM4.out.cell hkInner (i+1+(j+1)) hpr 2 (.int .i64 u2) (by rw [e1];rfl)
     simp only [Nat.add_zero] at c0
     rw [show (i+1+(j+1))*3=(i+1)*3+(j+1)*3 by omega] at c0 c1 c2
     have hkr:kk < rows.length:=by have:=Hj.out;omega
     have c3:=HM4.out.cell hkInner kk hkr 0 (.int .i64 (rows[kk]).f0) rfl
     have c4:=HM4.out.cell hkInner kk hkr 1 (.int .i64 (rows[kk]).f1) rfl
     have c5:=HM4.out.cell hkInner kk hkr 2 (.int .i64 (rows[kk]).f2) rfl
     simp only [Nat.add_zero] at c3
     generalize Value.int IntKind.i64 (rows[kk]).f0=old0 at c3
     generalize Value.int IntKind.i64 (rows[kk]).f1=old1 at c4
     generalize Value.int IntKind.i64 (rows[kk]).f2=old2 at c5
     have fz0:=HM4.out.frozen (kk*3)
     have fz1:=HM4.out.frozen (kk*3+1)
     have fz2:=HM4.out.frozen (kk*3+2)
     have t5:=eq_true (show (kk:Int) < (es.length:Int) by have:=Hr.out.1;omega)
     have hkk:=Aside0.mk hkr
     clear hpr e1 hkr
     go_wp2
     go_roundg (L2 - (j+2))
     case measure=>have:=Hj.out;have:=HL3.out;omega
     case' rel=>skip
     have q1:=Hj.out
     have q2:=HC.out.2.2.1
     have q3:=HL3.out
     have q4:=HL2.out.1
     refine⟨kk+1,j+1,rows.set kk { f0:=u0,f1:=u1,f2:=u2 },by rw [show wrap64 ((kk:Int)+1)=((kk+1:Nat):Int) by unfold wrap64;omega],by rw [show wrap64 ((j:Int)+1+1)=((j+1:Nat):Int)+1 by unfold wrap64;omega],⟨HL3.out,Nat.le_refl _,by omega,by omega,Hlen.out.symm⟩,⟨HM4.out.set hkInner kk hkk.out { f0:=u0,f1:=u1,f2:=u2 }⟩,⟨by rw [List.length_set];exact Hr.out.1,?_,?_⟩,⟨gb_trans Hgb4.out (gb_setCells [_,_,_] (kk*3) w4)⟩⟩
     ·rw [take_set_next _ _ _ hkk.out,Hr.out.2.1,Hn2.out,Hc2.out,if_neg (by decide)];rfl
     rw [List.drop_set_of_lt (by omega)]
     have:=congrArg (List.drop 1) Hr.out.2.2
     rw [List.drop_drop,List.drop_drop] at this
     exact this
   have d4 : decide ((j : Int) + 1 < (L2 : Int)) = false := decide_eq_false (by omega)
   have hend:i+1+j+1=es.length:=by have:=Hj.out;have:=HL2.out.1;have:=HL.out;omega
   have hk:=Aside0.mk (And.intro Hj.out.2.2.2.2 Hr.out.2.1)
   rw [hend,List.take_length] at hk
   have hkn:kk < es.length:=by have:=Hj.out;omega
   have hcp:=HC.out.2.2.2
   obtain⟨vs,hcl⟩:=run_clearN (K:=3) (P:=Tryz.prog) wr 28 40 (.agg #[.int .i64 0,.int .i64 0,.int .i64 0]) Tryz.underlying28 Tryz.zeroValue40 rfl (by decide) (by intro v hv;exact Or.elim (Classical.em (v=.int .i64 0)) (fun h=>by rw [h];rfl) (fun h=>absurd (by simpa [Value.cells] using hv) h)) g (kk*3) (es.length - kk) (cap - kk) (by omega) (fun j hj=>HM.out.has _ (by omega)) (fun j hj=>HM.out.frozen _)
   have t1:=eq_true (show (kk:Int)≤(es.length:Int) by omega)
   have t2:=eq_true (show kk≤cap by omega)
   have t3:(cap=kk)=False:=eq_false (by omega)
   have t4:=eq_true (show (kk:Int)≤(cap:Int) by omega)
   clear hlt hend hkn hcp
   go_wp2
   have hf:=HM.out.cut hkInner kk vs
   rw [hk.out.2] at hf
   have hgb:=gb_trans Hgb.out (gb_setCells (g:=g) vs (kk*3) wr)
   go_ret
   exact⟨by rw [←hk.out.1];rfl,hf.own hkInner HC.out.1 HC.out.2.1,hgb⟩
 have d3 : decide ((i : Int) + 1 < (es.length : Int)) = false := decide_eq_false (by omega)
 have He:Aside0 (dd eqInner es=es):=⟨by have:=Hi.out.1;have h:=Hd.out;rw [List.take_of_length_le (by omega)] at h;exact h⟩
 clear hlt
 go_wp2
 go_ret
 have:=same.out wr Hg.out He.out
 exact⟨by rw [He.out];rfl,this.1,this.2⟩
theorem info_Inner:(Tryz.prog.info? 40).map (fun i=>(i.zero,i.size,i.bytes))=some (some (.agg #[.int .i64 0,.int .i64 0,.int .i64 0]),3,24):=by kernel_rfl
theorem R_of_Inner {w:World} {base:Nat} {v:Value} {es:List TInner} (h:InnerRow w base v es):Kd.R k40 40 w base (fun k_=>base≤k_) v es:=by
 refine⟨fun k hk=>own_base h k hk,es.flatMap encInner,h,flatN_len hkInner es,fun j p hj=>?_⟩
 obtain⟨hlt,hq⟩:=List.getElem?_eq_some_iff.1 hj
 have hcells:((es.flatMap encInner).drop (j*3)).take 3=encInner p:=by
  apply List.ext_getElem?
  intro t
  by_cases ht:t < 3
  ·rw [List.getElem?_take_of_lt ht, List.getElem?_drop]
   have hlt2:t < (encInner p).length:=by rw [hkInner];exact ht
   rw [List.getElem?_eq_getElem hlt2]
   exact flatN_get hkInner es j hlt t _ (by rw [hq];exact List.getElem?_eq_getElem hlt2)
  rw [List.getElem?_eq_none (by simp;omega),List.getElem?_eq_none (by rw [hkInner];omega)]
 show Kd.M k40 w base _ p (((es.flatMap encInner).drop (j*3)).take 3)
 rw [hcells]
 exact k40_mkM _ _ _ _
theorem of_R_Inner {w:World} {base:Nat} {ok:Nat→Prop} {v:Value} {es:List TInner} (h:Kd.R k40 40 w base ok v es):InnerRow w base v es:=by
 obtain⟨_,inner,ho,hl,hi⟩:=h
 have e:inner=es.flatMap encInner:=by
  have hl2:inner.length=es.length*3:=hl
  apply List.ext_getElem?
  intro t
  by_cases ht:t < es.length*3
  ·have hj : t / 3 < es.length := by omega
   have h1:=hi (t / 3) _ (List.getElem?_eq_getElem hj)
   have h2:=k40_openM h1
   have h3:((inner.drop (t / 3*3)).take 3)[t % 3]? = inner[t]?:=by
    rw [List.getElem?_take_of_lt (Nat.mod_lt _ (by decide)),List.getElem?_drop]
    congr 1
    omega
   have h4:(inner.drop (t / 3*3)).take 3=encInner es[t / 3]:=h2
   rw [←h3,h4]
   have hlt2:t % 3 < (encInner es[t / 3]).length:=by rw [hkInner];exact Nat.mod_lt _ (by decide)
   rw [List.getElem?_eq_getElem hlt2]
   have h5:=flatN_get hkInner es (t / 3) hj (t % 3) _ (List.getElem?_eq_getElem hlt2)
   rw [show t / 3*3+t % 3=t by omega] at h5
   exact h5.symm
  rw [List.getElem?_eq_none (by omega),List.getElem?_eq_none (by rw [flatN_len hkInner];omega)]
 rw [e] at ho
 exact ho
theorem row_nil_Inner {w:World} {base:Nat} {v:Value} {es:List TInner} (h:InnerRow w base v es):(v=.slice none 0 0∧es = [])∨∃g cap,v=.slice (some ⟨g,0,none⟩) es.length cap:=by
 rcases h.2 with ⟨h1,h2⟩|⟨g,cap,cur,h1,_⟩
 ·exact .inl ⟨h1,List.length_eq_zero_iff.1 h2⟩
 exact .inr ⟨g,cap,h1⟩
set_option maxHeartbeats 2000000 in
set_option maxRecDepth 100000 in
theorem clone_Inner (A:Option Addr) (c:Nat) (xs:List TInner) (w:World) (hr:Kd.C k40 w A xs.length xs) (hl:xs.length≤1000000000) :
 Calls Tryz.prog 70 #[.slice A xs.length c] w fun e w'=>∃v' : Value,e=.returned v'∧InnerRow w' w.heap.size v' xs∧Below w.heap.size w w':=by
 have q22:∀(w:World) (a:Option Addr) (n c n' c' : Nat),(binOp .eql 28 (.slice a n c) (.slice none n' c')).run Tryz.prog w=.ok (.bool a.isNone) w:=fun w a n c n' c'=>Lib.run_eql_slice_nil w _ _ a n c n' c' Tryz.underlying28
 cases A with
 | none=>
  have hx:xs = []:=by
   rcases Nat.eq_zero_or_pos xs.length with h|h
   ·exact List.length_eq_zero_iff.1 h
   obtain ⟨ad, e, _⟩ := hr.2.2 h
   cases e
  subst hx
  clear hr hl
  go_enter Tryz.func70,Tryz.ntmps70
  go_wp2
  go_ret
  exact⟨_,rfl,World.ownsRow_nil _ _ _ _,Below.refl _ _⟩
 | some ad=>
  have HR:=Aside0.mk hr
  have HL:=Aside0.mk hl
  clear hr hl
  go_enter Tryz.func70,Tryz.ntmps70
  go_wp2_with (at_builtin;go_loud (refine Kd.R_append_rows k40 (Rr:=k40.K w) (w0:=w) w.heap.size rfl (.tmp 5) (.tmp 6) 28 40 _ 24 rfl Tryz.underlying28 info_Inner rfl (by decide) (by decide) _ [] xs (some ad) xs.length c (fun k_=>w.heap.size≤k_) (fun _=>False) rfl rfl (R_of_Inner (es:=[]) (World.ownsRow_made w #[] 0 (Nat.le_refl _) (Nat.zero_le _) rfl)) ?qr (fun x cs h=>by obtain rfl:=k40_open h;exact k40_mkM _ _ _ x) (fun _ h=>h.elim) (fun k hk=>by rw [size_alloc] at hk;omega) (below_alloc (Below.refl _ _) _) ?qb ?ql ?_))
  case qr=>exact(Kd.C_below HR.out (below_alloc (Below.refl _ _) _):Kd.C k40 _ _ _ _)
  case qb=>rw [size_alloc];omega
  case ql=>have:=HL.out;simp;omega
  intro v1 w1 hr1 hb1 hg1 hat1
  go_wp2
  go_ret
  exact⟨v1,rfl,of_R_Inner hr1,hb1⟩
set_option maxHeartbeats 1000000 in
theorem clip_Inner (A:Option Addr) (n c:Nat) (w:World) (h:n≤c) (hc:c≤maxLen) :
 Calls Tryz.prog 72 #[.slice A n c] w fun e w'=>e=.returned (.slice A n n)∧w' = w:=by
 have t1:=eq_true (show (n:Int)≤(c:Int) by omega)
 have t2:=eq_true h
 have t3:=eq_true (show (0:Int)≤(n:Int) by omega)
 clear h hc
 cases A with
 | none=>
  go_enter Tryz.func72,Tryz.ntmps72
  go_wp2
  go_ret
  exact⟨rfl,rfl⟩
 | some ad=>
  go_enter Tryz.func72,Tryz.ntmps72
  go_wp2
  go_ret
  exact⟨rfl,rfl⟩
theorem sort_InnerV (w:World) (base:Nat) (v:Value) (es:List TInner) (hl:es.length≤1000000000) (ho:InnerRow w base v es) :
 Calls Tryz.prog 71 #[v,.func (.func 48) #[] #[]] w fun e w'=>e=.returned (.tuple #[])∧
  ∃es',es'.Perm es∧es'.Pairwise (fun p q=>¬cmpInner q p < 0)∧InnerRow w' base v es'∧w.grownBy w' v.ownBlock:=by
 rcases row_nil_Inner ho with ⟨rfl,rfl⟩|⟨g,cap,rfl⟩
 ·refine (AnyF.slices_SortFunc_none Tryz.sortInner none 0 _ _).mono ?_
  rintro e w' ⟨rfl,rfl⟩
  exact⟨rfl,[],.nil,.nil,ho,gb_refl _ _⟩
 exact sort_Inner w base g es.length cap es rfl hl ho
set_option maxHeartbeats 1000000 in
theorem compact_Inner_nil (w:World) :
 Calls Tryz.prog 73 #[.slice none 0 0] w fun e w'=>e=.returned (.slice none 0 0)∧w' = w:=by
 go_enter Tryz.func73,Tryz.ntmps73
 go_wp2
 go_ret
 exact⟨rfl,rfl⟩
theorem compact_InnerV (w:World) (base:Nat) (v:Value) (es:List TInner) (hl:es.length≤1000000000) (ho:InnerRow w base v es) :
 Calls Tryz.prog 73 #[v] w fun e w'=>∃A c,e=.returned (.slice A (dd eqInner es).length c)∧(dd eqInner es).length≤c∧c≤maxLen∧
  InnerRow w' base (.slice A (dd eqInner es).length c) (dd eqInner es)∧w.grownBy w' v.ownBlock:=by
 rcases row_nil_Inner ho with ⟨rfl,rfl⟩|⟨g,cap,rfl⟩
 ·refine (compact_Inner_nil w).mono ?_
  rintro e w' ⟨rfl,rfl⟩
  exact⟨none,0,rfl,Nat.le_refl _,Nat.zero_le _,ho,gb_refl _ _⟩
 refine (compact_Inner w base g es.length cap es rfl hl ho).mono ?_
 rintro e w' ⟨rfl,hr,hg⟩
 obtain⟨_,_,_,_,_,h1,h2,_⟩:=row_block hr
 exact⟨_,_,rfl,h1,h2,hr,hg⟩
theorem dd_Inner {es es' : List TInner} (hp:es'.Perm es) (hs:es'.Pairwise (fun p q=>¬cmpInner q p < 0)):dd eqInner es' = onceC cmpInner es:=by
 rw [show (eqInner:TInner→TInner→Bool)=fun x y=>decide (cmpInner x y=0) from funext fun x=>funext fun y=>eqInner_iff x y]
 exact totalInner.dd_once hs (fun x=>hp.mem_iff)
def onceInner.f (l0:List TInner):Option (List TInner):=if l0.length≤1000000000 then some (onceC cmpInner l0) else none
set_option maxHeartbeats 4000000 in
set_option maxRecDepth 100000 in
theorem onceInner_own (A:Option Addr) (c:Nat) (l:List TInner) (w:World) (hr:Kd.C k40 w A l.length l) (hl:l.length≤1000000000) :
 Calls Tryz.prog 47 #[.slice A l.length c,.func (.func 48) #[] #[]] w fun e w'=>∃A' c',e=.returned (.slice A' (onceC cmpInner l).length (onceC cmpInner l).length)∧InnerRow w' w.heap.size (.slice A' (onceC cmpInner l).length c') (onceC cmpInner l)∧Below w.heap.size w w':=by
 have HR:=Aside0.mk hr
 have HL:=Aside0.mk hl
 clear hr hl
 go_enter Tryz.func47,Tryz.ntmps47
 go_wp2_with (first
  | (go_at_call 70;go_loud (refine(clone_Inner A c l w HR.out HL.out).mono ?_;rintro e w1 ⟨v1,rfl,hr1,hb1⟩;have Hr1:=Aside0.mk hr1;have Hb1:=Aside0.mk hb1;clear hr1 hb1))
  | (go_at_call 71;go_loud (refine(sort_InnerV w1 w.heap.size v1 l HL.out Hr1.out).mono ?_;rintro e w2 ⟨rfl,es2,hp2,hs2,hr2,hg2⟩;have Hp2:=Aside0.mk hp2;have Hs2:=Aside0.mk hs2;have Hr2:=Aside0.mk hr2;have Hg2:=Aside0.mk hg2;clear hp2 hs2 hr2 hg2))
  | (go_at_call 73;go_loud (refine(compact_InnerV w2 w.heap.size v1 es2 (by rw [Hp2.out.length_eq];exact HL.out) Hr2.out).mono ?_;rintro e w3 ⟨A3,c3,rfl,hn3,hc3,hr3,hg3⟩;have Hn3:=Aside0.mk (And.intro hn3 hc3);have Hr3:=Aside0.mk hr3;have Hg3:=Aside0.mk hg3;clear hn3 hc3 hr3 hg3))
  | (go_at_call 72;go_loud (refine(clip_Inner A3 _ c3 w3 Hn3.out.1 Hn3.out.2).mono ?_;rintro e w4 ⟨rfl,rfl⟩)))
 go_ret
 have e:=dd_Inner Hp2.out (Hs2.out.imp (fun {a b} h=>by omega))
 have hb:∀k,v1.ownBlock=some k→w.heap.size≤k:=fun k hk=>own_base Hr1.out k hk
 exact⟨A3,c3,by rw [e];rfl,by have h:=Hr3.out;rw [e] at h;exact h,below_gb (below_gb Hb1.out Hg2.out hb) Hg3.out hb⟩
theorem onceInner.calls (A0:Option Addr) (c0:Nat) (l0:List TInner) (r:List TInner) (w:World) (hr0:Kd.C k40 w A0 l0.length l0) (hc0:l0.length≤c0) (h:onceInner.f l0=some r) :
 Calls Tryz.prog 47 #[.slice A0 l0.length c0,.func (.func 48) #[] #[]] w fun e w'=>∃v0_:Value,e=.returned v0_∧Kd.V k40 40 w' w.heap.size (fun k_=>w.heap.size≤k_) v0_ r∧Below w.heap.size w w':=by
 unfold onceInner.f at h
 split at h
 case isFalse=>cases h
 rename_i hl
 obtain rfl:=Option.some.inj h
 refine(onceInner_own A0 c0 l0 w hr0 hl).mono ?_
 rintro e w' ⟨A',c',rfl,hr,hb⟩
 have hR:=R_of_Inner hr
 exact⟨_,rfl,Kd.V_mk (Nat.le_refl _) (Kd.R_F hR),hb⟩
end Go.Proofs.YtejpijgfpbcibaaGreat.P
