/- Words and walks of this claim: SMeth. -/
import Derived.Test.YtjkhdldgmkkhjaaGMFar
import Derived.Test.YtjkhdldgmkkhjaaGMIntsEtc
import Derived.Test.YtjkhdldgmkkhjaaGSStepsAtEtc
import Derived.BigQuiet
set_option linter.unusedVariables false
set_option linter.unusedSimpArgs false
set_option linter.unnecessarySimpa false
namespace Go.Proofs.Ytjkhdldgmkkhjaa.P
open Go.RowKit Go.Sort Go.Shelf Go.Proofs.YtjkhdldgmkkhjaaW.PrintWords Go.Proofs.YtjkhdldgmkkhjaaW.PrintLast Go.Proofs.YtjkhdldgmkkhjaaW.PrintMore Go.Proofs.Ytjkhdldgmkkhjaa.M
theorem thn {a b c:World} (h:Below a.heap.size a b) (k:Below b.heap.size b c):Below a.heap.size a c:=
 h.trans ⟨k.os,k.tape,k.output,by have:=k.size;have:=h.size;omega,fun i hi=>k.block i (by have:=h.size;omega)⟩
theorem own_kind {w:World} {base:Nat} {v:Value} {n:Nat} {xs:List Value} (h:w.ownsRow base 48 2 v n xs) {g t:Nat} {cs:Array Value} (hg:w.heap[g]? = some (.cells cs t (0,0))) (ht:t≠48):∀k,v.ownBlock=some k→k≠g:=by
 rintro k hk rfl
 obtain⟨c,h1⟩:=own_typed h k hk
 rw [h1] at hg
 injection hg with hg
 injection hg with _ hg
 exact ht hg.symm
theorem AtRow.push {wd wc w9:World} {base:Nat} {v v1:Value} {es:List (TAt × Value)} {t:Int} {x1:List Int} {sv:Value} (h:AtRow wd base v es) (hbd:base≤wd.heap.size) (hc:Below wd.heap.size wd wc) (hs:(Kd.int .i64).R 3 wc wd.heap.size (fun _=>True) sv x1) (hl:x1.length≤1000000000)
 (ho:w9.ownsRow base 48 2 v1 (es.length+1) (es.flatMap encE ++ [.int .i64 t,sv])) (hg:wc.grownBy w9 v.ownBlock):AtRow w9 base v1 (es ++ [(⟨t,x1⟩,sv)]):=by
 have st:∀p,Stk wc base p→Stk w9 base p:=fun p hp=>by
  cases hb:v.ownBlock with
  | none=>exact stk_none hp (hb ▸ hg)
  | some g=>
   obtain⟨c,h1⟩:=own_typed h.1 g hb
   exact stk_types hp ((hc.block g (own_lt h.1 g hb)).trans h1) (hb ▸ hg)
 refine⟨by simpa [encE] using ho,fun p hp=>?_,?_⟩
 ·rcases List.mem_append.1 hp with hp | hp
  ·exact st p (stk_one (h.2.1 p hp) hc)
  rw [List.mem_singleton.1 hp]
  exact st (⟨t,x1⟩,sv) ⟨Kd.R_lower hs hbd,hl⟩
 rw [List.pairwise_append]
 refine⟨h.2.2,List.pairwise_singleton _ _,fun p hp q hq k hk e=>?_⟩
 rw [List.mem_singleton.1 hq] at e
 obtain⟨_,o1⟩:=Kd.R_own (h.2.1 p hp).1
 obtain⟨_,o2⟩:=Kd.R_own hs
 have:=own_lt o1 k hk
 have:=own_base o2 k e
 omega
theorem AtRow.beside {w:World} {base:Nat} {v:Value} {es:List (TAt × Value)} (h:AtRow w base v es) {g t:Nat} {cs:Array Value} (hg:w.heap[g]? = some (.cells cs t (0,0))) (ht:t≠48) (ht3:t≠3) (j:Nat) (u:Value):AtRow (w.setCell ⟨g,j,none⟩ u) base v es:=
 ⟨own_move h.1 (fun k hk=>Below.heap_setCell w ⟨g,j,none⟩ u k (own_kind h.1 hg ht k hk)),fun p hp=>⟨Kd.R_set (h.2.1 p hp).1 hg (fun q hq=>by simp [Kd.int,Kd.scalar] at hq;subst hq;exact fun e=>ht3 e.symm) j u,(h.2.1 p hp).2⟩,h.2.2⟩
theorem AtRow.below {w w' : World} {base:Nat} {v:Value} {es:List (TAt × Value)} (h:AtRow w base v es) (hb:Below w.heap.size w w'):AtRow w' base v es:=
 ⟨own_move h.1 (fun k hk=>hb.block k (own_lt h.1 k hk)),fun p hp=>stk_one (h.2.1 p hp) hb,h.2.2⟩
def StepBlk (w:World) (bs:Nat) (c0 c1 c2 c3 c4 c5 c6:Value) (sym:Int) (v:Value):Prop:=w.heap[bs]? = some (.cells #[c0,c1,c2,c3,c4,c5,c6,.int .i64 sym,v] 70 (0,0))
theorem innerL_next (l:List S56) (x:TAt) (sym:Int) (i:Nat) (h:i < l.length):innerL (l.take (i+1)) x sym=innerL (l.take i) x sym ++ if (rd_T56 l (i:Int)).f0=x.f0∧(rd_T56 l (i:Int)).f1=sym then [⟨(rd_T56 l (i:Int)).f2,x.f1⟩] else []:=by
 have:=take_next z56 l (i:Int) (by omega) (by omega)
 rw [show ((i:Int)+1).toNat=i+1 by omega,Int.toNat_natCast] at this
 rw [this,innerL,List.filter_append,List.map_append]
 congr 1
 show List.map _ (List.filter _ [rd_T56 l (i:Int)])=_
 by_cases hc:(rd_T56 l (i:Int)).f0=x.f0∧(rd_T56 l (i:Int)).f1=sym<;>simp [hc]
theorem openL_next (l:List S52) (x:TAt) (sym:Int) (i:Nat) (h:i < l.length):openL (l.take (i+1)) x sym=openL (l.take i) x sym ++ if (rd_T52 l (i:Int)).f0=x.f0∧(rd_T52 l (i:Int)).f1=sym then [⟨(rd_T52 l (i:Int)).f2,(rd_T52 l (i:Int)).f3 :: x.f1⟩] else []:=by
 have:=take_next z52 l (i:Int) (by omega) (by omega)
 rw [show ((i:Int)+1).toNat=i+1 by omega,Int.toNat_natCast] at this
 rw [this,openL,List.filter_append,List.map_append]
 congr 1
 show List.map _ (List.filter _ [rd_T52 l (i:Int)])=_
 by_cases hc:(rd_T52 l (i:Int)).f0=x.f0∧(rd_T52 l (i:Int)).f1=sym<;>simp [hc]
theorem closeL_next (l:List S54) (x:TAt) (sym:Int) (i:Nat) (h:i < l.length):closeL (l.take (i+1)) x sym=closeL (l.take i) x sym ++ if (rd_T54 l (i:Int)).f0=x.f0∧(rd_T54 l (i:Int)).f1=sym∧(rd_T54 l (i:Int)).f2=x.f1.headD 0 then [⟨(rd_T54 l (i:Int)).f3,x.f1.tail⟩] else []:=by
 have:=take_next z54 l (i:Int) (by omega) (by omega)
 rw [show ((i:Int)+1).toNat=i+1 by omega,Int.toNat_natCast] at this
 rw [this,closeL,List.filter_append,List.map_append]
 congr 1
 show List.map _ (List.filter _ [rd_T54 l (i:Int)])=_
 generalize x.f1.headD 0=tt
 by_cases hc:(rd_T54 l (i:Int)).f0=x.f0∧(rd_T54 l (i:Int)).f1=sym∧(rd_T54 l (i:Int)).f2=tt<;>simp [hc]
set_option maxHeartbeats 8000000 in
set_option maxRecDepth 100000 in
theorem inner_calls (w0 w:World) (bs:Nat) (c0 c1 c2 c3 c4 c5:Value) (Al:Option Addr) (kl:Nat) (l:List S56) (sym:Int) (v:Value) (es:List (TAt × Value)) (x:TAt) (Ax:Option Addr) (cx:Nat)
 (hB:Below w0.heap.size w0 w) (hbs:w0.heap.size≤bs) (hblk:StepBlk w bs c0 c1 c2 c3 c4 c5 (.slice Al l.length kl) sym v) (hrow:AtRow w w0.heap.size v es) (hv:v=.slice none 0 0∨es≠[]) (h6:Kd.C k56 w0 Al l.length l) (hx:Kd.C (Kd.int .i64) w0 Ax x.f1.length x.f1) (hcx:x.f1.length≤cx)
 (hl:es.length+l.length≤1000000000∧x.f1.length≤100000000) :
 Calls Try.prog 35 #[.pointer (some ⟨bs,0,none⟩),.agg #[.int .i64 x.f0,.slice Ax x.f1.length cx]] w fun e w'=>e=.returned (.tuple #[])∧∃(v' : Value) (es' : List (TAt × Value)),
  StepBlk w' bs c0 c1 c2 c3 c4 c5 (.slice Al l.length kl) sym v'∧AtRow w' w0.heap.size v' es'∧(v' = .slice none 0 0∨es'≠[])∧es'.map (·.1)=es.map (·.1) ++ innerL l x sym∧Below w0.heap.size w0 w':=by
 obtain⟨x0,x1⟩:=x
 have HB:=Aside0.mk hB
 have Hbs:=Aside0.mk hbs
 have Hblk:=Aside0.mk hblk
 have Hrow:=Aside0.mk hrow
 have Hv:=Aside0.mk hv
 have H6:=Aside0.mk h6
 have Hx:=Aside0.mk hx
 have Hcx:=Aside0.mk hcx
 have HL:=Aside0.mk hl
 have kl_:w.cell? ⟨bs,6,none⟩=some (.slice Al l.length kl):=(blk_cell hblk 6).trans rfl
 have hlt_:=blk_lt hblk
 have Hbl:=Aside0.mk hlt_
 clear hB hbs hblk hrow hv h6 hx hcx hl
 go_enter Try.func35,Try.ntmps35
 go_wp2
 clear kl_ hlt_
 go_loopg [12] l.length (fun gq vls w'=>∃(i:Nat) (v2:Value) (es2:List (TAt × Value)),vls=.int .i64 (i:Int)∧Aside0 (i≤l.length∧l.length - i≤gq)∧Aside0 (StepBlk w' bs c0 c1 c2 c3 c4 c5 (.slice Al l.length kl) sym v2)∧Aside0 (AtRow w' w0.heap.size v2 es2)∧Aside0 (v2=.slice none 0 0∨es2≠[])∧
  Aside0 (es2.map (·.1)=es.map (·.1) ++ innerL (l.take i) ⟨x0,x1⟩ sym)∧Aside0 (Below w0.heap.size w0 w')∧Aside0 (w'.heap[w.heap.size]? = some (.cells #[.int .i64 x0,.slice Ax x1.length cx] 48 (0,0)))∧Aside0 (es2.length≤es.length+i)∧Aside0 (some w.heap.size≠v2.ownBlock))
 case atStart=>exact⟨0,v,es,rfl,⟨by omega,by omega⟩,⟨blk_old Hblk.out _⟩,⟨Hrow.out.below (below_alloc (Below.refl _ _) _)⟩,Hv,⟨by simp [innerL]⟩,⟨below_alloc HB.out _⟩,⟨blk_newAt (w:=w) (n:=w.heap.size) _ rfl⟩,⟨by omega⟩,⟨fun e=>by have:=own_lt Hrow.out.1 _ e.symm;omega⟩⟩
 case' round=>skip
 obtain⟨i,v2,es2,rfl,Hi,Hb,Hr,Hv2,Hm,HBr,H3,Hl2,Hne⟩:=hrel
 by_cases hlt:i < l.length
 ·have d1 : (i < l.length) = True := eq_true hlt
  obtain⟨ad,e,hr0,hr1,hr2⟩:=at_T56 H6.out (i:Int) (by omega) (by omega)
  cases e
  replace hr0:=(HBr.out.cell (World.block_lt_of_cell? w0 _ hr0)).trans hr0
  replace hr1:=(HBr.out.cell (World.block_lt_of_cell? w0 _ hr1)).trans hr1
  replace hr2:=(HBr.out.cell (World.block_lt_of_cell? w0 _ hr2)).trans hr2
  rw [Int.toNat_natCast] at hr0 hr1 hr2
  have Hn:=Aside0.mk (innerL_next l ⟨x0,x1⟩ sym i hlt)
  generalize rd_T56 l (i:Int)=r at hr0 hr1 hr2 Hn
  obtain⟨r0,r1,r2⟩:=r
  have t1:=eq_true (show (i:Int) < (l.length:Int) by omega)
  have HI:=Aside0.mk hlt
  have k7:wr.cell? ⟨bs,7,none⟩=some (.int .i64 sym):=(blk_cell Hb.out 7).trans rfl
  have k30:wr.cell? ⟨w.heap.size,0,none⟩=some (.int .i64 x0):=(blk_cell H3.out 0).trans rfl
  have l3:=blk_lt H3.out
  have lb:=blk_lt Hb.out
  clear hlt
  by_cases g0:r0=x0
  ·have d2 : (r0 == x0) = true := beq_iff_eq.mpr g0
   by_cases g1:r1=sym
   ·have d3 : (r1 == sym) = true := beq_iff_eq.mpr g1
    have Hgg:=Aside0.mk (And.intro g0 (g1))
    clear g0 g1
    go_wp2_with fail
    go_quiet (fail)
    go_wp2
    have Hbd:Aside0 (StepBlk (((wr.alloc (.cells #[.int .i64 r0,.int .i64 r1,.int .i64 r2] 56)).drewN nq).drew) bs c0 c1 c2 c3 c4 c5 (.slice (some ad) l.length kl) sym v2):=⟨blk_old Hb.out _⟩
    have Hrd:Aside0 (AtRow (((wr.alloc (.cells #[.int .i64 r0,.int .i64 r1,.int .i64 r2] 56)).drewN nq).drew) w0.heap.size v2 es2):=⟨Hr.out.below (below_drew (pw_below_drewN (below_alloc (Below.refl _ _) _) nq))⟩
    have H3d:Aside0 ((((wr.alloc (.cells #[.int .i64 r0,.int .i64 r1,.int .i64 r2] 56)).drewN nq).drew).heap[w.heap.size]? = some (.cells #[.int .i64 x0,.slice Ax x1.length cx] 48 (0,0))):=⟨blk_old H3.out _⟩
    have Hrb:Aside0 ((((wr.alloc (.cells #[.int .i64 r0,.int .i64 r1,.int .i64 r2] 56)).drewN nq).drew).heap[wr.heap.size]? = some (.cells #[.int .i64 r0,.int .i64 r1,.int .i64 r2] 56 (0,0))):=⟨blk_newAt (w:=wr) (n:=wr.heap.size) (.cells #[.int .i64 r0,.int .i64 r1,.int .i64 r2] 56) rfl⟩
    have HBd:Aside0 (Below w0.heap.size w0 (((wr.alloc (.cells #[.int .i64 r0,.int .i64 r1,.int .i64 r2] 56)).drewN nq).drew)):=⟨below_drew (pw_below_drewN (below_alloc HBr.out _) nq)⟩
    clear hr0 hr1 hr2 k7 k30 l3 lb d2 d3 t1
    refine start_ (n:=16) (S:=fun w'=>w'.cell? ⟨bs,8,none⟩=some v2∧w'.cell? ⟨wr.heap.size,2,none⟩=some (.int .i64 r2)∧w'.cell? ⟨w.heap.size,1,none⟩=some (.slice Ax x1.length cx)) (ds:=[12,15]) #[false,false,false,false,false,false,false,false,false,false,false,false,false,false,false,false] (by kernel_rfl) rfl rfl ⟨(blk_cell Hbd.out 8).trans rfl,(blk_cell Hrb.out 2).trans rfl,(blk_cell H3d.out 1).trans rfl⟩ (fun hHeld=>?_)
    generalize (((wr.alloc (.cells #[.int .i64 r0,.int .i64 r1,.int .i64 r2] 56)).drewN nq).drew)=wd at Hbd Hrd H3d Hrb HBd hHeld ⊢
    refine pure_ (i:=0) (N:=(some 30)) (v:=?_) (a':=?_) #[true,false,false,false,false,false,false,false,false,false,false,false,false,false,false,false] rfl rfl (by kernel_rfl) (fun _ _ _ h=>h) (Or.inl ⟨by rfl,?_⟩) ?_ ?_
    rotate_left
    ·intro w'
     go_simp
     with_reducible rfl
    rotate_left
    ·simp only [Act.put, M.sq3, i64_w, i32_w]
     rfl
    refine pure_ (i:=1) (N:=(some 31)) (v:=?_) (a':=?_) #[true,true,false,false,false,false,false,false,false,false,false,false,false,false,false,false] rfl rfl (by kernel_rfl) (fun _ _ _ h=>h) (Or.inl ⟨by rfl,?_⟩) ?_ ?_
    rotate_left
    ·intro w'
     go_simp
     with_reducible rfl
    rotate_left
    ·simp only [Act.put, M.sq3, i64_w, i32_w]
     rfl
    refine pure_ (i:=2) (N:=(some 32)) (v:=?_) (a':=?_) #[true,true,true,false,false,false,false,false,false,false,false,false,false,false,false,false] rfl rfl (by kernel_rfl) (fun _ _ _ h=>h) (Or.inl ⟨by rfl,?_⟩) ?_ ?_
    rotate_left
    ·intro w'
     go_simp
     with_reducible rfl
    rotate_left
    ·simp only [Act.put, M.sq3, i64_w, i32_w]
     rfl
    refine pure_ (i:=3) (N:=(some 33)) (v:=?_) (a':=?_) #[true,true,true,true,false,false,false,false,false,false,false,false,false,false,false,false] rfl rfl (by kernel_rfl) (fun _ _ _ h=>h) (Or.inl ⟨by rfl,?_⟩) ?_ ?_
    rotate_left
    ·intro w'
     go_simp
     with_reducible rfl
    rotate_left
    ·simp only [Act.put, M.sq3, i64_w, i32_w]
     rfl
    refine pure_ (i:=5) (N:=(some 35)) (v:=?_) (a':=?_) #[true,true,true,true,false,true,false,false,false,false,false,false,false,false,false,false] rfl rfl (by kernel_rfl) (fun _ _ _ h=>h) (Or.inl ⟨by rfl,?_⟩) ?_ ?_
    rotate_left
    ·intro w'
     go_simp
     with_reducible rfl
    rotate_left
    ·simp only [Act.put, M.sq3, i64_w, i32_w]
     rfl
    refine pure_ (i:=7) (N:=(some 37)) (v:=?_) (a':=?_) #[true,true,true,true,false,true,false,true,false,false,false,false,false,false,false,false] rfl rfl (by kernel_rfl) (fun _ _ _ h=>h) (Or.inl ⟨by rfl,?_⟩) ?_ ?_
    rotate_left
    ·intro w'
     go_simp
     with_reducible rfl
    rotate_left
    ·simp only [Act.put, M.sq3, i64_w, i32_w]
     rfl
    refine take_ (i:=4) (N:=(some 34)) (v:=?_) (a':=?_) #[true,true,true,true,true,true,false,true,false,false,false,false,false,false,false,false] rfl rfl (by kernel_rfl) (fun _ _ _ h=>h) (Or.inl ⟨by rfl,?_⟩) hHeld ?_ ?_
    rotate_left
    ·intro w' hS_
     obtain⟨s0,s1,s2⟩:=hS_
     go_simp
     with_reducible rfl
    rotate_left
    ·simp only [Act.put, M.sq3, i64_w, i32_w]
     rfl
    refine take_ (i:=6) (N:=(some 36)) (v:=?_) (a':=?_) #[true,true,true,true,true,true,true,true,false,false,false,false,false,false,false,false] rfl rfl (by kernel_rfl) (fun _ _ _ h=>h) (Or.inl ⟨by rfl,?_⟩) hHeld ?_ ?_
    rotate_left
    ·intro w' hS_
     obtain⟨s0,s1,s2⟩:=hS_
     go_simp
     with_reducible rfl
    rotate_left
    ·simp only [Act.put, M.sq3, i64_w, i32_w]
     rfl
    refine take_ (i:=8) (N:=(some 38)) (v:=?_) (a':=?_) #[true,true,true,true,true,true,true,true,true,false,false,false,false,false,false,false] rfl rfl (by kernel_rfl) (fun _ _ _ h=>h) (Or.inl ⟨by rfl,?_⟩) hHeld ?_ ?_
    rotate_left
    ·intro w' hS_
     obtain⟨s0,s1,s2⟩:=hS_
     go_simp
     with_reducible rfl
    rotate_left
    ·simp only [Act.put, M.sq3, i64_w, i32_w]
     rfl
    refine one_ (i:=9) (N:=(some 39)) #[true,true,true,true,true,true,true,true,true,true,false,false,false,false,false,false] rfl rfl (by kernel_rfl) (by decide) (fun K hK=>?_)
    refine goes_ Try.func51 (by kernel_rfl) rfl #[.slice Ax x1.length cx] rfl rfl rfl (by(try simp only [List.map_toArray,List.map_cons,List.map_nil]);rfl) ?_
    refine(clone_int_calls Ax cx x1 wd (Kd.C_below Hx.out HBd.out) (by have:=HL.out.2;change x1.length≤_ at this;omega)).mono ?_
    rintro e wc ⟨sv,rfl,hsv,hbc⟩
    refine⟨_,rfl,?_⟩
    obtain⟨As,cs,rfl⟩:=Kd.R_slice hsv
    have Hsv:=Aside0.mk hsv
    have Hsl:Aside0 (x1.length≤1000000000):=⟨by
     have:=HL.out.2
     change x1.length≤_ at this
     try have h2_:=Hrl.out
     try simp only [List.length_append,List.length_cons,List.length_nil,List.length_tail]
     omega⟩
    have Hbc:=Aside0.mk hbc
    have Hbdc:Aside0 (StepBlk wc bs c0 c1 c2 c3 c4 c5 (.slice (some ad) l.length kl) sym v2):=⟨(hbc.block _ (blk_lt Hbd.out)).trans Hbd.out⟩
    have H3c:=Aside0.mk ((hbc.block _ (blk_lt H3d.out)).trans H3d.out)
    have Hrbc:=Aside0.mk ((hbc.block _ (blk_lt Hrb.out)).trans Hrb.out)
    have HBc:Aside0 (Below w0.heap.size w0 wc):=⟨thn HBd.out hbc⟩
    clear hsv hbc
    refine hK.out _ _ ⟨(blk_cell Hbdc.out 8).trans rfl,(blk_cell Hrbc.out 2).trans rfl,(blk_cell H3c.out 1).trans rfl⟩ (fun hHeld=>?_)
    clear hK K
    refine norm_ (a':=?_) ?_ ?_
    rotate_left
    ·show Act.put _ (some 39) _ = _
     simp only [Act.put,M.sq3,i64_w,i32_w]
     rfl
    refine pure_ (i:=10) (N:=(some 40)) (v:=?_) (a':=?_) #[true,true,true,true,true,true,true,true,true,true,true,false,false,false,false,false] rfl rfl (by kernel_rfl) (fun _ _ _ h=>h) (Or.inl ⟨by rfl,?_⟩) ?_ ?_
    rotate_left
    ·intro w'
     go_simp
     with_reducible rfl
    rotate_left
    ·simp only [Act.put, M.sq3, i64_w, i32_w]
     rfl
    refine one_ (i:=11) (N:=(some 41)) #[true,true,true,true,true,true,true,true,true,true,true,true,false,false,false,false] rfl rfl (by kernel_rfl) (by decide) (fun K hK=>?_)
    refine step_run (v:=.slice (some ⟨wc.heap.size,0,none⟩) 1 1) (w1:=wc.alloc (.cells #[.int .i64 r2,.slice As (x1).length cs] 48)) rfl (by go_simp) ?_
    refine hK.out _ _ ⟨(blk_cell (blk_old Hbdc.out _) 8).trans rfl,(blk_cell (blk_old Hrbc.out _) 2).trans rfl,(blk_cell (blk_old H3c.out _) 1).trans rfl⟩ (fun hHeld=>?_)
    clear hK K
    refine norm_ (a':=?_) ?_ ?_
    rotate_left
    ·show Act.put _ (some 41) _ = _
     simp only [Act.put,M.sq3,i64_w,i32_w]
     rfl
    refine last_ (i:=12) (N:=(some 42)) #[true,true,true,true,true,true,true,true,true,true,true,true,true,false,false,false] rfl rfl (by kernel_rfl) (by decide) (fun K hK=>?_)
    refine step_append_cells (w0:=w0) w0.heap.size rfl (.tmp 34) (.tmp 41) 33 48 (.agg #[.int .i64 0,.slice none 0 0]) 2 32 rfl Try.underlying33 infoAt rfl (by decide) (by decide) v2 es2.length (es2.flatMap encE) [.int .i64 r2,.slice As (x1).length cs] rfl rfl rfl ?_ (own_move Hrd.out.1 (fun k hk=>Hbc.out.block k (own_lt Hrd.out.1 k hk))) HBc.out HBc.out.size ?_ ?_
    ·intro u hu
     simp at hu
     rcases hu with rfl|rfl<;>rfl
    ·have:=HL.out;have:=Hl2.out;have:=HI.out;omega
    intro v1 w9 ho9 hb9 hg9 hat9
    obtain⟨g9,cap9,rfl⟩:∃g cap,v1=.slice (some ⟨g,0,none⟩) (es2.length+1) cap:=by
     rcases ho9.2 with ⟨_,h2⟩|⟨g,cap,cur,h,_⟩
     ·omega
     exact⟨g,cap,h⟩
    have Hr9:=Aside0.mk (AtRow.push Hrd.out HBd.out.size Hbc.out Hsv.out Hsl.out ho9 hg9)
    have hne:some bs≠v2.ownBlock:=fun e=>own_kind Hrd.out.1 Hbd.out (by decide) bs e.symm rfl
    have Hb9:Aside0 (StepBlk w9 bs c0 c1 c2 c3 c4 c5 (.slice (some ad) l.length kl) sym v2):=⟨(hg9.block _ (blk_lt Hbdc.out) hne).trans Hbdc.out⟩
    have HB9:=Aside0.mk hb9
    have hne2:some w.heap.size≠v2.ownBlock:=Hne.out
    have Hne9:Aside0 (some w.heap.size≠(Value.slice (some ⟨g9,0,none⟩) (es2.length+1) cap9).ownBlock):=⟨by
     rcases hat9 with h|⟨b,h,hb⟩
     ·rw [h];exact Hne.out
     rw [h];exact nes (by have:=blk_lt H3c.out;omega)⟩
    have H39:=Aside0.mk ((hg9.block _ (blk_lt H3c.out) hne2).trans H3c.out)
    clear ho9 hb9 hg9 hat9
    refine hK.out _ _ ?_
    clear hK K
    refine norm_ (a':=?_) ?_ ?_
    rotate_left
    ·show Act.put _ (some 42) _ = _
     simp only [Act.put,M.sq3,i64_w,i32_w]
     rfl
    refine pure_ (i:=13) (N:=(some 43)) (v:=?_) (a':=?_) #[true,true,true,true,true,true,true,true,true,true,true,true,true,true,false,false] rfl rfl (by kernel_rfl) (fun _ _ _ h=>h) (Or.inl ⟨by rfl,?_⟩) ?_ ?_
    rotate_left
    ·intro w'
     go_simp
     with_reducible rfl
    rotate_left
    ·simp only [Act.put, M.sq3, i64_w, i32_w]
     rfl
    refine pure_ (i:=14) (N:=(some 44)) (v:=?_) (a':=?_) #[true,true,true,true,true,true,true,true,true,true,true,true,true,true,true,false] rfl rfl (by kernel_rfl) (fun _ _ _ h=>h) (Or.inl ⟨by rfl,?_⟩) ?_ ?_
    rotate_left
    ·intro w'
     go_simp
     with_reducible rfl
    rotate_left
    ·simp only [Act.put, M.sq3, i64_w, i32_w]
     rfl
    refine last_ (i:=15) (N:=none) #[true,true,true,true,true,true,true,true,true,true,true,true,true,true,true,true] rfl rfl (by kernel_rfl) (by decide) (fun K hK=>?_)
    refine skip_ (w1:=w9.setCell ⟨bs,8,none⟩ (Value.slice (some ⟨g9,0,none⟩) (es2.length+1) cap9)) rfl rfl (by have c8:w9.cell? ⟨bs,8,none⟩=some v2:=(blk_cell Hb9.out 8).trans rfl;have f8:=blk_frozen Hb9.out 8;go_simp) ?_
    refine hK.out _ _ ?_
    clear hK K
    refine done_ (by kernel_rfl) ?_
    go_wp2
    go_roundg (l.length - (i+1))
    case measure=>have:=Hi.out;have:=HI.out;omega
    case' rel=>skip
    have h1:=HL.out
    have h3:=HI.out
    refine⟨i+1,(Value.slice (some ⟨g9,0,none⟩) (es2.length+1) cap9),es2 ++ [(⟨r2,x1⟩,.slice As (x1).length cs)],by rw [show wrap64 ((i:Int)+1)=((i+1:Nat):Int) by unfold wrap64;omega],⟨h3,Nat.le_refl _⟩,⟨blk_put Hb9.out 8 _ rfl⟩,⟨Hr9.out.beside Hb9.out (by decide) (by decide) 8 _⟩,⟨.inr (by simp)⟩,⟨?_⟩,⟨below_set HB9.out (by have:=Hbs.out;omega)⟩,⟨(Below.heap_setCell _ ⟨bs,8,none⟩ _ _ (by have:=Hbl.out;show w.heap.size≠bs;omega)).trans H39.out⟩,⟨by have:=Hl2.out;simp;omega⟩,Hne9⟩
    rw [List.map_append,Hm.out,Hn.out,if_pos Hgg.out]
    simp
   have d3 : (r1 == sym) = false := beq_eq_false_iff_ne.mpr g1
   have Hgg:Aside0 (¬(r0=x0∧r1=sym)):=⟨fun e=>g1 (e.2)⟩
   clear g0 g1
   go_wp2_with fail
   go_quiet (fail)
   go_wp2
   go_roundg (l.length - (i+1))
   case measure=>have:=Hi.out;have:=HI.out;omega
   case' rel=>skip
   have h1:=HL.out
   have h3:=HI.out
   refine⟨i+1,v2,es2,by rw [show wrap64 ((i:Int)+1)=((i+1:Nat):Int) by unfold wrap64;omega],⟨h3,Nat.le_refl _⟩,⟨blk_old Hb.out _⟩,⟨Hr.out.below (pw_below_drewN (below_alloc (Below.refl _ _) _) nq)⟩,Hv2,⟨?_⟩,⟨pw_below_drewN (below_alloc HBr.out _) nq⟩,⟨blk_old H3.out _⟩,⟨by have:=Hl2.out;omega⟩,Hne⟩
   rw [Hm.out,Hn.out,if_neg Hgg.out]
   simp
  have d2 : (r0 == x0) = false := beq_eq_false_iff_ne.mpr g0
  have Hgg:Aside0 (¬(r0=x0∧r1=sym)):=⟨fun e=>g0 (e.1)⟩
  clear g0
  go_wp2_with fail
  go_quiet (fail)
  go_wp2
  go_roundg (l.length - (i+1))
  case measure=>have:=Hi.out;have:=HI.out;omega
  case' rel=>skip
  have h1:=HL.out
  have h3:=HI.out
  refine⟨i+1,v2,es2,by rw [show wrap64 ((i:Int)+1)=((i+1:Nat):Int) by unfold wrap64;omega],⟨h3,Nat.le_refl _⟩,⟨blk_old Hb.out _⟩,⟨Hr.out.below (pw_below_drewN (below_alloc (Below.refl _ _) _) nq)⟩,Hv2,⟨?_⟩,⟨pw_below_drewN (below_alloc HBr.out _) nq⟩,⟨blk_old H3.out _⟩,⟨by have:=Hl2.out;omega⟩,Hne⟩
  rw [Hm.out,Hn.out,if_neg Hgg.out]
  simp
 have d1 : (i < l.length) = False := eq_false hlt
 have hi:i=l.length:=by have:=Hi.out;omega
 subst hi
 clear hlt
 go_wp2
 refine bodyPost_end (results_none rfl _ _ _) rfl ?_
 have hm:=Hm.out
 rw [List.take_length] at hm
 first|exact⟨rfl,v2,Hb.out,es2,Hr.out,Hv2.out,hm,HBr.out⟩|exact⟨rfl,v2,es2,Hb.out,Hr.out,Hv2.out,hm,HBr.out⟩
set_option maxHeartbeats 8000000 in
set_option maxRecDepth 100000 in
theorem open_calls (w0 w:World) (bs:Nat) (c0 c1 c2 c3 c5 c6:Value) (Al:Option Addr) (kl:Nat) (l:List S52) (sym:Int) (v:Value) (es:List (TAt × Value)) (x:TAt) (Ax:Option Addr) (cx:Nat)
 (hB:Below w0.heap.size w0 w) (hbs:w0.heap.size≤bs) (hblk:StepBlk w bs c0 c1 c2 c3 (.slice Al l.length kl) c5 c6 sym v) (hrow:AtRow w w0.heap.size v es) (hv:v=.slice none 0 0∨es≠[]) (h6:Kd.C k52 w0 Al l.length l) (hx:Kd.C (Kd.int .i64) w0 Ax x.f1.length x.f1) (hcx:x.f1.length≤cx)
 (hl:es.length+l.length≤1000000000∧x.f1.length≤100000000) :
 Calls Try.prog 36 #[.pointer (some ⟨bs,0,none⟩),.agg #[.int .i64 x.f0,.slice Ax x.f1.length cx]] w fun e w'=>e=.returned (.tuple #[])∧∃(v' : Value) (es' : List (TAt × Value)),
  StepBlk w' bs c0 c1 c2 c3 (.slice Al l.length kl) c5 c6 sym v'∧AtRow w' w0.heap.size v' es'∧(v' = .slice none 0 0∨es'≠[])∧es'.map (·.1)=es.map (·.1) ++ openL l x sym∧Below w0.heap.size w0 w':=by
 obtain⟨x0,x1⟩:=x
 have HB:=Aside0.mk hB
 have Hbs:=Aside0.mk hbs
 have Hblk:=Aside0.mk hblk
 have Hrow:=Aside0.mk hrow
 have Hv:=Aside0.mk hv
 have H6:=Aside0.mk h6
 have Hx:=Aside0.mk hx
 have Hcx:=Aside0.mk hcx
 have HL:=Aside0.mk hl
 have kl_:w.cell? ⟨bs,4,none⟩=some (.slice Al l.length kl):=(blk_cell hblk 4).trans rfl
 have hlt_:=blk_lt hblk
 have Hbl:=Aside0.mk hlt_
 clear hB hbs hblk hrow hv h6 hx hcx hl
 go_enter Try.func36,Try.ntmps36
 go_wp2
 clear kl_ hlt_
 go_loopg [12] l.length (fun gq vls w'=>∃(i:Nat) (v2:Value) (es2:List (TAt × Value)),vls=.int .i64 (i:Int)∧Aside0 (i≤l.length∧l.length - i≤gq)∧Aside0 (StepBlk w' bs c0 c1 c2 c3 (.slice Al l.length kl) c5 c6 sym v2)∧Aside0 (AtRow w' w0.heap.size v2 es2)∧Aside0 (v2=.slice none 0 0∨es2≠[])∧
  Aside0 (es2.map (·.1)=es.map (·.1) ++ openL (l.take i) ⟨x0,x1⟩ sym)∧Aside0 (Below w0.heap.size w0 w')∧Aside0 (w'.heap[w.heap.size]? = some (.cells #[.int .i64 x0,.slice Ax x1.length cx] 48 (0,0)))∧Aside0 (es2.length≤es.length+i)∧Aside0 (some w.heap.size≠v2.ownBlock))
 case atStart=>exact⟨0,v,es,rfl,⟨by omega,by omega⟩,⟨blk_old Hblk.out _⟩,⟨Hrow.out.below (below_alloc (Below.refl _ _) _)⟩,Hv,⟨by simp [openL]⟩,⟨below_alloc HB.out _⟩,⟨blk_newAt (w:=w) (n:=w.heap.size) _ rfl⟩,⟨by omega⟩,⟨fun e=>by have:=own_lt Hrow.out.1 _ e.symm;omega⟩⟩
 case' round=>skip
 obtain⟨i,v2,es2,rfl,Hi,Hb,Hr,Hv2,Hm,HBr,H3,Hl2,Hne⟩:=hrel
 by_cases hlt:i < l.length
 ·have d1 : (i < l.length) = True := eq_true hlt
  obtain⟨ad,e,hr0,hr1,hr2,hr3⟩:=at_T52 H6.out (i:Int) (by omega) (by omega)
  cases e
  replace hr0:=(HBr.out.cell (World.block_lt_of_cell? w0 _ hr0)).trans hr0
  replace hr1:=(HBr.out.cell (World.block_lt_of_cell? w0 _ hr1)).trans hr1
  replace hr2:=(HBr.out.cell (World.block_lt_of_cell? w0 _ hr2)).trans hr2
  replace hr3:=(HBr.out.cell (World.block_lt_of_cell? w0 _ hr3)).trans hr3
  rw [Int.toNat_natCast] at hr0 hr1 hr2 hr3
  have Hn:=Aside0.mk (openL_next l ⟨x0,x1⟩ sym i hlt)
  generalize rd_T52 l (i:Int)=r at hr0 hr1 hr2 hr3 Hn
  obtain⟨r0,r1,r2,r3⟩:=r
  have t1:=eq_true (show (i:Int) < (l.length:Int) by omega)
  have HI:=Aside0.mk hlt
  have k7:wr.cell? ⟨bs,7,none⟩=some (.int .i64 sym):=(blk_cell Hb.out 7).trans rfl
  have k30:wr.cell? ⟨w.heap.size,0,none⟩=some (.int .i64 x0):=(blk_cell H3.out 0).trans rfl
  have l3:=blk_lt H3.out
  have lb:=blk_lt Hb.out
  clear hlt
  by_cases g0:r0=x0
  ·have d2 : (r0 == x0) = true := beq_iff_eq.mpr g0
   by_cases g1:r1=sym
   ·have d3 : (r1 == sym) = true := beq_iff_eq.mpr g1
    have Hgg:=Aside0.mk (And.intro g0 (g1))
    clear g0 g1
    go_wp2_with fail
    go_quiet (fail)
    go_wp2
    have Hbd:Aside0 (StepBlk (((wr.alloc (.cells #[.int .i64 r0,.int .i64 r1,.int .i64 r2,.int .i64 r3] 52)).drewN nq).drew) bs c0 c1 c2 c3 (.slice (some ad) l.length kl) c5 c6 sym v2):=⟨blk_old Hb.out _⟩
    have Hrd:Aside0 (AtRow (((wr.alloc (.cells #[.int .i64 r0,.int .i64 r1,.int .i64 r2,.int .i64 r3] 52)).drewN nq).drew) w0.heap.size v2 es2):=⟨Hr.out.below (below_drew (pw_below_drewN (below_alloc (Below.refl _ _) _) nq))⟩
    have H3d:Aside0 ((((wr.alloc (.cells #[.int .i64 r0,.int .i64 r1,.int .i64 r2,.int .i64 r3] 52)).drewN nq).drew).heap[w.heap.size]? = some (.cells #[.int .i64 x0,.slice Ax x1.length cx] 48 (0,0))):=⟨blk_old H3.out _⟩
    have Hrb:Aside0 ((((wr.alloc (.cells #[.int .i64 r0,.int .i64 r1,.int .i64 r2,.int .i64 r3] 52)).drewN nq).drew).heap[wr.heap.size]? = some (.cells #[.int .i64 r0,.int .i64 r1,.int .i64 r2,.int .i64 r3] 52 (0,0))):=⟨blk_newAt (w:=wr) (n:=wr.heap.size) (.cells #[.int .i64 r0,.int .i64 r1,.int .i64 r2,.int .i64 r3] 52) rfl⟩
    have HBd:Aside0 (Below w0.heap.size w0 (((wr.alloc (.cells #[.int .i64 r0,.int .i64 r1,.int .i64 r2,.int .i64 r3] 52)).drewN nq).drew)):=⟨below_drew (pw_below_drewN (below_alloc HBr.out _) nq)⟩
    clear hr0 hr1 hr2 hr3 k7 k30 l3 lb d2 d3 t1
    refine start_ (n:=20) (S:=fun w'=>w'.cell? ⟨bs,8,none⟩=some v2∧w'.cell? ⟨wr.heap.size,2,none⟩=some (.int .i64 r2)∧w'.cell? ⟨wr.heap.size,3,none⟩=some (.int .i64 r3)∧w'.cell? ⟨w.heap.size,1,none⟩=some (.slice Ax x1.length cx)) (ds:=[16,19]) #[false,false,false,false,false,false,false,false,false,false,false,false,false,false,false,false,false,false,false,false] (by kernel_rfl) rfl rfl ⟨(blk_cell Hbd.out 8).trans rfl,(blk_cell Hrb.out 2).trans rfl,(blk_cell Hrb.out 3).trans rfl,(blk_cell H3d.out 1).trans rfl⟩ (fun hHeld=>?_)
    generalize (((wr.alloc (.cells #[.int .i64 r0,.int .i64 r1,.int .i64 r2,.int .i64 r3] 52)).drewN nq).drew)=wd at Hbd Hrd H3d Hrb HBd hHeld ⊢
    refine pure_ (i:=0) (N:=(some 30)) (v:=?_) (a':=?_) #[true,false,false,false,false,false,false,false,false,false,false,false,false,false,false,false,false,false,false,false] rfl rfl (by kernel_rfl) (fun _ _ _ h=>h) (Or.inl ⟨by rfl,?_⟩) ?_ ?_
    rotate_left
    ·intro w'
     go_simp
     with_reducible rfl
    rotate_left
    ·simp only [Act.put, M.sq3, i64_w, i32_w]
     rfl
    refine pure_ (i:=1) (N:=(some 31)) (v:=?_) (a':=?_) #[true,true,false,false,false,false,false,false,false,false,false,false,false,false,false,false,false,false,false,false] rfl rfl (by kernel_rfl) (fun _ _ _ h=>h) (Or.inl ⟨by rfl,?_⟩) ?_ ?_
    rotate_left
    ·intro w'
     go_simp
     with_reducible rfl
    rotate_left
    ·simp only [Act.put, M.sq3, i64_w, i32_w]
     rfl
    refine pure_ (i:=2) (N:=(some 32)) (v:=?_) (a':=?_) #[true,true,true,false,false,false,false,false,false,false,false,false,false,false,false,false,false,false,false,false] rfl rfl (by kernel_rfl) (fun _ _ _ h=>h) (Or.inl ⟨by rfl,?_⟩) ?_ ?_
    rotate_left
    ·intro w'
     go_simp
     with_reducible rfl
    rotate_left
    ·simp only [Act.put, M.sq3, i64_w, i32_w]
     rfl
    refine pure_ (i:=3) (N:=(some 33)) (v:=?_) (a':=?_) #[true,true,true,true,false,false,false,false,false,false,false,false,false,false,false,false,false,false,false,false] rfl rfl (by kernel_rfl) (fun _ _ _ h=>h) (Or.inl ⟨by rfl,?_⟩) ?_ ?_
    rotate_left
    ·intro w'
     go_simp
     with_reducible rfl
    rotate_left
    ·simp only [Act.put, M.sq3, i64_w, i32_w]
     rfl
    refine pure_ (i:=5) (N:=(some 35)) (v:=?_) (a':=?_) #[true,true,true,true,false,true,false,false,false,false,false,false,false,false,false,false,false,false,false,false] rfl rfl (by kernel_rfl) (fun _ _ _ h=>h) (Or.inl ⟨by rfl,?_⟩) ?_ ?_
    rotate_left
    ·intro w'
     go_simp
     with_reducible rfl
    rotate_left
    ·simp only [Act.put, M.sq3, i64_w, i32_w]
     rfl
    refine pure_ (i:=7) (N:=(some 37)) (v:=?_) (a':=?_) #[true,true,true,true,false,true,false,true,false,false,false,false,false,false,false,false,false,false,false,false] rfl rfl (by kernel_rfl) (fun _ _ _ h=>h) (Or.inl ⟨by rfl,?_⟩) ?_ ?_
    rotate_left
    ·intro w'
     go_simp
     with_reducible rfl
    rotate_left
    ·simp only [Act.put, M.sq3, i64_w, i32_w]
     rfl
    refine pure_ (i:=10) (N:=(some 40)) (v:=?_) (a':=?_) #[true,true,true,true,false,true,false,true,false,false,true,false,false,false,false,false,false,false,false,false] rfl rfl (by kernel_rfl) (fun _ _ _ h=>h) (Or.inl ⟨by rfl,?_⟩) ?_ ?_
    rotate_left
    ·intro w'
     go_simp
     with_reducible rfl
    rotate_left
    ·simp only [Act.put, M.sq3, i64_w, i32_w]
     rfl
    refine take_ (i:=4) (N:=(some 34)) (v:=?_) (a':=?_) #[true,true,true,true,true,true,false,true,false,false,true,false,false,false,false,false,false,false,false,false] rfl rfl (by kernel_rfl) (fun _ _ _ h=>h) (Or.inl ⟨by rfl,?_⟩) hHeld ?_ ?_
    rotate_left
    ·intro w' hS_
     obtain⟨s0,s1,s2,s3⟩:=hS_
     go_simp
     with_reducible rfl
    rotate_left
    ·simp only [Act.put, M.sq3, i64_w, i32_w]
     rfl
    refine take_ (i:=6) (N:=(some 36)) (v:=?_) (a':=?_) #[true,true,true,true,true,true,true,true,false,false,true,false,false,false,false,false,false,false,false,false] rfl rfl (by kernel_rfl) (fun _ _ _ h=>h) (Or.inl ⟨by rfl,?_⟩) hHeld ?_ ?_
    rotate_left
    ·intro w' hS_
     obtain⟨s0,s1,s2,s3⟩:=hS_
     go_simp
     with_reducible rfl
    rotate_left
    ·simp only [Act.put, M.sq3, i64_w, i32_w]
     rfl
    refine take_ (i:=8) (N:=(some 38)) (v:=?_) (a':=?_) #[true,true,true,true,true,true,true,true,true,false,true,false,false,false,false,false,false,false,false,false] rfl rfl (by kernel_rfl) (fun _ _ _ h=>h) (Or.inl ⟨by rfl,?_⟩) hHeld ?_ ?_
    rotate_left
    ·intro w' hS_
     obtain⟨s0,s1,s2,s3⟩:=hS_
     go_simp
     with_reducible rfl
    rotate_left
    ·simp only [Act.put, M.sq3, i64_w, i32_w]
     rfl
    refine take_ (i:=11) (N:=(some 41)) (v:=?_) (a':=?_) #[true,true,true,true,true,true,true,true,true,false,true,true,false,false,false,false,false,false,false,false] rfl rfl (by kernel_rfl) (fun _ _ _ h=>h) (Or.inl ⟨by rfl,?_⟩) hHeld ?_ ?_
    rotate_left
    ·intro w' hS_
     obtain⟨s0,s1,s2,s3⟩:=hS_
     go_simp
     with_reducible rfl
    rotate_left
    ·simp only [Act.put, M.sq3, i64_w, i32_w]
     rfl
    refine one_ (i:=9) (N:=(some 39)) #[true,true,true,true,true,true,true,true,true,true,true,true,false,false,false,false,false,false,false,false] rfl rfl (by kernel_rfl) (by decide) (fun K hK=>?_)
    refine step_run (v:=.slice (some ⟨wd.heap.size,0,none⟩) 1 1) (w1:=wd.alloc (.cells #[.int .i64 r3] 3)) rfl (by go_simp) ?_
    clear hHeld
    refine hK.out _ _ ⟨(blk_cell (blk_old Hbd.out _) 8).trans rfl,(blk_cell (blk_old Hrb.out _) 2).trans rfl,(blk_cell (blk_old Hrb.out _) 3).trans rfl,(blk_cell (blk_old H3d.out _) 1).trans rfl⟩ (fun hHeld=>?_)
    clear hK K
    replace Hrd:=Aside0.mk (Hrd.out.below (below_alloc (Below.refl _ _) (.cells #[.int .i64 r3] 3)))
    replace HBd:=Aside0.mk (below_alloc HBd.out (.cells #[.int .i64 r3] 3))
    replace Hbd:Aside0 (StepBlk _ bs c0 c1 c2 c3 (.slice (some ad) l.length kl) c5 c6 sym v2):=⟨blk_old Hbd.out (.cells #[.int .i64 r3] 3)⟩
    replace H3d:=Aside0.mk (blk_old H3d.out (.cells #[.int .i64 r3] 3))
    replace Hrb:=Aside0.mk (blk_old Hrb.out (.cells #[.int .i64 r3] 3))
    have Hone:=Aside0.mk (blk_newAt (w:=wd) (n:=wd.heap.size) (.cells #[.int .i64 r3] 3) rfl)
    generalize wd.heap.size=g1 at Hone ⊢
    generalize World.alloc wd _=we at Hrd HBd Hbd H3d Hrb Hone hHeld ⊢
    clear wd
    refine norm_ (a':=?_) ?_ ?_
    rotate_left
    ·show Act.put _ (some 39) _ = _
     simp only [Act.put,M.sq3,i64_w,i32_w]
     rfl
    refine one_ (i:=12) (N:=(some 42)) #[true,true,true,true,true,true,true,true,true,true,true,true,true,false,false,false,false,false,false,false] rfl rfl (by kernel_rfl) (by decide) (fun K hK=>?_)
    refine step_run (v:=.slice (some ⟨we.heap.size,0,none⟩) 2 2) (w1:=we.alloc (.cells #[.slice (some ⟨g1,0,none⟩) 1 1,.slice Ax x1.length cx] 22)) rfl (by go_simp) ?_
    clear hHeld
    refine hK.out _ _ ⟨(blk_cell (blk_old Hbd.out _) 8).trans rfl,(blk_cell (blk_old Hrb.out _) 2).trans rfl,(blk_cell (blk_old Hrb.out _) 3).trans rfl,(blk_cell (blk_old H3d.out _) 1).trans rfl⟩ (fun hHeld=>?_)
    clear hK K
    replace Hrd:=Aside0.mk (Hrd.out.below (below_alloc (Below.refl _ _) (.cells #[.slice (some ⟨g1,0,none⟩) 1 1,.slice Ax x1.length cx] 22)))
    replace HBd:=Aside0.mk (below_alloc HBd.out (.cells #[.slice (some ⟨g1,0,none⟩) 1 1,.slice Ax x1.length cx] 22))
    replace Hbd:Aside0 (StepBlk _ bs c0 c1 c2 c3 (.slice (some ad) l.length kl) c5 c6 sym v2):=⟨blk_old Hbd.out (.cells #[.slice (some ⟨g1,0,none⟩) 1 1,.slice Ax x1.length cx] 22)⟩
    replace H3d:=Aside0.mk (blk_old H3d.out (.cells #[.slice (some ⟨g1,0,none⟩) 1 1,.slice Ax x1.length cx] 22))
    replace Hrb:=Aside0.mk (blk_old Hrb.out (.cells #[.slice (some ⟨g1,0,none⟩) 1 1,.slice Ax x1.length cx] 22))
    have Htwo:=Aside0.mk (blk_newAt (w:=we) (n:=we.heap.size) (.cells #[.slice (some ⟨g1,0,none⟩) 1 1,.slice Ax x1.length cx] 22) rfl)
    replace Hone:=Aside0.mk (blk_old Hone.out (.cells #[.slice (some ⟨g1,0,none⟩) 1 1,.slice Ax x1.length cx] 22))
    generalize we.heap.size=g2 at Htwo ⊢
    generalize World.alloc we _=wd at Hrd HBd Hbd H3d Hrb Hone Htwo hHeld ⊢
    clear we
    refine norm_ (a':=?_) ?_ ?_
    rotate_left
    ·show Act.put _ (some 42) _ = _
     simp only [Act.put,M.sq3,i64_w,i32_w]
     rfl
    refine one_ (i:=13) (N:=(some 43)) #[true,true,true,true,true,true,true,true,true,true,true,true,true,true,false,false,false,false,false,false] rfl rfl (by kernel_rfl) (by decide) (fun K hK=>?_)
    refine goes_ Try.func52 (by kernel_rfl) rfl #[.slice (some ⟨g2,0,none⟩) 2 2] rfl rfl rfl (by(try simp only [List.map_toArray,List.map_cons,List.map_nil]);rfl) ?_
    refine(concat_calls [r3] x1 (some ⟨g1,0,none⟩) Ax 1 cx g2 wd (reads_one Hone.out) (Kd.C_below Hx.out HBd.out) (by simp) (by have:=HL.out.2;change x1.length≤_ at this;omega) Htwo.out).mono ?_
    rintro e wc ⟨sv,rfl,hsv,hbc⟩
    refine⟨_,rfl,?_⟩
    obtain⟨As,cs,rfl⟩:=Kd.R_slice hsv
    have Hsv:=Aside0.mk hsv
    have Hsl:Aside0 (([r3] ++ x1).length≤1000000000):=⟨by
     have:=HL.out.2
     change x1.length≤_ at this
     try have h2_:=Hrl.out
     try simp only [List.length_append,List.length_cons,List.length_nil,List.length_tail]
     omega⟩
    have Hbc:=Aside0.mk hbc
    have Hbdc:Aside0 (StepBlk wc bs c0 c1 c2 c3 (.slice (some ad) l.length kl) c5 c6 sym v2):=⟨(hbc.block _ (blk_lt Hbd.out)).trans Hbd.out⟩
    have H3c:=Aside0.mk ((hbc.block _ (blk_lt H3d.out)).trans H3d.out)
    have Hrbc:=Aside0.mk ((hbc.block _ (blk_lt Hrb.out)).trans Hrb.out)
    have HBc:Aside0 (Below w0.heap.size w0 wc):=⟨thn HBd.out hbc⟩
    clear hsv hbc
    refine hK.out _ _ ⟨(blk_cell Hbdc.out 8).trans rfl,(blk_cell Hrbc.out 2).trans rfl,(blk_cell Hrbc.out 3).trans rfl,(blk_cell H3c.out 1).trans rfl⟩ (fun hHeld=>?_)
    clear hK K
    refine norm_ (a':=?_) ?_ ?_
    rotate_left
    ·show Act.put _ (some 43) _ = _
     simp only [Act.put,M.sq3,i64_w,i32_w]
     rfl
    refine pure_ (i:=14) (N:=(some 44)) (v:=?_) (a':=?_) #[true,true,true,true,true,true,true,true,true,true,true,true,true,true,true,false,false,false,false,false] rfl rfl (by kernel_rfl) (fun _ _ _ h=>h) (Or.inl ⟨by rfl,?_⟩) ?_ ?_
    rotate_left
    ·intro w'
     go_simp
     with_reducible rfl
    rotate_left
    ·simp only [Act.put, M.sq3, i64_w, i32_w]
     rfl
    refine one_ (i:=15) (N:=(some 45)) #[true,true,true,true,true,true,true,true,true,true,true,true,true,true,true,true,false,false,false,false] rfl rfl (by kernel_rfl) (by decide) (fun K hK=>?_)
    refine step_run (v:=.slice (some ⟨wc.heap.size,0,none⟩) 1 1) (w1:=wc.alloc (.cells #[.int .i64 r2,.slice As ([r3] ++ x1).length cs] 48)) rfl (by go_simp) ?_
    refine hK.out _ _ ⟨(blk_cell (blk_old Hbdc.out _) 8).trans rfl,(blk_cell (blk_old Hrbc.out _) 2).trans rfl,(blk_cell (blk_old Hrbc.out _) 3).trans rfl,(blk_cell (blk_old H3c.out _) 1).trans rfl⟩ (fun hHeld=>?_)
    clear hK K
    refine norm_ (a':=?_) ?_ ?_
    rotate_left
    ·show Act.put _ (some 45) _ = _
     simp only [Act.put,M.sq3,i64_w,i32_w]
     rfl
    refine last_ (i:=16) (N:=(some 46)) #[true,true,true,true,true,true,true,true,true,true,true,true,true,true,true,true,true,false,false,false] rfl rfl (by kernel_rfl) (by decide) (fun K hK=>?_)
    refine step_append_cells (w0:=w0) w0.heap.size rfl (.tmp 34) (.tmp 45) 33 48 (.agg #[.int .i64 0,.slice none 0 0]) 2 32 rfl Try.underlying33 infoAt rfl (by decide) (by decide) v2 es2.length (es2.flatMap encE) [.int .i64 r2,.slice As ([r3] ++ x1).length cs] rfl rfl rfl ?_ (own_move Hrd.out.1 (fun k hk=>Hbc.out.block k (own_lt Hrd.out.1 k hk))) HBc.out HBc.out.size ?_ ?_
    ·intro u hu
     simp at hu
     rcases hu with rfl|rfl<;>rfl
    ·have:=HL.out;have:=Hl2.out;have:=HI.out;omega
    intro v1 w9 ho9 hb9 hg9 hat9
    obtain⟨g9,cap9,rfl⟩:∃g cap,v1=.slice (some ⟨g,0,none⟩) (es2.length+1) cap:=by
     rcases ho9.2 with ⟨_,h2⟩|⟨g,cap,cur,h,_⟩
     ·omega
     exact⟨g,cap,h⟩
    have Hr9:=Aside0.mk (AtRow.push Hrd.out HBd.out.size Hbc.out Hsv.out Hsl.out ho9 hg9)
    have hne:some bs≠v2.ownBlock:=fun e=>own_kind Hrd.out.1 Hbd.out (by decide) bs e.symm rfl
    have Hb9:Aside0 (StepBlk w9 bs c0 c1 c2 c3 (.slice (some ad) l.length kl) c5 c6 sym v2):=⟨(hg9.block _ (blk_lt Hbdc.out) hne).trans Hbdc.out⟩
    have HB9:=Aside0.mk hb9
    have hne2:some w.heap.size≠v2.ownBlock:=Hne.out
    have Hne9:Aside0 (some w.heap.size≠(Value.slice (some ⟨g9,0,none⟩) (es2.length+1) cap9).ownBlock):=⟨by
     rcases hat9 with h|⟨b,h,hb⟩
     ·rw [h];exact Hne.out
     rw [h];exact nes (by have:=blk_lt H3c.out;omega)⟩
    have H39:=Aside0.mk ((hg9.block _ (blk_lt H3c.out) hne2).trans H3c.out)
    clear ho9 hb9 hg9 hat9
    refine hK.out _ _ ?_
    clear hK K
    refine norm_ (a':=?_) ?_ ?_
    rotate_left
    ·show Act.put _ (some 46) _ = _
     simp only [Act.put,M.sq3,i64_w,i32_w]
     rfl
    refine pure_ (i:=17) (N:=(some 47)) (v:=?_) (a':=?_) #[true,true,true,true,true,true,true,true,true,true,true,true,true,true,true,true,true,true,false,false] rfl rfl (by kernel_rfl) (fun _ _ _ h=>h) (Or.inl ⟨by rfl,?_⟩) ?_ ?_
    rotate_left
    ·intro w'
     go_simp
     with_reducible rfl
    rotate_left
    ·simp only [Act.put, M.sq3, i64_w, i32_w]
     rfl
    refine pure_ (i:=18) (N:=(some 48)) (v:=?_) (a':=?_) #[true,true,true,true,true,true,true,true,true,true,true,true,true,true,true,true,true,true,true,false] rfl rfl (by kernel_rfl) (fun _ _ _ h=>h) (Or.inl ⟨by rfl,?_⟩) ?_ ?_
    rotate_left
    ·intro w'
     go_simp
     with_reducible rfl
    rotate_left
    ·simp only [Act.put, M.sq3, i64_w, i32_w]
     rfl
    refine last_ (i:=19) (N:=none) #[true,true,true,true,true,true,true,true,true,true,true,true,true,true,true,true,true,true,true,true] rfl rfl (by kernel_rfl) (by decide) (fun K hK=>?_)
    refine skip_ (w1:=w9.setCell ⟨bs,8,none⟩ (Value.slice (some ⟨g9,0,none⟩) (es2.length+1) cap9)) rfl rfl (by have c8:w9.cell? ⟨bs,8,none⟩=some v2:=(blk_cell Hb9.out 8).trans rfl;have f8:=blk_frozen Hb9.out 8;go_simp) ?_
    refine hK.out _ _ ?_
    clear hK K
    refine done_ (by kernel_rfl) ?_
    go_wp2
    go_roundg (l.length - (i+1))
    case measure=>have:=Hi.out;have:=HI.out;omega
    case' rel=>skip
    have h1:=HL.out
    have h3:=HI.out
    refine⟨i+1,(Value.slice (some ⟨g9,0,none⟩) (es2.length+1) cap9),es2 ++ [(⟨r2,[r3] ++ x1⟩,.slice As ([r3] ++ x1).length cs)],by rw [show wrap64 ((i:Int)+1)=((i+1:Nat):Int) by unfold wrap64;omega],⟨h3,Nat.le_refl _⟩,⟨blk_put Hb9.out 8 _ rfl⟩,⟨Hr9.out.beside Hb9.out (by decide) (by decide) 8 _⟩,⟨.inr (by simp)⟩,⟨?_⟩,⟨below_set HB9.out (by have:=Hbs.out;omega)⟩,⟨(Below.heap_setCell _ ⟨bs,8,none⟩ _ _ (by have:=Hbl.out;show w.heap.size≠bs;omega)).trans H39.out⟩,⟨by have:=Hl2.out;simp;omega⟩,Hne9⟩
    rw [List.map_append,Hm.out,Hn.out,if_pos Hgg.out]
    simp
   have d3 : (r1 == sym) = false := beq_eq_false_iff_ne.mpr g1
   have Hgg:Aside0 (¬(r0=x0∧r1=sym)):=⟨fun e=>g1 (e.2)⟩
   clear g0 g1
   go_wp2_with fail
   go_quiet (fail)
   go_wp2
   go_roundg (l.length - (i+1))
   case measure=>have:=Hi.out;have:=HI.out;omega
   case' rel=>skip
   have h1:=HL.out
   have h3:=HI.out
   refine⟨i+1,v2,es2,by rw [show wrap64 ((i:Int)+1)=((i+1:Nat):Int) by unfold wrap64;omega],⟨h3,Nat.le_refl _⟩,⟨blk_old Hb.out _⟩,⟨Hr.out.below (pw_below_drewN (below_alloc (Below.refl _ _) _) nq)⟩,Hv2,⟨?_⟩,⟨pw_below_drewN (below_alloc HBr.out _) nq⟩,⟨blk_old H3.out _⟩,⟨by have:=Hl2.out;omega⟩,Hne⟩
   rw [Hm.out,Hn.out,if_neg Hgg.out]
   simp
  have d2 : (r0 == x0) = false := beq_eq_false_iff_ne.mpr g0
  have Hgg:Aside0 (¬(r0=x0∧r1=sym)):=⟨fun e=>g0 (e.1)⟩
  clear g0
  go_wp2_with fail
  go_quiet (fail)
  go_wp2
  go_roundg (l.length - (i+1))
  case measure=>have:=Hi.out;have:=HI.out;omega
  case' rel=>skip
  have h1:=HL.out
  have h3:=HI.out
  refine⟨i+1,v2,es2,by rw [show wrap64 ((i:Int)+1)=((i+1:Nat):Int) by unfold wrap64;omega],⟨h3,Nat.le_refl _⟩,⟨blk_old Hb.out _⟩,⟨Hr.out.below (pw_below_drewN (below_alloc (Below.refl _ _) _) nq)⟩,Hv2,⟨?_⟩,⟨pw_below_drewN (below_alloc HBr.out _) nq⟩,⟨blk_old H3.out _⟩,⟨by have:=Hl2.out;omega⟩,Hne⟩
  rw [Hm.out,Hn.out,if_neg Hgg.out]
  simp
 have d1 : (i < l.length) = False := eq_false hlt
 have hi:i=l.length:=by have:=Hi.out;omega
 subst hi
 clear hlt
 go_wp2
 refine bodyPost_end (results_none rfl _ _ _) rfl ?_
 have hm:=Hm.out
 rw [List.take_length] at hm
 first|exact⟨rfl,v2,Hb.out,es2,Hr.out,Hv2.out,hm,HBr.out⟩|exact⟨rfl,v2,es2,Hb.out,Hr.out,Hv2.out,hm,HBr.out⟩
set_option maxHeartbeats 8000000 in
set_option maxRecDepth 100000 in
theorem close_calls (w0 w:World) (bs:Nat) (c0 c1 c2 c3 c4 c6:Value) (Al:Option Addr) (kl:Nat) (l:List S54) (sym:Int) (v:Value) (es:List (TAt × Value)) (x:TAt) (Ax:Option Addr) (cx:Nat)
 (hB:Below w0.heap.size w0 w) (hbs:w0.heap.size≤bs) (hblk:StepBlk w bs c0 c1 c2 c3 c4 (.slice Al l.length kl) c6 sym v) (hrow:AtRow w w0.heap.size v es) (hv:v=.slice none 0 0∨es≠[]) (h6:Kd.C k54 w0 Al l.length l) (hx:Kd.C (Kd.int .i64) w0 Ax x.f1.length x.f1) (hcx:x.f1.length≤cx)
 (hl:es.length+l.length≤1000000000∧x.f1.length≤100000000) :
 Calls Try.prog 37 #[.pointer (some ⟨bs,0,none⟩),.agg #[.int .i64 x.f0,.slice Ax x.f1.length cx]] w fun e w'=>e=.returned (.tuple #[])∧∃(v' : Value) (es' : List (TAt × Value)),
  StepBlk w' bs c0 c1 c2 c3 c4 (.slice Al l.length kl) c6 sym v'∧AtRow w' w0.heap.size v' es'∧(v' = .slice none 0 0∨es'≠[])∧es'.map (·.1)=es.map (·.1) ++ closeL l x sym∧Below w0.heap.size w0 w':=by
 obtain⟨x0,x1⟩:=x
 have HB:=Aside0.mk hB
 have Hbs:=Aside0.mk hbs
 have Hblk:=Aside0.mk hblk
 have Hrow:=Aside0.mk hrow
 have Hv:=Aside0.mk hv
 have H6:=Aside0.mk h6
 have Hx:=Aside0.mk hx
 have Hcx:=Aside0.mk hcx
 have HL:=Aside0.mk hl
 have kl_:w.cell? ⟨bs,5,none⟩=some (.slice Al l.length kl):=(blk_cell hblk 5).trans rfl
 have hlt_:=blk_lt hblk
 have Hbl:=Aside0.mk hlt_
 clear hB hbs hblk hrow hv h6 hx hcx hl
 go_enter Try.func37,Try.ntmps37
 by_cases hx1:x1.length=0
 ·have q1 : (0 < x1.length) = False := eq_false (by omega)
  have hnil:x1 = []:=List.length_eq_zero_iff.1 hx1
  have Hre0:=Aside0.mk hnil
  clear hx1 hnil
  go_wp2
  go_quiet (fail)
  go_wp2
  obtain⟨bx,hbx⟩:∃b:Value,b=Value.slice Ax x1.length cx:=⟨_,rfl⟩
  have Hz1:Aside0 (StepBlk ((w.alloc (.cells #[.int .i64 x0,Value.slice Ax x1.length cx] 48)).drewN nq) bs c0 c1 c2 c3 c4 (.slice Al l.length kl) c6 sym v):=⟨blk_old Hblk.out _⟩
  have Hz2:Aside0 (AtRow ((w.alloc (.cells #[.int .i64 x0,Value.slice Ax x1.length cx] 48)).drewN nq) w0.heap.size v es):=⟨Hrow.out.below (by repeat (first|exact Below.refl _ _|apply pw_below_drewN|apply below_alloc))⟩
  have Hz3:Aside0 (Below w0.heap.size w0 ((w.alloc (.cells #[.int .i64 x0,Value.slice Ax x1.length cx] 48)).drewN nq)):=⟨by repeat (first|exact HB.out|apply pw_below_drewN|apply below_alloc)⟩
  have Hz4:Aside0 (((w.alloc (.cells #[.int .i64 x0,Value.slice Ax x1.length cx] 48)).drewN nq).heap[w.heap.size]? = some (.cells #[.int .i64 x0,bx] 48 (0,0))):=⟨by rw [hbx];exact blk_newAt (w:=w) (n:=w.heap.size) (.cells #[.int .i64 x0,Value.slice Ax x1.length cx] 48) rfl⟩
  clear hbx
  generalize ((w.alloc (.cells #[.int .i64 x0,Value.slice Ax x1.length cx] 48)).drewN nq)=wz at Hz1 Hz2 Hz3 Hz4 ⊢
  obtain⟨rest,Ar,cr,hs,hre,hxr⟩:∃(rest:List Int) (Ar:Option Addr) (cr:Nat),Value.slice Ax x1.length cx=.slice Ar rest.length cr∧rest=x1.tail∧Kd.C (Kd.int .i64) w0 Ar rest.length rest:=⟨x1.tail,Ax,cx,by rw [Hre0.out];rfl,rfl,by rw [Hre0.out];have:=Hx.out;rw [Hre0.out] at this;exact this⟩
  have Hre:=Aside0.mk hre
  have Hxr:=Aside0.mk hxr
  have Hrl:Aside0 (rest.length≤x1.length):=⟨by rw [hre];simp⟩
  rw [hs]
  clear hre hxr hs
  have Htop:Aside0 (0=x1.headD 0):=⟨by rw [Hre0.out];rfl⟩
  clear q1 kl_ hlt_
  go_loopg [24] l.length (fun gq vls w'=>∃(i:Nat) (v2:Value) (es2:List (TAt × Value)),vls=.int .i64 (i:Int)∧Aside0 (i≤l.length∧l.length - i≤gq)∧Aside0 (StepBlk w' bs c0 c1 c2 c3 c4 (.slice Al l.length kl) c6 sym v2)∧Aside0 (AtRow w' w0.heap.size v2 es2)∧Aside0 (v2=.slice none 0 0∨es2≠[])∧
   Aside0 (es2.map (·.1)=es.map (·.1) ++ closeL (l.take i) ⟨x0,x1⟩ sym)∧Aside0 (Below w0.heap.size w0 w')∧Aside0 (w'.heap[w.heap.size]? = some (.cells #[.int .i64 x0,bx] 48 (0,0)))∧Aside0 (es2.length≤es.length+i)∧Aside0 (some w.heap.size≠v2.ownBlock))
  case atStart=>exact⟨0,v,es,rfl,⟨by omega,by omega⟩,Hz1,Hz2,Hv,⟨by simp [closeL]⟩,Hz3,Hz4,⟨by omega⟩,⟨fun e=>by have:=own_lt Hrow.out.1 _ e.symm;omega⟩⟩
  case' round=>skip
  obtain⟨i,v2,es2,rfl,Hi,Hb,Hr,Hv2,Hm,HBr,H3,Hl2,Hne⟩:=hrel
  by_cases hlt:i < l.length
  ·have d1 : (i < l.length) = True := eq_true hlt
   obtain⟨ad,e,hr0,hr1,hr2,hr3⟩:=at_T54 H6.out (i:Int) (by omega) (by omega)
   cases e
   replace hr0:=(HBr.out.cell (World.block_lt_of_cell? w0 _ hr0)).trans hr0
   replace hr1:=(HBr.out.cell (World.block_lt_of_cell? w0 _ hr1)).trans hr1
   replace hr2:=(HBr.out.cell (World.block_lt_of_cell? w0 _ hr2)).trans hr2
   replace hr3:=(HBr.out.cell (World.block_lt_of_cell? w0 _ hr3)).trans hr3
   rw [Int.toNat_natCast] at hr0 hr1 hr2 hr3
   have Hn:=Aside0.mk (closeL_next l ⟨x0,x1⟩ sym i hlt)
   simp only [←Hre.out,←Htop.out] at Hn
   generalize rd_T54 l (i:Int)=r at hr0 hr1 hr2 hr3 Hn
   obtain⟨r0,r1,r2,r3⟩:=r
   have t1:=eq_true (show (i:Int) < (l.length:Int) by omega)
   have HI:=Aside0.mk hlt
   have k7:wr.cell? ⟨bs,7,none⟩=some (.int .i64 sym):=(blk_cell Hb.out 7).trans rfl
   have k30:wr.cell? ⟨w.heap.size,0,none⟩=some (.int .i64 x0):=(blk_cell H3.out 0).trans rfl
   have l3:=blk_lt H3.out
   have lb:=blk_lt Hb.out
   clear hlt
   by_cases g0:r0=x0
   ·have d2 : (r0 == x0) = true := beq_iff_eq.mpr g0
    by_cases g1:r1=sym
    ·have d3 : (r1 == sym) = true := beq_iff_eq.mpr g1
     by_cases g2:r2=0
     ·have d4 : (r2 == 0) = true := beq_iff_eq.mpr g2
      have Hgg:=Aside0.mk (And.intro g0 (And.intro g1 (g2)))
      clear g0 g1 g2
      go_wp2_with fail
      go_quiet (fail)
      go_wp2
      have Hbd:Aside0 (StepBlk (((wr.alloc (.cells #[.int .i64 r0,.int .i64 r1,.int .i64 r2,.int .i64 r3] 54)).drewN nq).drew) bs c0 c1 c2 c3 c4 (.slice (some ad) l.length kl) c6 sym v2):=⟨blk_old Hb.out _⟩
      have Hrd:Aside0 (AtRow (((wr.alloc (.cells #[.int .i64 r0,.int .i64 r1,.int .i64 r2,.int .i64 r3] 54)).drewN nq).drew) w0.heap.size v2 es2):=⟨Hr.out.below (below_drew (pw_below_drewN (below_alloc (Below.refl _ _) _) nq))⟩
      have H3d:Aside0 ((((wr.alloc (.cells #[.int .i64 r0,.int .i64 r1,.int .i64 r2,.int .i64 r3] 54)).drewN nq).drew).heap[w.heap.size]? = some (.cells #[.int .i64 x0,bx] 48 (0,0))):=⟨blk_old H3.out _⟩
      have Hrb:Aside0 ((((wr.alloc (.cells #[.int .i64 r0,.int .i64 r1,.int .i64 r2,.int .i64 r3] 54)).drewN nq).drew).heap[wr.heap.size]? = some (.cells #[.int .i64 r0,.int .i64 r1,.int .i64 r2,.int .i64 r3] 54 (0,0))):=⟨blk_newAt (w:=wr) (n:=wr.heap.size) (.cells #[.int .i64 r0,.int .i64 r1,.int .i64 r2,.int .i64 r3] 54) rfl⟩
      have HBd:Aside0 (Below w0.heap.size w0 (((wr.alloc (.cells #[.int .i64 r0,.int .i64 r1,.int .i64 r2,.int .i64 r3] 54)).drewN nq).drew)):=⟨below_drew (pw_below_drewN (below_alloc HBr.out _) nq)⟩
      clear hr0 hr1 hr2 hr3 k7 k30 l3 lb d2 d3 d4 t1
      refine start_ (n:=15) (S:=fun w'=>w'.cell? ⟨bs,8,none⟩=some v2∧w'.cell? ⟨wr.heap.size,3,none⟩=some (.int .i64 r3)) (ds:=[11,14]) #[false,false,false,false,false,false,false,false,false,false,false,false,false,false,false] (by kernel_rfl) rfl rfl ⟨(blk_cell Hbd.out 8).trans rfl,(blk_cell Hrb.out 3).trans rfl⟩ (fun hHeld=>?_)
      generalize (((wr.alloc (.cells #[.int .i64 r0,.int .i64 r1,.int .i64 r2,.int .i64 r3] 54)).drewN nq).drew)=wd at Hbd Hrd H3d Hrb HBd hHeld ⊢
      refine pure_ (i:=0) (N:=(some 48)) (v:=?_) (a':=?_) #[true,false,false,false,false,false,false,false,false,false,false,false,false,false,false] rfl rfl (by kernel_rfl) (fun _ _ _ h=>h) (Or.inl ⟨by rfl,?_⟩) ?_ ?_
      rotate_left
      ·intro w'
       go_simp
       with_reducible rfl
      rotate_left
      ·simp only [Act.put, M.sq3, i64_w, i32_w]
       rfl
      refine pure_ (i:=1) (N:=(some 49)) (v:=?_) (a':=?_) #[true,true,false,false,false,false,false,false,false,false,false,false,false,false,false] rfl rfl (by kernel_rfl) (fun _ _ _ h=>h) (Or.inl ⟨by rfl,?_⟩) ?_ ?_
      rotate_left
      ·intro w'
       go_simp
       with_reducible rfl
      rotate_left
      ·simp only [Act.put, M.sq3, i64_w, i32_w]
       rfl
      refine pure_ (i:=2) (N:=(some 50)) (v:=?_) (a':=?_) #[true,true,true,false,false,false,false,false,false,false,false,false,false,false,false] rfl rfl (by kernel_rfl) (fun _ _ _ h=>h) (Or.inl ⟨by rfl,?_⟩) ?_ ?_
      rotate_left
      ·intro w'
       go_simp
       with_reducible rfl
      rotate_left
      ·simp only [Act.put, M.sq3, i64_w, i32_w]
       rfl
      refine pure_ (i:=3) (N:=(some 51)) (v:=?_) (a':=?_) #[true,true,true,true,false,false,false,false,false,false,false,false,false,false,false] rfl rfl (by kernel_rfl) (fun _ _ _ h=>h) (Or.inl ⟨by rfl,?_⟩) ?_ ?_
      rotate_left
      ·intro w'
       go_simp
       with_reducible rfl
      rotate_left
      ·simp only [Act.put, M.sq3, i64_w, i32_w]
       rfl
      refine pure_ (i:=5) (N:=(some 53)) (v:=?_) (a':=?_) #[true,true,true,true,false,true,false,false,false,false,false,false,false,false,false] rfl rfl (by kernel_rfl) (fun _ _ _ h=>h) (Or.inl ⟨by rfl,?_⟩) ?_ ?_
      rotate_left
      ·intro w'
       go_simp
       with_reducible rfl
      rotate_left
      ·simp only [Act.put, M.sq3, i64_w, i32_w]
       rfl
      refine pure_ (i:=7) (N:=(some 55)) (v:=?_) (a':=?_) #[true,true,true,true,false,true,false,true,false,false,false,false,false,false,false] rfl rfl (by kernel_rfl) (fun _ _ _ h=>h) (Or.inl ⟨by rfl,?_⟩) ?_ ?_
      rotate_left
      ·intro w'
       go_simp
       with_reducible rfl
      rotate_left
      ·simp only [Act.put, M.sq3, i64_w, i32_w]
       rfl
      refine take_ (i:=4) (N:=(some 52)) (v:=?_) (a':=?_) #[true,true,true,true,true,true,false,true,false,false,false,false,false,false,false] rfl rfl (by kernel_rfl) (fun _ _ _ h=>h) (Or.inl ⟨by rfl,?_⟩) hHeld ?_ ?_
      rotate_left
      ·intro w' hS_
       obtain⟨s0,s1⟩:=hS_
       go_simp
       with_reducible rfl
      rotate_left
      ·simp only [Act.put, M.sq3, i64_w, i32_w]
       rfl
      refine take_ (i:=6) (N:=(some 54)) (v:=?_) (a':=?_) #[true,true,true,true,true,true,true,true,false,false,false,false,false,false,false] rfl rfl (by kernel_rfl) (fun _ _ _ h=>h) (Or.inl ⟨by rfl,?_⟩) hHeld ?_ ?_
      rotate_left
      ·intro w' hS_
       obtain⟨s0,s1⟩:=hS_
       go_simp
       with_reducible rfl
      rotate_left
      ·simp only [Act.put, M.sq3, i64_w, i32_w]
       rfl
      refine one_ (i:=8) (N:=(some 56)) #[true,true,true,true,true,true,true,true,true,false,false,false,false,false,false] rfl rfl (by kernel_rfl) (by decide) (fun K hK=>?_)
      refine goes_ Try.func51 (by kernel_rfl) rfl #[.slice Ar rest.length cr] rfl rfl rfl (by(try simp only [List.map_toArray,List.map_cons,List.map_nil]);rfl) ?_
      refine(clone_int_calls Ar cr rest wd (Kd.C_below Hxr.out HBd.out) (by have h1:=HL.out.2;have h2:=Hrl.out;change x1.length≤_ at h1;omega)).mono ?_
      rintro e wc ⟨sv,rfl,hsv,hbc⟩
      refine⟨_,rfl,?_⟩
      obtain⟨As,cs,rfl⟩:=Kd.R_slice hsv
      have Hsv:=Aside0.mk hsv
      have Hsl:Aside0 (rest.length≤1000000000):=⟨by
       have:=HL.out.2
       change x1.length≤_ at this
       try have h2_:=Hrl.out
       try simp only [List.length_append,List.length_cons,List.length_nil,List.length_tail]
       omega⟩
      have Hbc:=Aside0.mk hbc
      have Hbdc:Aside0 (StepBlk wc bs c0 c1 c2 c3 c4 (.slice (some ad) l.length kl) c6 sym v2):=⟨(hbc.block _ (blk_lt Hbd.out)).trans Hbd.out⟩
      have H3c:=Aside0.mk ((hbc.block _ (blk_lt H3d.out)).trans H3d.out)
      have Hrbc:=Aside0.mk ((hbc.block _ (blk_lt Hrb.out)).trans Hrb.out)
      have HBc:Aside0 (Below w0.heap.size w0 wc):=⟨thn HBd.out hbc⟩
      clear hsv hbc
      refine hK.out _ _ ⟨(blk_cell Hbdc.out 8).trans rfl,(blk_cell Hrbc.out 3).trans rfl⟩ (fun hHeld=>?_)
      clear hK K
      refine norm_ (a':=?_) ?_ ?_
      rotate_left
      ·show Act.put _ (some 56) _ = _
       simp only [Act.put,M.sq3,i64_w,i32_w]
       rfl
      refine pure_ (i:=9) (N:=(some 57)) (v:=?_) (a':=?_) #[true,true,true,true,true,true,true,true,true,true,false,false,false,false,false] rfl rfl (by kernel_rfl) (fun _ _ _ h=>h) (Or.inl ⟨by rfl,?_⟩) ?_ ?_
      rotate_left
      ·intro w'
       go_simp
       with_reducible rfl
      rotate_left
      ·simp only [Act.put, M.sq3, i64_w, i32_w]
       rfl
      refine one_ (i:=10) (N:=(some 58)) #[true,true,true,true,true,true,true,true,true,true,true,false,false,false,false] rfl rfl (by kernel_rfl) (by decide) (fun K hK=>?_)
      refine step_run (v:=.slice (some ⟨wc.heap.size,0,none⟩) 1 1) (w1:=wc.alloc (.cells #[.int .i64 r3,.slice As (rest).length cs] 48)) rfl (by go_simp) ?_
      refine hK.out _ _ ⟨(blk_cell (blk_old Hbdc.out _) 8).trans rfl,(blk_cell (blk_old Hrbc.out _) 3).trans rfl⟩ (fun hHeld=>?_)
      clear hK K
      refine norm_ (a':=?_) ?_ ?_
      rotate_left
      ·show Act.put _ (some 58) _ = _
       simp only [Act.put,M.sq3,i64_w,i32_w]
       rfl
      refine last_ (i:=11) (N:=(some 59)) #[true,true,true,true,true,true,true,true,true,true,true,true,false,false,false] rfl rfl (by kernel_rfl) (by decide) (fun K hK=>?_)
      refine step_append_cells (w0:=w0) w0.heap.size rfl (.tmp 52) (.tmp 58) 33 48 (.agg #[.int .i64 0,.slice none 0 0]) 2 32 rfl Try.underlying33 infoAt rfl (by decide) (by decide) v2 es2.length (es2.flatMap encE) [.int .i64 r3,.slice As (rest).length cs] rfl rfl rfl ?_ (own_move Hrd.out.1 (fun k hk=>Hbc.out.block k (own_lt Hrd.out.1 k hk))) HBc.out HBc.out.size ?_ ?_
      ·intro u hu
       simp at hu
       rcases hu with rfl|rfl<;>rfl
      ·have:=HL.out;have:=Hl2.out;have:=HI.out;omega
      intro v1 w9 ho9 hb9 hg9 hat9
      obtain⟨g9,cap9,rfl⟩:∃g cap,v1=.slice (some ⟨g,0,none⟩) (es2.length+1) cap:=by
       rcases ho9.2 with ⟨_,h2⟩|⟨g,cap,cur,h,_⟩
       ·omega
       exact⟨g,cap,h⟩
      have Hr9:=Aside0.mk (AtRow.push Hrd.out HBd.out.size Hbc.out Hsv.out Hsl.out ho9 hg9)
      have hne:some bs≠v2.ownBlock:=fun e=>own_kind Hrd.out.1 Hbd.out (by decide) bs e.symm rfl
      have Hb9:Aside0 (StepBlk w9 bs c0 c1 c2 c3 c4 (.slice (some ad) l.length kl) c6 sym v2):=⟨(hg9.block _ (blk_lt Hbdc.out) hne).trans Hbdc.out⟩
      have HB9:=Aside0.mk hb9
      have hne2:some w.heap.size≠v2.ownBlock:=Hne.out
      have Hne9:Aside0 (some w.heap.size≠(Value.slice (some ⟨g9,0,none⟩) (es2.length+1) cap9).ownBlock):=⟨by
       rcases hat9 with h|⟨b,h,hb⟩
       ·rw [h];exact Hne.out
       rw [h];exact nes (by have:=blk_lt H3c.out;omega)⟩
      have H39:=Aside0.mk ((hg9.block _ (blk_lt H3c.out) hne2).trans H3c.out)
      clear ho9 hb9 hg9 hat9
      refine hK.out _ _ ?_
      clear hK K
      refine norm_ (a':=?_) ?_ ?_
      rotate_left
      ·show Act.put _ (some 59) _ = _
       simp only [Act.put,M.sq3,i64_w,i32_w]
       rfl
      refine pure_ (i:=12) (N:=(some 60)) (v:=?_) (a':=?_) #[true,true,true,true,true,true,true,true,true,true,true,true,true,false,false] rfl rfl (by kernel_rfl) (fun _ _ _ h=>h) (Or.inl ⟨by rfl,?_⟩) ?_ ?_
      rotate_left
      ·intro w'
       go_simp
       with_reducible rfl
      rotate_left
      ·simp only [Act.put, M.sq3, i64_w, i32_w]
       rfl
      refine pure_ (i:=13) (N:=(some 61)) (v:=?_) (a':=?_) #[true,true,true,true,true,true,true,true,true,true,true,true,true,true,false] rfl rfl (by kernel_rfl) (fun _ _ _ h=>h) (Or.inl ⟨by rfl,?_⟩) ?_ ?_
      rotate_left
      ·intro w'
       go_simp
       with_reducible rfl
      rotate_left
      ·simp only [Act.put, M.sq3, i64_w, i32_w]
       rfl
      refine last_ (i:=14) (N:=none) #[true,true,true,true,true,true,true,true,true,true,true,true,true,true,true] rfl rfl (by kernel_rfl) (by decide) (fun K hK=>?_)
      refine skip_ (w1:=w9.setCell ⟨bs,8,none⟩ (Value.slice (some ⟨g9,0,none⟩) (es2.length+1) cap9)) rfl rfl (by have c8:w9.cell? ⟨bs,8,none⟩=some v2:=(blk_cell Hb9.out 8).trans rfl;have f8:=blk_frozen Hb9.out 8;go_simp) ?_
      refine hK.out _ _ ?_
      clear hK K
      refine done_ (by kernel_rfl) ?_
      go_wp2
      go_roundg (l.length - (i+1))
      case measure=>have:=Hi.out;have:=HI.out;omega
      case' rel=>skip
      have h1:=HL.out
      have h3:=HI.out
      refine⟨i+1,(Value.slice (some ⟨g9,0,none⟩) (es2.length+1) cap9),es2 ++ [(⟨r3,rest⟩,.slice As (rest).length cs)],by rw [show wrap64 ((i:Int)+1)=((i+1:Nat):Int) by unfold wrap64;omega],⟨h3,Nat.le_refl _⟩,⟨blk_put Hb9.out 8 _ rfl⟩,⟨Hr9.out.beside Hb9.out (by decide) (by decide) 8 _⟩,⟨.inr (by simp)⟩,⟨?_⟩,⟨below_set HB9.out (by have:=Hbs.out;omega)⟩,⟨(Below.heap_setCell _ ⟨bs,8,none⟩ _ _ (by have:=Hbl.out;show w.heap.size≠bs;omega)).trans H39.out⟩,⟨by have:=Hl2.out;simp;omega⟩,Hne9⟩
      rw [List.map_append,Hm.out,Hn.out,if_pos Hgg.out]
      simp
     have d4 : (r2 == 0) = false := beq_eq_false_iff_ne.mpr g2
     have Hgg:Aside0 (¬(r0=x0∧r1=sym∧r2=0)):=⟨fun e=>g2 (e.2.2)⟩
     clear g0 g1 g2
     go_wp2_with fail
     go_quiet (fail)
     go_wp2
     go_roundg (l.length - (i+1))
     case measure=>have:=Hi.out;have:=HI.out;omega
     case' rel=>skip
     have h1:=HL.out
     have h3:=HI.out
     refine⟨i+1,v2,es2,by rw [show wrap64 ((i:Int)+1)=((i+1:Nat):Int) by unfold wrap64;omega],⟨h3,Nat.le_refl _⟩,⟨blk_old Hb.out _⟩,⟨Hr.out.below (pw_below_drewN (below_alloc (Below.refl _ _) _) nq)⟩,Hv2,⟨?_⟩,⟨pw_below_drewN (below_alloc HBr.out _) nq⟩,⟨blk_old H3.out _⟩,⟨by have:=Hl2.out;omega⟩,Hne⟩
     rw [Hm.out,Hn.out,if_neg Hgg.out]
     simp
    have d3 : (r1 == sym) = false := beq_eq_false_iff_ne.mpr g1
    have Hgg:Aside0 (¬(r0=x0∧r1=sym∧r2=0)):=⟨fun e=>g1 (e.2.1)⟩
    clear g0 g1
    go_wp2_with fail
    go_quiet (fail)
    go_wp2
    go_roundg (l.length - (i+1))
    case measure=>have:=Hi.out;have:=HI.out;omega
    case' rel=>skip
    have h1:=HL.out
    have h3:=HI.out
    refine⟨i+1,v2,es2,by rw [show wrap64 ((i:Int)+1)=((i+1:Nat):Int) by unfold wrap64;omega],⟨h3,Nat.le_refl _⟩,⟨blk_old Hb.out _⟩,⟨Hr.out.below (pw_below_drewN (below_alloc (Below.refl _ _) _) nq)⟩,Hv2,⟨?_⟩,⟨pw_below_drewN (below_alloc HBr.out _) nq⟩,⟨blk_old H3.out _⟩,⟨by have:=Hl2.out;omega⟩,Hne⟩
    rw [Hm.out,Hn.out,if_neg Hgg.out]
    simp
   have d2 : (r0 == x0) = false := beq_eq_false_iff_ne.mpr g0
   have Hgg:Aside0 (¬(r0=x0∧r1=sym∧r2=0)):=⟨fun e=>g0 (e.1)⟩
   clear g0
   go_wp2_with fail
   go_quiet (fail)
   go_wp2
   go_roundg (l.length - (i+1))
   case measure=>have:=Hi.out;have:=HI.out;omega
   case' rel=>skip
   have h1:=HL.out
   have h3:=HI.out
   refine⟨i+1,v2,es2,by rw [show wrap64 ((i:Int)+1)=((i+1:Nat):Int) by unfold wrap64;omega],⟨h3,Nat.le_refl _⟩,⟨blk_old Hb.out _⟩,⟨Hr.out.below (pw_below_drewN (below_alloc (Below.refl _ _) _) nq)⟩,Hv2,⟨?_⟩,⟨pw_below_drewN (below_alloc HBr.out _) nq⟩,⟨blk_old H3.out _⟩,⟨by have:=Hl2.out;omega⟩,Hne⟩
   rw [Hm.out,Hn.out,if_neg Hgg.out]
   simp
  have d1 : (i < l.length) = False := eq_false hlt
  have hi:i=l.length:=by have:=Hi.out;omega
  subst hi
  clear hlt
  go_wp2
  refine bodyPost_end (results_none rfl _ _ _) rfl ?_
  have hm:=Hm.out
  rw [List.take_length] at hm
  first|exact⟨rfl,v2,Hb.out,es2,Hr.out,Hv2.out,hm,HBr.out⟩|exact⟨rfl,v2,es2,Hb.out,Hr.out,Hv2.out,hm,HBr.out⟩
 obtain ⟨ad0, e0, hy⟩ := Kd.at_int (Kd.C_below Hx.out HB.out) 0 (by omega) (by show (0 : Int) < (x1.length : Int); omega)
 replace e0:Ax=some ad0:=e0
 subst e0
 have ea:ad0.add 0=ad0:=by obtain⟨b_,o_,s_⟩:=ad0;cases s_<;>simp [Addr.add]
 have hy2:w.cell? ad0=some (.int .i64 (rd x1 0)):=by rw [←ea];exact hy
 have lt2:=World.block_lt_of_cell? w _ hy2
 have q0:(0 < x1.length)=True:=eq_true (by omega)
 have q1:=eq_true (show (1:Int)≤(x1.length:Int) by omega)
 have q2:=eq_true (show (0:Int) < (x1.length:Int) by omega)
 have Htop:Aside0 (rd x1 0=x1.headD 0):=⟨by cases x1<;>rfl⟩
 generalize rd x1 0=top at hy hy2 Htop
 have H1:Aside0 (1≤x1.length):=⟨by omega⟩
 clear hy hx1 ea
 go_wp2
 go_quiet (fail)
 obtain⟨nq1,rfl⟩:∃n,n=nq:=⟨_,rfl⟩
 go_wp2
 go_quiet (fail)
 go_wp2
 case' inl=>
  have hc1:cx=1:=by assumption
  obtain⟨bx,hbx⟩:∃b:Value,b=Value.slice (some ad0) x1.length 1:=⟨_,rfl⟩
  have Hz1:Aside0 (StepBlk ((w.alloc (.cells #[.int .i64 x0,Value.slice (some ad0) x1.length 1] 48)).drewN (nq1+nq)) bs c0 c1 c2 c3 c4 (.slice Al l.length kl) c6 sym v):=⟨blk_old Hblk.out _⟩
  have Hz2:Aside0 (AtRow ((w.alloc (.cells #[.int .i64 x0,Value.slice (some ad0) x1.length 1] 48)).drewN (nq1+nq)) w0.heap.size v es):=⟨Hrow.out.below (by repeat (first|exact Below.refl _ _|apply pw_below_drewN|apply below_alloc))⟩
  have Hz3:Aside0 (Below w0.heap.size w0 ((w.alloc (.cells #[.int .i64 x0,Value.slice (some ad0) x1.length 1] 48)).drewN (nq1+nq))):=⟨by repeat (first|exact HB.out|apply pw_below_drewN|apply below_alloc)⟩
  have Hz4:Aside0 (((w.alloc (.cells #[.int .i64 x0,Value.slice (some ad0) x1.length 1] 48)).drewN (nq1+nq)).heap[w.heap.size]? = some (.cells #[.int .i64 x0,bx] 48 (0,0))):=⟨by rw [hbx];exact blk_newAt (w:=w) (n:=w.heap.size) (.cells #[.int .i64 x0,Value.slice (some ad0) x1.length 1] 48) rfl⟩
  clear hbx
  generalize ((w.alloc (.cells #[.int .i64 x0,Value.slice (some ad0) x1.length 1] 48)).drewN (nq1+nq))=wz at Hz1 Hz2 Hz3 Hz4 ⊢
  obtain⟨rest,Ar,cr,hs,hre,hxr⟩:∃(rest:List Int) (Ar:Option Addr) (cr:Nat),Value.slice (some ad0) (x1.length - 1) 0=.slice Ar rest.length cr∧rest=x1.tail∧Kd.C (Kd.int .i64) w0 Ar rest.length rest:=⟨x1.tail,some ad0,0,by rw [List.length_tail],rfl,by have h:=Kd.C_drop (m:=1) Hx.out H1.out Hcx.out;rw [if_pos hc1,List.drop_one] at h;exact h⟩
  have Hre:=Aside0.mk hre
  have Hxr:=Aside0.mk hxr
  have Hrl:Aside0 (rest.length≤x1.length):=⟨by rw [hre];simp⟩
  rw [hs]
  clear hre hxr hs
 case' inr=>
  have hc1:¬cx=1:=by assumption
  obtain⟨bx,hbx⟩:∃b:Value,b=Value.slice (some ad0) x1.length cx:=⟨_,rfl⟩
  have Hz1:Aside0 (StepBlk ((w.alloc (.cells #[.int .i64 x0,Value.slice (some ad0) x1.length cx] 48)).drewN (nq1+nq)) bs c0 c1 c2 c3 c4 (.slice Al l.length kl) c6 sym v):=⟨blk_old Hblk.out _⟩
  have Hz2:Aside0 (AtRow ((w.alloc (.cells #[.int .i64 x0,Value.slice (some ad0) x1.length cx] 48)).drewN (nq1+nq)) w0.heap.size v es):=⟨Hrow.out.below (by repeat (first|exact Below.refl _ _|apply pw_below_drewN|apply below_alloc))⟩
  have Hz3:Aside0 (Below w0.heap.size w0 ((w.alloc (.cells #[.int .i64 x0,Value.slice (some ad0) x1.length cx] 48)).drewN (nq1+nq))):=⟨by repeat (first|exact HB.out|apply pw_below_drewN|apply below_alloc)⟩
  have Hz4:Aside0 (((w.alloc (.cells #[.int .i64 x0,Value.slice (some ad0) x1.length cx] 48)).drewN (nq1+nq)).heap[w.heap.size]? = some (.cells #[.int .i64 x0,bx] 48 (0,0))):=⟨by rw [hbx];exact blk_newAt (w:=w) (n:=w.heap.size) (.cells #[.int .i64 x0,Value.slice (some ad0) x1.length cx] 48) rfl⟩
  clear hbx
  generalize ((w.alloc (.cells #[.int .i64 x0,Value.slice (some ad0) x1.length cx] 48)).drewN (nq1+nq))=wz at Hz1 Hz2 Hz3 Hz4 ⊢
  obtain⟨rest,Ar,cr,hs,hre,hxr⟩:∃(rest:List Int) (Ar:Option Addr) (cr:Nat),Value.slice (some { block:=ad0.block,off:=ad0.off+1 }) (x1.length - 1) (cx - 1)=.slice Ar rest.length cr∧rest=x1.tail∧Kd.C (Kd.int .i64) w0 Ar rest.length rest:=⟨x1.tail,some { block:=ad0.block,off:=ad0.off+1 },cx - 1,by rw [List.length_tail],rfl,by have h:=Kd.C_drop (m:=1) Hx.out H1.out Hcx.out;rw [if_neg hc1,List.drop_one] at h;exact h⟩
  have Hre:=Aside0.mk hre
  have Hxr:=Aside0.mk hxr
  have Hrl:Aside0 (rest.length≤x1.length):=⟨by rw [hre];simp⟩
  rw [hs]
  clear hre hxr hs
 all_goals (clear q0 q1 q2 kl_ hlt_ lt2 hy2)
 all_goals
  go_loopg [24] l.length (fun gq vls w'=>∃(i:Nat) (v2:Value) (es2:List (TAt × Value)),vls=.int .i64 (i:Int)∧Aside0 (i≤l.length∧l.length - i≤gq)∧Aside0 (StepBlk w' bs c0 c1 c2 c3 c4 (.slice Al l.length kl) c6 sym v2)∧Aside0 (AtRow w' w0.heap.size v2 es2)∧Aside0 (v2=.slice none 0 0∨es2≠[])∧
   Aside0 (es2.map (·.1)=es.map (·.1) ++ closeL (l.take i) ⟨x0,x1⟩ sym)∧Aside0 (Below w0.heap.size w0 w')∧Aside0 (w'.heap[w.heap.size]? = some (.cells #[.int .i64 x0,bx] 48 (0,0)))∧Aside0 (es2.length≤es.length+i)∧Aside0 (some w.heap.size≠v2.ownBlock))
  case atStart=>exact⟨0,v,es,rfl,⟨by omega,by omega⟩,Hz1,Hz2,Hv,⟨by simp [closeL]⟩,Hz3,Hz4,⟨by omega⟩,⟨fun e=>by have:=own_lt Hrow.out.1 _ e.symm;omega⟩⟩
  case' round=>skip
  obtain⟨i,v2,es2,rfl,Hi,Hb,Hr,Hv2,Hm,HBr,H3,Hl2,Hne⟩:=hrel
  by_cases hlt:i < l.length
  ·have d1 : (i < l.length) = True := eq_true hlt
   obtain⟨ad,e,hr0,hr1,hr2,hr3⟩:=at_T54 H6.out (i:Int) (by omega) (by omega)
   cases e
   replace hr0:=(HBr.out.cell (World.block_lt_of_cell? w0 _ hr0)).trans hr0
   replace hr1:=(HBr.out.cell (World.block_lt_of_cell? w0 _ hr1)).trans hr1
   replace hr2:=(HBr.out.cell (World.block_lt_of_cell? w0 _ hr2)).trans hr2
   replace hr3:=(HBr.out.cell (World.block_lt_of_cell? w0 _ hr3)).trans hr3
   rw [Int.toNat_natCast] at hr0 hr1 hr2 hr3
   have Hn:=Aside0.mk (closeL_next l ⟨x0,x1⟩ sym i hlt)
   simp only [←Hre.out,←Htop.out] at Hn
   generalize rd_T54 l (i:Int)=r at hr0 hr1 hr2 hr3 Hn
   obtain⟨r0,r1,r2,r3⟩:=r
   have t1:=eq_true (show (i:Int) < (l.length:Int) by omega)
   have HI:=Aside0.mk hlt
   have k7:wr.cell? ⟨bs,7,none⟩=some (.int .i64 sym):=(blk_cell Hb.out 7).trans rfl
   have k30:wr.cell? ⟨w.heap.size,0,none⟩=some (.int .i64 x0):=(blk_cell H3.out 0).trans rfl
   have l3:=blk_lt H3.out
   have lb:=blk_lt Hb.out
   clear hlt
   by_cases g0:r0=x0
   ·have d2 : (r0 == x0) = true := beq_iff_eq.mpr g0
    by_cases g1:r1=sym
    ·have d3 : (r1 == sym) = true := beq_iff_eq.mpr g1
     by_cases g2:r2=top
     ·have d4 : (r2 == top) = true := beq_iff_eq.mpr g2
      have Hgg:=Aside0.mk (And.intro g0 (And.intro g1 (g2)))
      clear g0 g1 g2
      go_wp2_with fail
      go_quiet (fail)
      go_wp2
      have Hbd:Aside0 (StepBlk (((wr.alloc (.cells #[.int .i64 r0,.int .i64 r1,.int .i64 r2,.int .i64 r3] 54)).drewN nq).drew) bs c0 c1 c2 c3 c4 (.slice (some ad) l.length kl) c6 sym v2):=⟨blk_old Hb.out _⟩
      have Hrd:Aside0 (AtRow (((wr.alloc (.cells #[.int .i64 r0,.int .i64 r1,.int .i64 r2,.int .i64 r3] 54)).drewN nq).drew) w0.heap.size v2 es2):=⟨Hr.out.below (below_drew (pw_below_drewN (below_alloc (Below.refl _ _) _) nq))⟩
      have H3d:Aside0 ((((wr.alloc (.cells #[.int .i64 r0,.int .i64 r1,.int .i64 r2,.int .i64 r3] 54)).drewN nq).drew).heap[w.heap.size]? = some (.cells #[.int .i64 x0,bx] 48 (0,0))):=⟨blk_old H3.out _⟩
      have Hrb:Aside0 ((((wr.alloc (.cells #[.int .i64 r0,.int .i64 r1,.int .i64 r2,.int .i64 r3] 54)).drewN nq).drew).heap[wr.heap.size]? = some (.cells #[.int .i64 r0,.int .i64 r1,.int .i64 r2,.int .i64 r3] 54 (0,0))):=⟨blk_newAt (w:=wr) (n:=wr.heap.size) (.cells #[.int .i64 r0,.int .i64 r1,.int .i64 r2,.int .i64 r3] 54) rfl⟩
      have HBd:Aside0 (Below w0.heap.size w0 (((wr.alloc (.cells #[.int .i64 r0,.int .i64 r1,.int .i64 r2,.int .i64 r3] 54)).drewN nq).drew)):=⟨below_drew (pw_below_drewN (below_alloc HBr.out _) nq)⟩
      clear hr0 hr1 hr2 hr3 k7 k30 l3 lb d2 d3 d4 t1
      refine start_ (n:=15) (S:=fun w'=>w'.cell? ⟨bs,8,none⟩=some v2∧w'.cell? ⟨wr.heap.size,3,none⟩=some (.int .i64 r3)) (ds:=[11,14]) #[false,false,false,false,false,false,false,false,false,false,false,false,false,false,false] (by kernel_rfl) rfl rfl ⟨(blk_cell Hbd.out 8).trans rfl,(blk_cell Hrb.out 3).trans rfl⟩ (fun hHeld=>?_)
      generalize (((wr.alloc (.cells #[.int .i64 r0,.int .i64 r1,.int .i64 r2,.int .i64 r3] 54)).drewN nq).drew)=wd at Hbd Hrd H3d Hrb HBd hHeld ⊢
      refine pure_ (i:=0) (N:=(some 48)) (v:=?_) (a':=?_) #[true,false,false,false,false,false,false,false,false,false,false,false,false,false,false] rfl rfl (by kernel_rfl) (fun _ _ _ h=>h) (Or.inl ⟨by rfl,?_⟩) ?_ ?_
      rotate_left
      ·intro w'
       go_simp
       with_reducible rfl
      rotate_left
      ·simp only [Act.put, M.sq3, i64_w, i32_w]
       rfl
      refine pure_ (i:=1) (N:=(some 49)) (v:=?_) (a':=?_) #[true,true,false,false,false,false,false,false,false,false,false,false,false,false,false] rfl rfl (by kernel_rfl) (fun _ _ _ h=>h) (Or.inl ⟨by rfl,?_⟩) ?_ ?_
      rotate_left
      ·intro w'
       go_simp
       with_reducible rfl
      rotate_left
      ·simp only [Act.put, M.sq3, i64_w, i32_w]
       rfl
      refine pure_ (i:=2) (N:=(some 50)) (v:=?_) (a':=?_) #[true,true,true,false,false,false,false,false,false,false,false,false,false,false,false] rfl rfl (by kernel_rfl) (fun _ _ _ h=>h) (Or.inl ⟨by rfl,?_⟩) ?_ ?_
      rotate_left
      ·intro w'
       go_simp
       with_reducible rfl
      rotate_left
      ·simp only [Act.put, M.sq3, i64_w, i32_w]
       rfl
      refine pure_ (i:=3) (N:=(some 51)) (v:=?_) (a':=?_) #[true,true,true,true,false,false,false,false,false,false,false,false,false,false,false] rfl rfl (by kernel_rfl) (fun _ _ _ h=>h) (Or.inl ⟨by rfl,?_⟩) ?_ ?_
      rotate_left
      ·intro w'
       go_simp
       with_reducible rfl
      rotate_left
      ·simp only [Act.put, M.sq3, i64_w, i32_w]
       rfl
      refine pure_ (i:=5) (N:=(some 53)) (v:=?_) (a':=?_) #[true,true,true,true,false,true,false,false,false,false,false,false,false,false,false] rfl rfl (by kernel_rfl) (fun _ _ _ h=>h) (Or.inl ⟨by rfl,?_⟩) ?_ ?_
      rotate_left
      ·intro w'
       go_simp
       with_reducible rfl
      rotate_left
      ·simp only [Act.put, M.sq3, i64_w, i32_w]
       rfl
      refine pure_ (i:=7) (N:=(some 55)) (v:=?_) (a':=?_) #[true,true,true,true,false,true,false,true,false,false,false,false,false,false,false] rfl rfl (by kernel_rfl) (fun _ _ _ h=>h) (Or.inl ⟨by rfl,?_⟩) ?_ ?_
      rotate_left
      ·intro w'
       go_simp
       with_reducible rfl
      rotate_left
      ·simp only [Act.put, M.sq3, i64_w, i32_w]
       rfl
      refine take_ (i:=4) (N:=(some 52)) (v:=?_) (a':=?_) #[true,true,true,true,true,true,false,true,false,false,false,false,false,false,false] rfl rfl (by kernel_rfl) (fun _ _ _ h=>h) (Or.inl ⟨by rfl,?_⟩) hHeld ?_ ?_
      rotate_left
      ·intro w' hS_
       obtain⟨s0,s1⟩:=hS_
       go_simp
       with_reducible rfl
      rotate_left
      ·simp only [Act.put, M.sq3, i64_w, i32_w]
       rfl
      refine take_ (i:=6) (N:=(some 54)) (v:=?_) (a':=?_) #[true,true,true,true,true,true,true,true,false,false,false,false,false,false,false] rfl rfl (by kernel_rfl) (fun _ _ _ h=>h) (Or.inl ⟨by rfl,?_⟩) hHeld ?_ ?_
      rotate_left
      ·intro w' hS_
       obtain⟨s0,s1⟩:=hS_
       go_simp
       with_reducible rfl
      rotate_left
      ·simp only [Act.put, M.sq3, i64_w, i32_w]
       rfl
      refine one_ (i:=8) (N:=(some 56)) #[true,true,true,true,true,true,true,true,true,false,false,false,false,false,false] rfl rfl (by kernel_rfl) (by decide) (fun K hK=>?_)
      refine goes_ Try.func51 (by kernel_rfl) rfl #[.slice Ar rest.length cr] rfl rfl rfl (by(try simp only [List.map_toArray,List.map_cons,List.map_nil]);rfl) ?_
      refine(clone_int_calls Ar cr rest wd (Kd.C_below Hxr.out HBd.out) (by have h1:=HL.out.2;have h2:=Hrl.out;change x1.length≤_ at h1;omega)).mono ?_
      rintro e wc ⟨sv,rfl,hsv,hbc⟩
      refine⟨_,rfl,?_⟩
      obtain⟨As,cs,rfl⟩:=Kd.R_slice hsv
      have Hsv:=Aside0.mk hsv
      have Hsl:Aside0 (rest.length≤1000000000):=⟨by
       have:=HL.out.2
       change x1.length≤_ at this
       try have h2_:=Hrl.out
       try simp only [List.length_append,List.length_cons,List.length_nil,List.length_tail]
       omega⟩
      have Hbc:=Aside0.mk hbc
      have Hbdc:Aside0 (StepBlk wc bs c0 c1 c2 c3 c4 (.slice (some ad) l.length kl) c6 sym v2):=⟨(hbc.block _ (blk_lt Hbd.out)).trans Hbd.out⟩
      have H3c:=Aside0.mk ((hbc.block _ (blk_lt H3d.out)).trans H3d.out)
      have Hrbc:=Aside0.mk ((hbc.block _ (blk_lt Hrb.out)).trans Hrb.out)
      have HBc:Aside0 (Below w0.heap.size w0 wc):=⟨thn HBd.out hbc⟩
      clear hsv hbc
      refine hK.out _ _ ⟨(blk_cell Hbdc.out 8).trans rfl,(blk_cell Hrbc.out 3).trans rfl⟩ (fun hHeld=>?_)
      clear hK K
      refine norm_ (a':=?_) ?_ ?_
      rotate_left
      ·show Act.put _ (some 56) _ = _
       simp only [Act.put,M.sq3,i64_w,i32_w]
       rfl
      refine pure_ (i:=9) (N:=(some 57)) (v:=?_) (a':=?_) #[true,true,true,true,true,true,true,true,true,true,false,false,false,false,false] rfl rfl (by kernel_rfl) (fun _ _ _ h=>h) (Or.inl ⟨by rfl,?_⟩) ?_ ?_
      rotate_left
      ·intro w'
       go_simp
       with_reducible rfl
      rotate_left
      ·simp only [Act.put, M.sq3, i64_w, i32_w]
       rfl
      refine one_ (i:=10) (N:=(some 58)) #[true,true,true,true,true,true,true,true,true,true,true,false,false,false,false] rfl rfl (by kernel_rfl) (by decide) (fun K hK=>?_)
      refine step_run (v:=.slice (some ⟨wc.heap.size,0,none⟩) 1 1) (w1:=wc.alloc (.cells #[.int .i64 r3,.slice As (rest).length cs] 48)) rfl (by go_simp) ?_
      refine hK.out _ _ ⟨(blk_cell (blk_old Hbdc.out _) 8).trans rfl,(blk_cell (blk_old Hrbc.out _) 3).trans rfl⟩ (fun hHeld=>?_)
      clear hK K
      refine norm_ (a':=?_) ?_ ?_
      rotate_left
      ·show Act.put _ (some 58) _ = _
       simp only [Act.put,M.sq3,i64_w,i32_w]
       rfl
      refine last_ (i:=11) (N:=(some 59)) #[true,true,true,true,true,true,true,true,true,true,true,true,false,false,false] rfl rfl (by kernel_rfl) (by decide) (fun K hK=>?_)
      refine step_append_cells (w0:=w0) w0.heap.size rfl (.tmp 52) (.tmp 58) 33 48 (.agg #[.int .i64 0,.slice none 0 0]) 2 32 rfl Try.underlying33 infoAt rfl (by decide) (by decide) v2 es2.length (es2.flatMap encE) [.int .i64 r3,.slice As (rest).length cs] rfl rfl rfl ?_ (own_move Hrd.out.1 (fun k hk=>Hbc.out.block k (own_lt Hrd.out.1 k hk))) HBc.out HBc.out.size ?_ ?_
      ·intro u hu
       simp at hu
       rcases hu with rfl|rfl<;>rfl
      ·have:=HL.out;have:=Hl2.out;have:=HI.out;omega
      intro v1 w9 ho9 hb9 hg9 hat9
      obtain⟨g9,cap9,rfl⟩:∃g cap,v1=.slice (some ⟨g,0,none⟩) (es2.length+1) cap:=by
       rcases ho9.2 with ⟨_,h2⟩|⟨g,cap,cur,h,_⟩
       ·omega
       exact⟨g,cap,h⟩
      have Hr9:=Aside0.mk (AtRow.push Hrd.out HBd.out.size Hbc.out Hsv.out Hsl.out ho9 hg9)
      have hne:some bs≠v2.ownBlock:=fun e=>own_kind Hrd.out.1 Hbd.out (by decide) bs e.symm rfl
      have Hb9:Aside0 (StepBlk w9 bs c0 c1 c2 c3 c4 (.slice (some ad) l.length kl) c6 sym v2):=⟨(hg9.block _ (blk_lt Hbdc.out) hne).trans Hbdc.out⟩
      have HB9:=Aside0.mk hb9
      have hne2:some w.heap.size≠v2.ownBlock:=Hne.out
      have Hne9:Aside0 (some w.heap.size≠(Value.slice (some ⟨g9,0,none⟩) (es2.length+1) cap9).ownBlock):=⟨by
       rcases hat9 with h|⟨b,h,hb⟩
       ·rw [h];exact Hne.out
       rw [h];exact nes (by have:=blk_lt H3c.out;omega)⟩
      have H39:=Aside0.mk ((hg9.block _ (blk_lt H3c.out) hne2).trans H3c.out)
      clear ho9 hb9 hg9 hat9
      refine hK.out _ _ ?_
      clear hK K
      refine norm_ (a':=?_) ?_ ?_
      rotate_left
      ·show Act.put _ (some 59) _ = _
       simp only [Act.put,M.sq3,i64_w,i32_w]
       rfl
      refine pure_ (i:=12) (N:=(some 60)) (v:=?_) (a':=?_) #[true,true,true,true,true,true,true,true,true,true,true,true,true,false,false] rfl rfl (by kernel_rfl) (fun _ _ _ h=>h) (Or.inl ⟨by rfl,?_⟩) ?_ ?_
      rotate_left
      ·intro w'
       go_simp
       with_reducible rfl
      rotate_left
      ·simp only [Act.put, M.sq3, i64_w, i32_w]
       rfl
      refine pure_ (i:=13) (N:=(some 61)) (v:=?_) (a':=?_) #[true,true,true,true,true,true,true,true,true,true,true,true,true,true,false] rfl rfl (by kernel_rfl) (fun _ _ _ h=>h) (Or.inl ⟨by rfl,?_⟩) ?_ ?_
      rotate_left
      ·intro w'
       go_simp
       with_reducible rfl
      rotate_left
      ·simp only [Act.put, M.sq3, i64_w, i32_w]
       rfl
      refine last_ (i:=14) (N:=none) #[true,true,true,true,true,true,true,true,true,true,true,true,true,true,true] rfl rfl (by kernel_rfl) (by decide) (fun K hK=>?_)
      refine skip_ (w1:=w9.setCell ⟨bs,8,none⟩ (Value.slice (some ⟨g9,0,none⟩) (es2.length+1) cap9)) rfl rfl (by have c8:w9.cell? ⟨bs,8,none⟩=some v2:=(blk_cell Hb9.out 8).trans rfl;have f8:=blk_frozen Hb9.out 8;go_simp) ?_
      refine hK.out _ _ ?_
      clear hK K
      refine done_ (by kernel_rfl) ?_
      go_wp2
      go_roundg (l.length - (i+1))
      case measure=>have:=Hi.out;have:=HI.out;omega
      case' rel=>skip
      have h1:=HL.out
      have h3:=HI.out
      refine⟨i+1,(Value.slice (some ⟨g9,0,none⟩) (es2.length+1) cap9),es2 ++ [(⟨r3,rest⟩,.slice As (rest).length cs)],by rw [show wrap64 ((i:Int)+1)=((i+1:Nat):Int) by unfold wrap64;omega],⟨h3,Nat.le_refl _⟩,⟨blk_put Hb9.out 8 _ rfl⟩,⟨Hr9.out.beside Hb9.out (by decide) (by decide) 8 _⟩,⟨.inr (by simp)⟩,⟨?_⟩,⟨below_set HB9.out (by have:=Hbs.out;omega)⟩,⟨(Below.heap_setCell _ ⟨bs,8,none⟩ _ _ (by have:=Hbl.out;show w.heap.size≠bs;omega)).trans H39.out⟩,⟨by have:=Hl2.out;simp;omega⟩,Hne9⟩
      rw [List.map_append,Hm.out,Hn.out,if_pos Hgg.out]
      simp
     have d4 : (r2 == top) = false := beq_eq_false_iff_ne.mpr g2
     have Hgg:Aside0 (¬(r0=x0∧r1=sym∧r2=top)):=⟨fun e=>g2 (e.2.2)⟩
     clear g0 g1 g2
     go_wp2_with fail
     go_quiet (fail)
     go_wp2
     go_roundg (l.length - (i+1))
     case measure=>have:=Hi.out;have:=HI.out;omega
     case' rel=>skip
     have h1:=HL.out
     have h3:=HI.out
     refine⟨i+1,v2,es2,by rw [show wrap64 ((i:Int)+1)=((i+1:Nat):Int) by unfold wrap64;omega],⟨h3,Nat.le_refl _⟩,⟨blk_old Hb.out _⟩,⟨Hr.out.below (pw_below_drewN (below_alloc (Below.refl _ _) _) nq)⟩,Hv2,⟨?_⟩,⟨pw_below_drewN (below_alloc HBr.out _) nq⟩,⟨blk_old H3.out _⟩,⟨by have:=Hl2.out;omega⟩,Hne⟩
     rw [Hm.out,Hn.out,if_neg Hgg.out]
     simp
    have d3 : (r1 == sym) = false := beq_eq_false_iff_ne.mpr g1
    have Hgg:Aside0 (¬(r0=x0∧r1=sym∧r2=top)):=⟨fun e=>g1 (e.2.1)⟩
    clear g0 g1
    go_wp2_with fail
    go_quiet (fail)
    go_wp2
    go_roundg (l.length - (i+1))
    case measure=>have:=Hi.out;have:=HI.out;omega
    case' rel=>skip
    have h1:=HL.out
    have h3:=HI.out
    refine⟨i+1,v2,es2,by rw [show wrap64 ((i:Int)+1)=((i+1:Nat):Int) by unfold wrap64;omega],⟨h3,Nat.le_refl _⟩,⟨blk_old Hb.out _⟩,⟨Hr.out.below (pw_below_drewN (below_alloc (Below.refl _ _) _) nq)⟩,Hv2,⟨?_⟩,⟨pw_below_drewN (below_alloc HBr.out _) nq⟩,⟨blk_old H3.out _⟩,⟨by have:=Hl2.out;omega⟩,Hne⟩
    rw [Hm.out,Hn.out,if_neg Hgg.out]
    simp
   have d2 : (r0 == x0) = false := beq_eq_false_iff_ne.mpr g0
   have Hgg:Aside0 (¬(r0=x0∧r1=sym∧r2=top)):=⟨fun e=>g0 (e.1)⟩
   clear g0
   go_wp2_with fail
   go_quiet (fail)
   go_wp2
   go_roundg (l.length - (i+1))
   case measure=>have:=Hi.out;have:=HI.out;omega
   case' rel=>skip
   have h1:=HL.out
   have h3:=HI.out
   refine⟨i+1,v2,es2,by rw [show wrap64 ((i:Int)+1)=((i+1:Nat):Int) by unfold wrap64;omega],⟨h3,Nat.le_refl _⟩,⟨blk_old Hb.out _⟩,⟨Hr.out.below (pw_below_drewN (below_alloc (Below.refl _ _) _) nq)⟩,Hv2,⟨?_⟩,⟨pw_below_drewN (below_alloc HBr.out _) nq⟩,⟨blk_old H3.out _⟩,⟨by have:=Hl2.out;omega⟩,Hne⟩
   rw [Hm.out,Hn.out,if_neg Hgg.out]
   simp
  have d1 : (i < l.length) = False := eq_false hlt
  have hi:i=l.length:=by have:=Hi.out;omega
  subst hi
  clear hlt
  go_wp2
  refine bodyPost_end (results_none rfl _ _ _) rfl ?_
  have hm:=Hm.out
  rw [List.take_length] at hm
  first|exact⟨rfl,v2,Hb.out,es2,Hr.out,Hv2.out,hm,HBr.out⟩|exact⟨rfl,v2,es2,Hb.out,Hr.out,Hv2.out,hm,HBr.out⟩
end Go.Proofs.Ytjkhdldgmkkhjaa.P
