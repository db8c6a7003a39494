/- Words and walks of this claim: SBack. -/
import Derived.Test.YtjkhdldgmkkhjaaHMFar
import Derived.Test.YtjkhdldgmkkhjaaHMIntsEtc
import Derived.Test.YtjkhdldgmkkhjaaHP0Etc
import Derived.Test.YtjkhdldgmkkhjaaHWEqStructEtc
set_option linter.unusedVariables false
set_option linter.unusedSimpArgs false
set_option linter.unnecessarySimpa false
namespace Go.Proofs.Ytjkhdldgmkkhjaa.P
open Go.RowKit Go.Proofs.YtjkhdldgmkkhjaaW.PrintWords Go.Proofs.YtjkhdldgmkkhjaaW.PrintLast Go.Proofs.YtjkhdldgmkkhjaaW.PrintMore Go.Proofs.Ytjkhdldgmkkhjaa.M
def EndsIs (w:World) (b base:Nat) (f:Int→List Int):Prop:=
 ∃m:List (Int × Value),MapIs (Value.int .i64) (fun v:Value=>v) w b m∧(∀x v,asc m x=some v→(Kd.int .i64).R 3 w base (fun _=>True) v (f x))∧(∀x,asc m x=none→f x = [])∧
  (∀x y v u,asc m x=some v→asc m y=some u→x≠y→∀k,v.ownBlock=some k→u.ownBlock≠some k)
theorem R_nc {α:Type} {d:Kd α} {e base b:Nat} {w:World} {ok:Nat→Prop} {v:Value} {xs:List α} (h:d.R e w base ok v xs) (hb:NoCells w b):some b≠v.ownBlock:=by
 intro he
 obtain⟨inner,ho⟩:=Kd.R_own h
 obtain⟨cells,h2⟩:=own_typed ho b he.symm
 exact hb _ _ _ h2
theorem keyInt:KeyB Try.prog 3 (Value.int .i64):=keyB_int Try.underlying3
theorem EndsIs.grown {w w' : World} {b base:Nat} {f:Int→List Int} {row:Option Nat} (h:EndsIs w b base f) (g:w.grownBy w' row) (h1:some b≠row) (h2:∀k,row=some k→k < base∨NoCells w k):EndsIs w' b base f:=by
 obtain⟨m,hm,ha,hb,hc⟩:=h
 refine⟨m,hm.grown g h1,fun x v hv=>?_,hb,hc⟩
 have hv:=ha x v hv
 refine Kd.R_mono (Kd.R_move (Kd.R_bound hv) (fun k hk=>g.block k hk.2.2.1 (fun e=>?_))) (fun _ hk=>hk.1)
 obtain⟨_,h3,_,q,_,cells,h4⟩:=hk
 rcases h2 k e.symm with h5|h5
 ·omega
 exact h5 _ _ _ h4
def endsOf (l:Row) (x:Int):List Int:=(l.filter fun p=>decide (p.1=x)).map (·.2)
theorem endsOf_snoc (l:Row) (p:Int × Int) (x:Int):endsOf (l ++ [p]) x=endsOf l x ++ if p.1=x then [p.2] else []:=by
 by_cases h:p.1=x<;>simp [endsOf,h]
theorem mem_endsOf {l:Row} {x y:Int} : y∈endsOf l x↔(x,y)∈l:=by
 simp only [endsOf,List.mem_map,List.mem_filter,decide_eq_true_eq]
 constructor
 ·rintro ⟨⟨a, b⟩, ⟨h1, h2⟩, h3⟩
  simp at h2 h3
  subst h2;subst h3;exact h1
 intro h
 exact⟨(x,y),⟨h,rfl⟩,rfl⟩
theorem endsOf_length (l:Row) (x:Int):(endsOf l x).length≤l.length:=by simp [endsOf];exact List.length_filter_le _ _
theorem nodup_sub_length {α:Type} [DecidableEq α]:∀{l m:List α},l.Nodup→(∀x∈l,x∈m)→l.length≤m.length
 | [],_,_,_=>by simp
 | x :: l,m,hn,hs=>by
  obtain⟨h1,h2⟩:=List.nodup_cons.1 hn
  have h3:=nodup_sub_length (m:=m.erase x) h2 (fun y hy=>(List.mem_erase_of_ne (fun e=>h1 (by rw [←e];exact hy))).2 (hs y (List.mem_cons_of_mem _ hy)))
  have h4:=List.length_erase_of_mem (hs x List.mem_cons_self)
  have h5:=List.length_pos_of_mem (hs x List.mem_cons_self)
  simp only [List.length_cons]
  omega
theorem EndsIs.put {w2 wd w9 w10:World} {b base:Nat} {f:Int→List Int} {me:List (Int × Value)} {pa pb:Int} {v0 v1:Value}
 (hma:∀x v,asc me x=some v→(Kd.int .i64).R 3 w2 base (fun _=>True) v (f x)) (hmn:∀x,asc me x=none→f x = [])
 (hmd:∀x y v u,asc me x=some v→asc me y=some u→x≠y→∀k,v.ownBlock=some k→u.ownBlock≠some k) (hv0:v0=((asc me pa).map (fun v=>v)).getD (.slice none 0 0))
 (hd:w2.grownBy wd none) (h9:wd.grownBy w9 v0.ownBlock) (hat:v1.ownBlock=v0.ownBlock∨∃k,v1.ownBlock=some k∧wd.heap.size≤k) (hv1:(Kd.int .i64).R 3 w9 base (fun _=>True) v1 (f pa ++ [pb]))
 (hb9:NoCells w9 b) (h10:w9.grownBy w10 (some b)) (hm:MapIs (Value.int .i64) (fun v:Value=>v) w10 b (putM me pa v1)):EndsIs w10 b base (fun x=>f x ++ if pa=x then [pb] else []):=by
 have lt:∀x v,asc me x=some v→∀k,v.ownBlock=some k→k < w2.heap.size:=fun x v hv k hk=>by
  obtain⟨inner,ho⟩:=Kd.R_own (hma x v hv)
  exact own_lt ho k hk
 have oth:∀x v,asc me x=some v→x≠pa→∀k,v.ownBlock=some k→v0.ownBlock≠some k:=fun x v hv hx k hk e=>by
  rw [hv0] at e
  cases ha:asc me pa with
  | none=>rw [ha] at e;simp [Value.ownBlock] at e
  | some u=>rw [ha] at e;exact hmd x pa v u hv ha hx k hk (by simpa using e)
 refine⟨_,hm,fun x v hv=>?_,fun x hx=>?_,fun x y v u hx hy hxy k hk=>?_⟩
 ·rw [asc_putM] at hv
  have last:∀{v:Value} {xs:List Int},(Kd.int .i64).R 3 w9 base (fun _=>True) v xs→(Kd.int .i64).R 3 w10 base (fun _=>True) v xs:=fun {v xs} h=>by
   have h2:(Kd.int .i64).R 3 w9 base (fun k=>v.ownBlock=some k) v xs:=⟨fun k hk=>hk,h.2⟩
   exact⟨fun _ _=>trivial,(Kd.R_step h2 (fun k hk hlt=>h10.block k hlt (fun e=>by injection e with e;subst e;exact R_nc h hb9 hk.symm))).2⟩
  by_cases hx:x=pa
  ·subst hx
   simp only [if_true,Option.some.injEq] at hv
   subst hv
   simpa using last hv1
  rw [if_neg hx] at hv
  have h1:=hma x v hv
  have h2:(Kd.int .i64).R 3 w2 base (fun k=>v.ownBlock=some k) v (f x):=⟨fun k hk=>hk,h1.2⟩
  have h3:=Kd.R_step h2 (fun k _ hlt=>hd.block k hlt nen)
  have h4:=Kd.R_step h3 (fun k hk hlt=>h9.block k hlt (fun e=>oth x v hv hx k hk e.symm))
  have h5:(Kd.int .i64).R 3 w9 base (fun _=>True) v (f x):=⟨fun _ _=>trivial,h4.2⟩
  have:=last h5
  show (Kd.int .i64).R _ w10 base _ v (f x ++ if pa=x then [pb] else [])
  rw [if_neg (fun e=>hx e.symm),List.append_nil]
  exact this
 ·rw [asc_putM] at hx
  by_cases h:x=pa
  ·simp [h] at hx
  rw [if_neg h] at hx
  simp [hmn x hx,Ne.symm h]
 rw [asc_putM] at hx hy
 have fresh:∀z u,asc me z=some u→z≠pa→∀k,v1.ownBlock=some k→u.ownBlock≠some k:=fun z u hu hz k hk e=>by
  rcases hat with h|⟨k',h,hk'⟩
  ·rw [h] at hk;exact oth z u hu hz k e hk
  rw [h] at hk
  injection hk with hk
  subst hk
  have:=lt z u hu _ e
  have:=hd.size
  omega
 by_cases h1:x=pa
 ·subst h1
  simp only [if_true,Option.some.injEq] at hx
  subst hx
  rw [if_neg (fun e=>hxy e.symm)] at hy
  exact fresh y u hy (fun e=>hxy e.symm) k hk
 rw [if_neg h1] at hx
 by_cases h2:y=pa
 ·subst h2
  simp only [if_true,Option.some.injEq] at hy
  subst hy
  exact fun e=>fresh x v hx h1 k e hk
 rw [if_neg h2] at hy
 exact hmd x y v u hx hy hxy k hk
theorem index_l0 (l:List Int) (a:Int) (hl:l.length≤10000000000000):∀(d:Nat) (i:Int),0≤i→i+d=l.length→∃r,slices_Index_int_int.l0 (d+1) l a (l.length:Int) i=some r∧(r≥0↔a∈l.drop i.toNat):=by
 intro d
 induction d with
 | zero=>
  intro i h0 h1
  refine⟨-1,?_,?_⟩
  ·simp only [slices_Index_int_int.l0];rw [if_neg (by omega)]
  rw [List.drop_eq_nil_of_le (by omega)];simp
 | succ d ih=>
  intro i h0 h1
  have hlt:i < (l.length:Int):=by omega
  have hd:=drop_next 0 l i h0 hlt
  by_cases h:a=rd l i
  ·refine ⟨i, ?_, ?_⟩
   ·simp only [slices_Index_int_int.l0];rw [if_pos hlt,if_pos h0,if_pos hlt,if_pos h]
   rw [hd,h];simp [h0,rd]
  obtain ⟨r, hr, hm⟩ := ih (i + 1) (by omega) (by omega)
  refine⟨r,?_,?_⟩
  ·simp only [slices_Index_int_int.l0];rw [if_pos hlt,if_pos h0,if_pos hlt,if_neg h,show wrap64 (i+1)=i+1 by unfold wrap64;omega];exact hr
  rw [hm, hd, List.mem_cons]
  exact⟨Or.inr,fun h'=>h'.elim (fun e=>absurd e h) id⟩
theorem contains_calls (A:Option Addr) (c:Nat) (l:List Int) (a:Int) (w:World) (hr:Kd.C (Kd.int .i64) w A l.length l) (hc:l.length≤c) (hl:l.length≤10000000000000) :
 Calls Try.prog 41 #[.slice A l.length c,.int .i64 a] w fun e w'=>e=.returned (.bool (decide (a∈l)))∧Drawn0 w w':=by
 obtain⟨r,h1,h2⟩:=index_l0 l a hl l.length 0 (by omega) (by omega)
 refine slices_Contains_int_int.calls (l.length+1) A c l a _ w hr hc ?_
 unfold slices_Contains_int_int.f slices_Index_int_int.f
 rw [h1]
 simp only [Option.bind_some,Option.some.injEq,decide_eq_decide]
 rw [h2]
 simp
theorem size_aside {s a b c:Nat} (h1:a=s) (h2:a≤b) (h3:b≤c):Aside0 (s≤b∧b≤c):=⟨by omega⟩
def nB1 (cs:List TClose) (o:TOpen) (k pa:Int) (row:Row):Row:=cs.filterMap fun c=>if c.f1=k∧c.f2=o.f3∧(o.f2,c.f0)∈row then some (pa,c.f3) else none
def nB2 (os:List TOpen) (cs:List TClose) (k by_:Int) (p:Int × Int) (row:Row):Row:=(os.filter fun o=>decide (o.f0=p.2∧o.f1=by_)).flatMap fun o=>nB1 cs o k p.1 row
theorem nBack_eq (os:List TOpen) (cs:List TClose) (k by_:Int) (under row:Row):nBack os cs k by_ under row=under.flatMap fun p=>nB2 os cs k by_ p row:=rfl
theorem nBack_snoc (os:List TOpen) (cs:List TClose) (k by_:Int) (under row:Row) (p:Int × Int):nBack os cs k by_ (under ++ [p]) row=nBack os cs k by_ under row ++ nB2 os cs k by_ p row:=by simp [nBack_eq]
theorem nB2_next (os:List TOpen) (cs:List TClose) (k by_:Int) (p:Int × Int) (row:Row) (j:Int) (h0:0≤j) (h:j < os.length) :
 nB2 (os.take (j+1).toNat) cs k by_ p row=nB2 (os.take j.toNat) cs k by_ p row ++ if (rd_T52 os j).f0=p.2∧(rd_T52 os j).f1=by_ then nB1 cs (rd_T52 os j) k p.1 row else []:=by
 rw [take_next z52 os j h0 h]
 simp only [nB2,List.filter_append,List.flatMap_append]
 congr 1
 show List.flatMap _ (List.filter _ [rd_T52 os j])=_
 by_cases hc:(rd_T52 os j).f0=p.2∧(rd_T52 os j).f1=by_<;>simp [hc]
theorem nB1_next (cs:List TClose) (o:TOpen) (k pa:Int) (row:Row) (j:Int) (h0:0≤j) (h:j < cs.length) :
 nB1 (cs.take (j+1).toNat) o k pa row=nB1 (cs.take j.toNat) o k pa row ++ if (rd_T54 cs j).f1=k∧(rd_T54 cs j).f2=o.f3∧(o.f2,(rd_T54 cs j).f0)∈row then [(pa,(rd_T54 cs j).f3)] else []:=by
 rw [take_next z54 cs j h0 h]
 simp only [nB1,List.filterMap_append]
 congr 1
 show List.filterMap _ [rd_T54 cs j]=_
 by_cases hc:(rd_T54 cs j).f1=k∧(rd_T54 cs j).f2=o.f3∧(o.f2,(rd_T54 cs j).f0)∈row<;>simp [hc]
set_option maxHeartbeats 8000000 in
set_option maxRecDepth 100000 in
theorem runs_back.calls (a1_0 a1_1:Int) (A1_2:Option Addr) (c1_2 n2:Nat) (A1_3:Option Addr) (c1_3 n3:Nat) (A1_4:Option Addr) (c1_4:Nat) (l1_4:List TOpen) (A1_5:Option Addr) (c1_5:Nat) (l1_5:List TClose) (A1_6:Option Addr) (c1_6 n6:Nat) (bu bn:Nat) (yu yn k:Int) (rowU rowN:Row) (w:World)
 (hr1_4:Kd.C k52 w A1_4 l1_4.length l1_4) (hr1_5:Kd.C k54 w A1_5 l1_5.length l1_5) (hs:l1_4.length≤1000000∧l1_5.length≤1000000) (hu:RowIs w bu rowU) (hn:RowIs w bn rowN) (hl:∃M:Row,(∀p∈rowN,p∈M)∧M.length≤10000000000000) :
 Calls Try.prog 40 #[.agg #[.int .i64 a1_0,.int .i64 a1_1,.slice A1_2 n2 c1_2,.slice A1_3 n3 c1_3,.slice A1_4 l1_4.length c1_4,.slice A1_5 l1_5.length c1_5,.slice A1_6 n6 c1_6],.agg #[.map (some bu),.int .i64 yu],.agg #[.map (some bn),.int .i64 yn],.int .i64 k] w
  fun e w'=>∃b,e=.returned (.agg #[.map (some b),.int .i64 yu])∧w.heap.size≤b∧RowIs w' b (nBack l1_4 l1_5 k yn rowU rowN)∧Below w.heap.size w w':=by
 have HR4:=Aside0.mk hr1_4
 have HR5:=Aside0.mk hr1_5
 have HS:=Aside0.mk hs
 have HUu:=Aside0.mk hu
 have HNn:=Aside0.mk hn
 have HL:=Aside0.mk hl
 clear hr1_4 hr1_5 hs hu hn hl
 have hmm:=@run_makeMap Try.prog
 go_enter Try.func40,Try.ntmps40
 obtain⟨mu,HMu0,Hmu0⟩:=HUu.out
 have HMu:=Aside0.mk HMu0
 have Hmu:=Aside0.mk Hmu0
 clear HMu0 Hmu0
 obtain⟨mn,HMn0,Hmn0⟩:=HNn.out
 have HMl:Aside0 (mn.length≤10000000000000):=⟨by
  obtain⟨M,hM1,hM2⟩:=HL.out
  have h1:(mn.map (·.1)).length≤M.length:=nodup_sub_length HMn0.nodup (fun p hp=>hM1 p ((Hmn0 p).1 hp))
  simp at h1
  omega⟩
 have HMn:=Aside0.mk HMn0
 have Hmn:=Aside0.mk Hmn0
 clear HMn0 Hmn0
 go_wp2_with (at_range;go_loud (refine wp_range rfl _ _ rfl _ _ Try.underlying74 bn rfl (((((((HMn.out.alloc _).alloc _).alloc _).alloc _).alloc _).alloc _).alloc _) (w.heap.size+1+1+1+1+1+1+1) (by simp only [size_alloc]) ?_);intro w1 hit1 hg1)
 obtain⟨W0,hW0⟩:∃W0:World,W0=(((((((w.alloc (.cells #[.int .i64 a1_0,.int .i64 a1_1,.slice A1_2 n2 c1_2,.slice A1_3 n3 c1_3,.slice A1_4 l1_4.length c1_4,.slice A1_5 l1_5.length c1_5,.slice A1_6 n6 c1_6] 30)).alloc (.cells #[.map (some bu),.int .i64 yu] 76)).alloc (.cells #[.map (some bn),.int .i64 yn] 76)).alloc (.cells #[.map none,.int .i64 0] 76)).alloc (.map #[] 0)).alloc (.cells #[.map (some (w.heap.size+1+1+1+1)),.int .i64 yu] 76)).alloc (.map #[] 0)):=⟨_,rfl⟩
 have hz0:W0.heap.size=w.heap.size+1+1+1+1+1+1+1:=by rw [hW0];simp only [size_alloc]
 have H4:=Aside0.mk (hW0 ▸ blk_old (blk_old (blk_old (blk_old (blk_old (blk_old (blk_newAt _ rfl) _) _) _) _) _) _:W0.heap[w.heap.size]? = some (.cells #[.int .i64 a1_0,.int .i64 a1_1,.slice A1_2 n2 c1_2,.slice A1_3 n3 c1_3,.slice A1_4 l1_4.length c1_4,.slice A1_5 l1_5.length c1_5,.slice A1_6 n6 c1_6] 30 (0,0)))
 have H5:=Aside0.mk (hW0 ▸ blk_old (blk_old (blk_old (blk_old (blk_old (blk_newAt _ (by simp only [size_alloc])) _) _) _) _) _:W0.heap[w.heap.size+1]? = some (.cells #[.map (some bu),.int .i64 yu] 76 (0,0)))
 have H6:=Aside0.mk (hW0 ▸ blk_old (blk_old (blk_old (blk_old (blk_newAt _ (by simp only [size_alloc])) _) _) _) _:W0.heap[w.heap.size+1+1]? = some (.cells #[.map (some bn),.int .i64 yn] 76 (0,0)))
 have H8:=Aside0.mk (hW0 ▸ blk_old (blk_old (blk_old (blk_newAt _ (by simp only [size_alloc])) _) _) _:W0.heap[w.heap.size+1+1+1]? = some (.cells #[.map none,.int .i64 0] 76 (0,0)))
 have HX:=Aside0.mk (hW0 ▸ ((MapIs.madeAt ePair eOne (by simp only [size_alloc])).alloc _).alloc _:MapIs ePair eOne W0 (w.heap.size+1+1+1+1) ([]:List ((Int × Int) × Int)))
 have H9:=Aside0.mk (hW0 ▸ blk_old (blk_newAt _ (by simp only [size_alloc])) _:W0.heap[w.heap.size+1+1+1+1+1]? = some (.cells #[.map (some (w.heap.size+1+1+1+1)),.int .i64 yu] 76 (0,0)))
 have HE:=Aside0.mk (hW0 ▸ MapIs.madeAt (Value.int .i64) (fun v:Value=>v) (by simp only [size_alloc]):MapIs (Value.int .i64) (fun v:Value=>v) W0 (w.heap.size+1+1+1+1+1+1) ([]:List (Int × Value)))
 have HB:=Aside0.mk (hW0 ▸ (by repeat (first|exact Below.refl _ _|apply below_alloc)):Below w.heap.size w W0)
 rw [←hW0] at hg1
 have hz:=Aside0.mk hz0
 clear hW0 hz0
 go_frame
 go_loopg [] mn.length (fun n w'=>∃(left done:List ((Int × Int) × Int)),Aside0 (n=left.length)∧Aside0 (mn.Perm (done ++ left))∧Aside0 (IterIs ePair eOne w' (w.heap.size+1+1+1+1+1+1+1) bn mn left)∧
  Aside0 (EndsIs w' (w.heap.size+1+1+1+1+1+1) (w.heap.size+1+1+1+1+1+1+1) (endsOf (done.map (·.1))))∧Aside0 (W0.grownBy w' (some (w.heap.size+1+1+1+1+1+1))))
 case atStart=>exact⟨mn,[],⟨rfl⟩,⟨List.Perm.refl _⟩,⟨hit1⟩,⟨⟨[],HE.out.grown hg1 nen,fun x v h=>by simp [asc] at h,fun x _=>rfl,fun x y v u h=>by simp [asc] at h⟩⟩,⟨gb_none hg1 _⟩⟩
 case' round=>skip
 clear hit1 hg1
 obtain⟨left,done,Hn1,Hp,HI,HEn,Hg⟩:=hrel
 have hzz:=blk_lt (blk_grown H9.out Hg.out (nes (by omega)))
 have HMur:=Aside0.mk ((HMu.out.below HB.out HMu.out.lt).grown Hg.out (nes (by have:=HMu.out.lt;omega)))
 have k50:wr.cell? ⟨w.heap.size+1,0,none⟩=some (.map (some bu)):=(blk_cell (blk_grown H5.out Hg.out (nes (by omega))) 0).trans rfl
 go_wp2_with (first
  | (at_next;go_loud (refine wp_next rfl _ rfl _ rfl HI.out ?dn1 ?mr1);(case' dn1=>intro hl0;have HL0:=Aside0.mk hl0;clear hl0);(case' mr1=>rintro⟨⟨pa,pb⟩,pv⟩ left2 w2 hp2 hi2 hg2 hen;simp only [ePair,eOne] at hen))
  | (at_range;go_loud (refine wp_range rfl _ _ rfl _ _ Try.underlying74 bu rfl HMur.out wr.heap.size rfl ?_);intro w5 hit5 hg5))
 ·have HI2 := Aside0.mk hi2
  have Hp2:=Aside0.mk hp2
  have Hg2:=Aside0.mk hg2
  have HE2:=HEn.out.grown hg2 (nes (by omega)) (fun k hk=>.inr (by cases hk;exact HI.out.nc))
  clear hi2 hp2 hg2 hen k50
  obtain⟨me,hme,hma,hmn,hmd⟩:=HE2
  obtain⟨v0,hv0⟩:∃v0:Value,v0=((asc me pa).map (fun v=>v)).getD (.slice none 0 0):=⟨_,rfl⟩
  have HV0:Aside0 ((Kd.int .i64).R 3 (w2.alloc (.cells #[.int .i64 pa,.int .i64 pb] 78)).drew (w.heap.size+1+1+1+1+1+1+1) (fun _=>True) v0 (endsOf (done.map (·.1)) pa)):=⟨by
   rw [hv0]
   cases ha:asc me pa with
   | none=>rw [hmn pa ha];exact Kd.R_nil _ _ _ _ _
   | some v=>exact Kd.R_step (hma pa v ha) (fun k _ hk=>(MapKept.heap_alloc w2 _).2 k hk)⟩
  have Hv0:=Aside0.mk hv0
  have HMe:=Aside0.mk ((hme.alloc (.cells #[.int .i64 pa,.int .i64 pb] 78)).move (w':=(w2.alloc (.cells #[.int .i64 pa,.int .i64 pb] 78)).drew) rfl)
  have Hma:=Aside0.mk hma
  have Hmn2:=Aside0.mk hmn
  have Hmd:=Aside0.mk hmd
  clear hme hma hmn hmd hv0
  have HP0:=Aside0.mk (show (w2.alloc (.cells #[.int .i64 pa,.int .i64 pb] 78)).drew.heap[w2.heap.size]? = _ from blk_newAt (w:=w2) (n:=w2.heap.size) (.cells #[.int .i64 pa,.int .i64 pb] 78) rfl)
  have Hdg:=Aside0.mk (gb_drew (gb_alloc (gb_refl w2 none) (.cells #[.int .i64 pa,.int .i64 pb] 78)))
  refine start_ (n:=12) (S:=fun w'=>w'.cell? ⟨w2.heap.size,0,none⟩=some (.int .i64 pa)∧w'.cell? ⟨w2.heap.size,1,none⟩=some (.int .i64 pb)∧MapIs (Value.int .i64) (fun v:Value=>v) w' (w.heap.size+1+1+1+1+1+1) me) (ds:=[11]) #[false,false,false,false,false,false,false,false,false,false,false,false] (by kernel_rfl) rfl rfl ⟨(blk_cell HP0.out 0).trans rfl,(blk_cell HP0.out 1).trans rfl,HMe.out⟩ (fun hHeld=>?_)
  generalize (w2.alloc (.cells #[.int .i64 pa,.int .i64 pb] 78)).drew=wd at HV0 HMe HP0 Hdg hHeld ⊢
  refine pure_ (i:=0) (N:=(some 29)) (v:=?_) (a':=?_) #[true,false,false,false,false,false,false,false,false,false,false,false] rfl rfl (by kernel_rfl) (fun _ _ _ h=>h) (Or.inl ⟨by rfl,?_⟩) ?_ ?_
  rotate_left
  ·intro w'
   go_simp
   with_reducible rfl
  rotate_left
  ·simp only [Act.put, M.sq3, i64_w, i32_w]
   rfl
  refine pure_ (i:=1) (N:=(some 30)) (v:=?_) (a':=?_) #[true,true,false,false,false,false,false,false,false,false,false,false] rfl rfl (by kernel_rfl) (fun _ _ _ h=>h) (Or.inl ⟨by rfl,?_⟩) ?_ ?_
  rotate_left
  ·intro w'
   go_simp
   with_reducible rfl
  rotate_left
  ·simp only [Act.put, M.sq3, i64_w, i32_w]
   rfl
  refine pure_ (i:=3) (N:=(some 32)) (v:=?_) (a':=?_) #[true,true,false,true,false,false,false,false,false,false,false,false] rfl rfl (by kernel_rfl) (fun _ _ _ h=>h) (Or.inl ⟨by rfl,?_⟩) ?_ ?_
  rotate_left
  ·intro w'
   go_simp
   with_reducible rfl
  rotate_left
  ·simp only [Act.put, M.sq3, i64_w, i32_w]
   rfl
  refine pure_ (i:=4) (N:=(some 33)) (v:=?_) (a':=?_) #[true,true,false,true,true,false,false,false,false,false,false,false] rfl rfl (by kernel_rfl) (fun _ _ _ h=>h) (Or.inl ⟨by rfl,?_⟩) ?_ ?_
  rotate_left
  ·intro w'
   go_simp
   with_reducible rfl
  rotate_left
  ·simp only [Act.put, M.sq3, i64_w, i32_w]
   rfl
  refine pure_ (i:=7) (N:=(some 36)) (v:=?_) (a':=?_) #[true,true,false,true,true,false,false,true,false,false,false,false] rfl rfl (by kernel_rfl) (fun _ _ _ h=>h) (Or.inl ⟨by rfl,?_⟩) ?_ ?_
  rotate_left
  ·intro w'
   go_simp
   with_reducible rfl
  rotate_left
  ·simp only [Act.put, M.sq3, i64_w, i32_w]
   rfl
  refine take_ (i:=2) (N:=(some 31)) (v:=?_) (a':=?_) #[true,true,true,true,true,false,false,true,false,false,false,false] rfl rfl (by kernel_rfl) (fun _ _ _ h=>h) (Or.inl ⟨by rfl,?_⟩) hHeld ?_ ?_
  rotate_left
  ·intro w' hS_
   obtain⟨s0,s1,s2⟩:=hS_
   go_simp
   with_reducible rfl
  rotate_left
  ·simp only [Act.put, M.sq3, i64_w, i32_w]
   rfl
  refine take_ (i:=5) (N:=(some 34)) (v:=?_) (a':=?_) #[true,true,true,true,true,true,false,true,false,false,false,false] rfl rfl (by kernel_rfl) (fun _ _ _ h=>h) (Or.inl ⟨by rfl,?_⟩) hHeld ?_ ?_
  rotate_left
  ·intro w' hS_
   obtain⟨s0,s1,s2⟩:=hS_
   go_simp
   with_reducible rfl
  rotate_left
  ·simp only [Act.put, M.sq3, i64_w, i32_w]
   rfl
  refine take_ (i:=6) (N:=(some 35)) (v:=?_) (a':=?_) #[true,true,true,true,true,true,true,true,false,false,false,false] rfl rfl (by kernel_rfl) (fun _ _ _ h=>h) (Or.inl ⟨by rfl,?_⟩) hHeld ?_ ?_
  rotate_left
  ·intro w' hS_
   obtain⟨s0,s1,s2⟩:=hS_
   have hlk:=s2.run_lookup keyInt Try.underlying97 pa (.slice none 0 0) (by go_simp) false
   rw [if_neg (by decide),←Hv0.out] at hlk
   clear s2
   go_simp
   with_reducible rfl
  rotate_left
  ·simp only [Act.put, M.sq3, i64_w, i32_w]
   rfl
  refine take_ (i:=8) (N:=(some 37)) (v:=?_) (a':=?_) #[true,true,true,true,true,true,true,true,true,false,false,false] rfl rfl (by kernel_rfl) (fun _ _ _ h=>h) (Or.inl ⟨by rfl,?_⟩) hHeld ?_ ?_
  rotate_left
  ·intro w' hS_
   obtain⟨s0,s1,s2⟩:=hS_
   go_simp
   with_reducible rfl
  rotate_left
  ·simp only [Act.put, M.sq3, i64_w, i32_w]
   rfl
  refine one_ (i:=9) (N:=(some 38)) #[true,true,true,true,true,true,true,true,true,true,false,false] rfl rfl (by kernel_rfl) (by decide) (fun K hK=>?_)
  refine step_run (v:=.slice (some ⟨wd.heap.size,0,none⟩) 1 1) (w1:=wd.alloc (.cells #[.int .i64 pb] 3)) rfl (by go_simp) ?_
  refine hK.out _ _ ⟨(blk_cell (blk_old HP0.out _) 0).trans rfl,(blk_cell (blk_old HP0.out _) 1).trans rfl,HMe.out.alloc _⟩ (fun hHeld=>?_)
  clear hK K
  refine norm_ (a':=?_) ?_ ?_
  rotate_left
  ·show Act.put _ (some 38) _ = _
   simp only [Act.put,M.sq3,i64_w,i32_w]
   rfl
  refine one_ (i:=10) (N:=(some 39)) #[true,true,true,true,true,true,true,true,true,true,true,false] rfl rfl (by kernel_rfl) (by decide) (fun K hK=>?_)
  refine Kd.R_append_step (Kd.int .i64) (w0:=wd) (w.heap.size+1+1+1+1+1+1+1) rfl (.tmp 35) (.tmp 38) 22 3 (.int .i64 0) 8 rfl Try.underlying22 infoInt rfl (by decide) (by omega) v0 (endsOf (done.map (·.1)) pa) pb [.int .i64 pb] (fun _=>True) (fun _=>False) rfl rfl rfl (fun _ hk=>hk.elim) (fun _ _=>trivial) HV0.out (Below.refl _ _) ?_ ?_ ?_
  ·have:=Hdg.out.size;have:=Hg2.out.size;have:=Hg.out.size;have:=hz.out;omega
  ·have := endsOf_length (done.map (·.1)) pa
   have h1:=Hp.out.length_eq
   have h2:mn.length≤10000000000000:=HMl.out
   simp at this h1
   omega
  intro v1 w9 ho hb hg9 hat
  have Ho:=Aside0.mk ho
  have Hg9:=Aside0.mk hg9
  have Hat:=Aside0.mk hat
  have hP9:=blk_grown HP0.out hg9 (Kd.R_ne HV0.out HP0.out (by decide))
  have hM9:=HMe.out.grown hg9 (R_nc HV0.out HMe.out.nc)
  have HM9:=Aside0.mk hM9
  clear ho hb hg9 hat
  refine hK.out _ _ ⟨(blk_cell hP9 0).trans rfl,(blk_cell hP9 1).trans rfl,hM9⟩ (fun hHeld=>?_)
  clear hK K hP9 hM9
  refine norm_ (a':=?_) ?_ ?_
  rotate_left
  ·show Act.put _ (some 39) _ = _
   simp only [Act.put,M.sq3,i64_w,i32_w]
   rfl
  refine last_ (i:=11) (N:=none) #[true,true,true,true,true,true,true,true,true,true,true,true] rfl rfl (by kernel_rfl) (by decide) (fun K hK=>?_)
  refine step_update rfl _ _ _ _ rfl _ _ Try.underlying97 keyInt (w.heap.size+1+1+1+1+1+1) rfl HM9.out pa rfl v1 rfl ?_
  intro w10 hm10 hg10
  have Hm10:=Aside0.mk hm10
  have Hg10:=Aside0.mk hg10
  clear hm10 hg10
  refine hK.out _ _ ?_
  clear hK K
  refine done_ (by kernel_rfl) ?_
  go_wp2
  go_roundg left2.length
  case measure=>have:=Hn1.out;have:=Hp2.out.length_eq;simp at this;omega
  case' rel=>skip
  have hzq:=hz.out
  have hbn:=HMn.out.lt
  have s2:=Hg2.out.size
  have s1:=Hg.out.size
  refine⟨left2,done ++ [((pa,pb),pv)],⟨rfl⟩,⟨?_⟩,⟨?_⟩,⟨?_⟩,⟨?_⟩⟩
  ·rw [List.append_assoc]
   exact Hp.out.trans (Hp2.out.append_left done)
  ·have i1 := HI2.out.grown Hdg.out nen nen
   have i2:=i1.grown Hg9.out (R_nc HV0.out (fun c t f h=>by obtain⟨es,cl,seen,e,_⟩:=i1;rw [e] at h;cases h)) (R_nc HV0.out i1.nc)
   exact i2.grown Hg10.out (nes (by omega)) (nes (by omega))
  ·have he := EndsIs.put Hma.out Hmn2.out Hmd.out Hv0.out Hdg.out Hg9.out Hat.out Ho.out HM9.out.nc Hg10.out Hm10.out
   have:(fun x=>endsOf (done.map (·.1)) x ++ if pa=x then [pb] else [])=endsOf ((done ++ [((pa,pb),pv)]).map (·.1)):=by
    funext x
    rw [List.map_append,List.map_cons,List.map_nil,endsOf_snoc]
   rw [←this]
   exact he
  have g1 : W0.grownBy w2 (some (w.heap.size + 1 + 1 + 1 + 1 + 1 + 1)) := gb_new Hg.out Hg2.out (by omega)
  have g2:W0.grownBy wd (some (w.heap.size+1+1+1+1+1+1)):=gb_trans g1 (gb_none Hdg.out _)
  have g3:W0.grownBy w9 (some (w.heap.size+1+1+1+1+1+1)):=by
   cases hb:v0.ownBlock with
   | none=>exact gb_trans g2 (gb_none (hb ▸ Hg9.out) _)
   | some b0=>
    obtain⟨inner,ho⟩:=Kd.R_own HV0.out
    exact gb_new g2 (hb ▸ Hg9.out) (by have:=own_base ho b0 hb;omega)
  exact gb_trans g3 Hg10.out
 have HEnd : Aside0 (EndsIs wr (w.heap.size + 1 + 1 + 1 + 1 + 1 + 1) (w.heap.size + 1 + 1 + 1 + 1 + 1 + 1 + 1) (endsOf (done.map (·.1)))) := HEn
 have Hmem:Aside0 (∀x y,y∈endsOf (done.map (·.1)) x↔(x,y)∈rowN):=⟨fun x y=>by
  have h1:=((Hp.out.map (·.1)).mem_iff (a:=(x,y)))
  rw [HL0.out,List.append_nil,Hmn.out (x,y)] at h1
  rw [mem_endsOf,h1]⟩
 have Hlen:Aside0 (∀x,(endsOf (done.map (·.1)) x).length≤10000000000000):=⟨fun x=>by
  have h1:=endsOf_length (done.map (·.1)) x
  have h2:=Hp.out.length_eq
  have h3:=HMl.out
  simp at h1 h2
  omega⟩
 have HX5:=Aside0.mk ((HX.out.grown Hg.out (nes (by omega))).grown hg5 nen)
 have H45:=Aside0.mk (blk_grown H4.out Hg.out (nes (by omega)))
 have H65:=Aside0.mk (blk_grown H6.out Hg.out (nes (by omega)))
 have H85:=Aside0.mk (blk_grown H8.out Hg.out (nes (by omega)))
 have H95:=Aside0.mk (blk_grown H9.out Hg.out (nes (by omega)))
 have HE5:=HEnd
 have HB5:=Aside0.mk (below_gb HB.out Hg.out (by rintro k ⟨rfl⟩;omega))
 generalize endsOf (done.map (·.1))=ef at Hmem Hlen HE5 HEnd
 obtain⟨wo,rfl⟩:∃wo:World,wo=wr:=⟨_,rfl⟩
 go_frame
 go_loopg [] mu.length (fun n w'=>∃(left done:List ((Int × Int) × Int)) (mx:List ((Int × Int) × Int)),Aside0 (n=left.length)∧Aside0 (mu.Perm (done ++ left))∧Aside0 (IterIs ePair eOne w' wo.heap.size bu mu left)∧
  Aside0 (MapIs ePair eOne w' (w.heap.size+1+1+1+1) mx)∧Aside0 (∀p,p∈mx.map (·.1)↔p∈nBack l1_4 l1_5 k yn (done.map (·.1)) rowN)∧Aside0 (wo.grownBy w' (some (w.heap.size+1+1+1+1))))
 case atStart=>exact⟨mu,[],[],⟨rfl⟩,⟨List.Perm.refl _⟩,⟨hit5⟩,HX5,⟨by simp [nBack]⟩,⟨gb_none hg5 _⟩⟩
 case' round=>skip
 clear hit5 hg5 HEnd
 clear HI
 obtain⟨left,done,mx,Hn2,Hp2,HI,HMx,Hmx,Hg2⟩:=hrel
 have hzq:=hz.out
 have hs1:=Hg.out.size
 have hs2:=Hg2.out.size
 have H4r:=Aside0.mk (blk_grown H45.out Hg2.out (nes (by omega)))
 have H8r:=Aside0.mk (blk_grown H85.out Hg2.out (nes (by omega)))
 have H9r:=Aside0.mk (blk_grown H95.out Hg2.out (nes (by omega)))
 have HBr:=Aside0.mk (below_gb HB5.out Hg2.out (by rintro k ⟨rfl⟩;omega))
 have k44:wr.cell? ⟨w.heap.size,4,none⟩=some (.slice A1_4 l1_4.length c1_4):=(blk_cell H4r.out 4).trans rfl
 have k90:wr.cell? ⟨(w.heap.size+1+1+1+1+1),0,none⟩=some (.map (some (w.heap.size+1+1+1+1))):=(blk_cell H9r.out 0).trans rfl
 have k91:wr.cell? ⟨(w.heap.size+1+1+1+1+1),1,none⟩=some (.int .i64 yu):=(blk_cell H9r.out 1).trans rfl
 have k80:wr.cell? ⟨w.heap.size+1+1+1,0,none⟩=some (.map none):=(blk_cell H8r.out 0).trans rfl
 have k81:wr.cell? ⟨w.heap.size+1+1+1,1,none⟩=some (.int .i64 0):=(blk_cell H8r.out 1).trans rfl
 have f80:=blk_frozen H8r.out 0
 have f81:=blk_frozen H8r.out 1
 have hz8:=blk_lt H4r.out
 have hsx:=size_aside hzq hs1 hs2
 clear hzq hs1 hs2
 go_wp2_with (at_next;go_loud (refine wp_next rfl _ rfl _ rfl HI.out ?dn2 ?mr2);(case' dn2=>intro hl0;have HL1:=Aside0.mk hl0;clear hl0);(case' mr2=>rintro⟨⟨pa,pb⟩,pv⟩ left2 w2 hp2 hi2 hg2 hen;simp only [ePair,eOne] at hen;have hsz_:=hsx.out;replace k44:=gb_cell hg2 k44 (nes (by show w.heap.size≠_;omega));replace hz8:w.heap.size < w2.heap.size:=Nat.lt_of_lt_of_le hz8 hg2.size;clear hsz_))
 ·have hsz_ := hsx.out
  have HI2:=Aside0.mk hi2
  have Hp3:=Aside0.mk hp2
  have Hg3:=Aside0.mk hg2
  have HM2:=Aside0.mk (HMx.out.grown hg2 (nes (by omega)))
  have H42:=Aside0.mk (blk_grown H4r.out hg2 (nes (by omega)))
  have H62:=Aside0.mk (blk_grown (blk_grown H65.out Hg2.out (nes (by omega))) hg2 (nes (by omega)))
  have H92:=Aside0.mk (blk_grown H9r.out hg2 (nes (by omega)))
  have HE2:=Aside0.mk ((HE5.out.grown Hg2.out (nes (by omega)) (fun k hk=>.inl (by injection hk;omega))).grown hg2 (nes (by omega)) (fun k hk=>.inr (by cases hk;exact HI.out.nc)))
  have HB2:=Aside0.mk (below_gb HBr.out hg2 (by rintro k ⟨rfl⟩;omega))
  have hs2:=Aside0.mk hg2.size
  clear hi2 hp2 hg2 hen k44 k90 k91 k80 k81 f80 f81 hsz_
  have HP2:=Aside0.mk (blk_newAt (w:=w2) (n:=w2.heap.size) (.cells #[.int .i64 pa,.int .i64 pb] 78) rfl)
  obtain⟨wq,rfl⟩:∃wq:World,wq=wr:=⟨_,rfl⟩
  go_loopg [50] l1_4.length (fun n v50 w'=>∃(j:Int) (m2:List ((Int × Int) × Int)),v50=.int .i64 j∧Aside0 (0≤j∧j≤l1_4.length)∧Aside0 (n=l1_4.length - j.toNat)∧
   Aside0 (MapIs ePair eOne w' (w.heap.size+1+1+1+1) m2)∧Aside0 (∀p,p∈m2.map (·.1)↔p∈nBack l1_4 l1_5 k yn (done.map (·.1)) rowN∨p∈nB2 (l1_4.take j.toNat) l1_5 k yn (pa,pb) rowN)∧
   Aside0 (w2.grownBy w' (some (w.heap.size+1+1+1+1)))∧Aside0 (w'.heap[w2.heap.size]? = some (.cells #[.int .i64 pa,.int .i64 pb] 78 (0,0))))
  case atStart=>exact⟨0,mx,rfl,⟨by omega⟩,⟨by omega⟩,⟨HM2.out.alloc _⟩,⟨fun p=>by rw [Hmx.out p];simp [nB2]⟩,⟨gb_alloc (gb_refl _ _) _⟩,HP2⟩
  case' round=>skip
  clear HP2
  obtain⟨j,m2,rfl,Hj,Hnj,HM3,Hm3,Hg4,HP3⟩:=hrel
  have hsz_:=hsx.out
  have hs2_:=hs2.out
  have hs3_:=Hg4.out.size
  have hz9b:w2.heap.size < wr.heap.size:=blk_lt HP3.out
  have hz9c:(w.heap.size+1+1+1+1+1) < wr.heap.size:=by omega
  by_cases hlt:j < (l1_4.length:Int)
  ·have d1 : decide (j < (l1_4.length : Int)) = true := decide_eq_true hlt
   have HB3:Aside0 (Below w.heap.size w wr):=⟨below_gb HB2.out Hg4.out (by rintro k ⟨rfl⟩;omega)⟩
   obtain⟨ad3,e3,hr0,hr1,hr2,hr3⟩:=at_T52 HR4.out j Hj.out.1 hlt
   replace hr0:=(HB3.out.cell (World.block_lt_of_cell? w _ hr0)).trans hr0
   replace hr1:=(HB3.out.cell (World.block_lt_of_cell? w _ hr1)).trans hr1
   replace hr2:=(HB3.out.cell (World.block_lt_of_cell? w _ hr2)).trans hr2
   replace hr3:=(HB3.out.cell (World.block_lt_of_cell? w _ hr3)).trans hr3
   cases e3
   have p1:=eq_true Hj.out.1
   have q1:=eq_true hlt
   have w1_:wrap64 (j+1)=j+1:=by have:=Hj.out;have:=HS.out;unfold wrap64;omega
   have k140:wr.cell? ⟨w2.heap.size,0,none⟩=some (.int .i64 pa):=(blk_cell HP3.out 0).trans rfl
   have k141:wr.cell? ⟨w2.heap.size,1,none⟩=some (.int .i64 pb):=(blk_cell HP3.out 1).trans rfl
   have H43:=Aside0.mk (blk_grown H42.out Hg4.out (nes (by omega)))
   have H63:=Aside0.mk (blk_grown H62.out Hg4.out (nes (by omega)))
   have k45:wr.cell? ⟨w.heap.size,5,none⟩=some (.slice A1_5 l1_5.length c1_5):=(blk_cell H43.out 5).trans rfl
   have k61:wr.cell? ⟨w.heap.size+1+1,1,none⟩=some (.int .i64 yn):=(blk_cell H63.out 1).trans rfl
   have hz11:=blk_lt H43.out
   have hz12:=blk_lt H63.out
   clear hlt hsz_ hs2_ hs3_
   obtain⟨oo,hoo⟩:∃oo,oo=rd_T52 l1_4 j:=⟨_,rfl⟩
   have Hoo:=Aside0.mk hoo
   rw [←hoo] at hr0 hr1 hr2 hr3
   clear hoo
   by_cases g1:oo.f0=pb
   ·have d2 : (oo.f0 != pb) = false := bne_eq_false_iff_eq.mpr g1
    by_cases g2:oo.f1=yn
    ·have d3 : (oo.f1 != yn) = false := bne_eq_false_iff_eq.mpr g2
     have Hgg:=Aside0.mk (And.intro g1 g2)
     clear g1 g2
     obtain⟨w4,hw4⟩:∃w4:World,w4=wr.alloc (.cells #[.int .i64 oo.f0,.int .i64 oo.f1,.int .i64 oo.f2,.int .i64 oo.f3] 52):=⟨_,rfl⟩
     have HG4:=Aside0.mk (hw4 ▸ gb_alloc Hg4.out _:w2.grownBy w4 (some (w.heap.size+1+1+1+1)))
     have HO4:=Aside0.mk (hw4 ▸ blk_newAt _ rfl:w4.heap[wr.heap.size]? = some (.cells #[.int .i64 oo.f0,.int .i64 oo.f1,.int .i64 oo.f2,.int .i64 oo.f3] 52 (0,0)))
     have HM4:=Aside0.mk (hw4 ▸ HM3.out.alloc _:MapIs ePair eOne w4 (w.heap.size+1+1+1+1) m2)
     have HP4:=Aside0.mk (hw4 ▸ blk_old HP3.out _:w4.heap[w2.heap.size]? = some (.cells #[.int .i64 pa,.int .i64 pb] 78 (0,0)))
     have H94:=Aside0.mk (blk_grown H92.out HG4.out (nes (by omega)))
     have HE4:=Aside0.mk (HE2.out.grown HG4.out (nes (by omega)) (fun k hk=>.inl (by injection hk;omega)))
     have HB4:=Aside0.mk (hw4 ▸ below_alloc HB3.out _:Below w.heap.size w w4)
     have hz13:=Aside0.mk (And.intro hz9b hz9c)
     have HW4:=Aside0.mk hw4
     clear hw4
     go_wp2
     rw [←HW4.out]
     clear k140 k141 hz9b hz9c hz12 hr0 hr1 hr2 hr3 k45 k61 hz11
     obtain⟨wt,rfl⟩:∃wt:World,wt=wr:=⟨_,rfl⟩
     go_loopg [69] l1_5.length (fun n v69 w'=>∃(i:Int) (m4:List ((Int × Int) × Int)),v69=.int .i64 i∧Aside0 (0≤i∧i≤l1_5.length)∧Aside0 (n=l1_5.length - i.toNat)∧
      Aside0 (MapIs ePair eOne w' (w.heap.size+1+1+1+1) m4)∧Aside0 (∀p,p∈m4.map (·.1)↔(p∈nBack l1_4 l1_5 k yn (done.map (·.1)) rowN∨p∈nB2 (l1_4.take j.toNat) l1_5 k yn (pa,pb) rowN)∨p∈nB1 (l1_5.take i.toNat) oo k pa rowN)∧
      Aside0 (w4.grownBy w' (some (w.heap.size+1+1+1+1))))
     case atStart=>exact⟨0,m2,rfl,⟨by omega⟩,⟨by omega⟩,HM4,⟨fun p=>by rw [Hm3.out p];simp [nB1]⟩,⟨gb_refl _ _⟩⟩
     case' round=>skip
     obtain⟨i,m4,rfl,Hi,Hni,HM5,Hm5,Hg5⟩:=hrel
     have hzz_:=hz13.out
     have hzs_:=blk_lt HO4.out
     have hzt_:=Hg5.out.size
     by_cases hlt:i < (l1_5.length:Int)
     ·have d7 : decide (i < (l1_5.length : Int)) = true := decide_eq_true hlt
      have HB6:Aside0 (Below w.heap.size w wr):=⟨below_gb HB4.out Hg5.out (by rintro k ⟨rfl⟩;omega)⟩
      obtain⟨ad4,e4,hc0,hc1,hc2,hc3⟩:=at_T54 HR5.out i Hi.out.1 hlt
      replace hc0:=(HB6.out.cell (World.block_lt_of_cell? w _ hc0)).trans hc0
      replace hc1:=(HB6.out.cell (World.block_lt_of_cell? w _ hc1)).trans hc1
      replace hc2:=(HB6.out.cell (World.block_lt_of_cell? w _ hc2)).trans hc2
      replace hc3:=(HB6.out.cell (World.block_lt_of_cell? w _ hc3)).trans hc3
      cases e4
      have p7:=eq_true Hi.out.1
      have q7:=eq_true hlt
      have w7_:wrap64 (i+1)=i+1:=by have:=Hi.out;have:=HS.out;unfold wrap64;omega
      have HO5:=Aside0.mk (blk_grown HO4.out Hg5.out (nes (by omega)))
      have HP5:=Aside0.mk (blk_grown HP4.out Hg5.out (nes (by have:=hsx.out;have:=hs2.out;omega)))
      have H95:=Aside0.mk (blk_grown H94.out Hg5.out (nes (by omega)))
      have o2:wr.cell? ⟨wt.heap.size,2,none⟩=some (.int .i64 oo.f2):=(blk_cell HO5.out 2).trans rfl
      have o3:wr.cell? ⟨wt.heap.size,3,none⟩=some (.int .i64 oo.f3):=(blk_cell HO5.out 3).trans rfl
      have x0:wr.cell? ⟨w2.heap.size,0,none⟩=some (.int .i64 pa):=(blk_cell HP5.out 0).trans rfl
      have y0:wr.cell? ⟨(w.heap.size+1+1+1+1+1),0,none⟩=some (.map (some (w.heap.size+1+1+1+1))):=(blk_cell H95.out 0).trans rfl
      have z1:=blk_lt HO5.out
      have z2:=blk_lt HP5.out
      have z3:=blk_lt H95.out
      have HE6:=HE4.out.grown Hg5.out (nes (by omega)) (fun k hk=>.inl (by injection hk;omega))
      obtain⟨me,hme,hma,hmn,_⟩:=HE6
      obtain⟨A9,c9,hvv,hc9,hC9⟩:∃A c,((asc me oo.f2).map (fun v=>v)).getD (.slice none 0 0)=.slice A (ef oo.f2).length c∧(ef oo.f2).length≤c∧Kd.C (Kd.int .i64) wr A (ef oo.f2).length (ef oo.f2):=by
       cases ha:asc me oo.f2 with
       | none=>rw [hmn _ ha];exact⟨none,0,rfl,Nat.le_refl _,by obtain⟨A,c,e,_,h⟩:=Kd.R_reads (Kd.R_nil (Kd.int .i64) 3 wr 0 (fun _=>True));injection e with e;subst e;exact h⟩
       | some v=>obtain⟨A,c,e,hl,h⟩:=Kd.R_reads (hma _ _ ha);exact⟨A,c,e,hl,h⟩
      have Hme:=Aside0.mk hme
      have Hvv:=Aside0.mk hvv
      have Hc9:=Aside0.mk hc9
      have HC9:=Aside0.mk hC9
      have Hzz:=Aside0.mk (And.intro hzz_ (And.intro hzs_ hzt_))
      clear hme hma hmn hvv hc9 hC9 hlt hzz_ hzs_ hzt_
      obtain⟨cc,hcc⟩:∃cc,cc=rd_T54 l1_5 i:=⟨_,rfl⟩
      have Hcc:=Aside0.mk hcc
      rw [←hcc] at hc0 hc1 hc2 hc3
      clear hcc
      by_cases g1:cc.f1=k
      ·have d8 : (cc.f1 == k) = true := beq_iff_eq.mpr g1
       by_cases g2:cc.f2=oo.f3
       ·have d9 : (cc.f2 == oo.f3) = true := beq_iff_eq.mpr g2
        by_cases g3:(oo.f2,cc.f0)∈rowN
        ·have d10 : decide (cc.f0 ∈ ef oo.f2) = true := decide_eq_true ((Hmem.out _ _).2 g3)
         have Hqq:=Aside0.mk (And.intro g1 (And.intro g2 g3))
         clear g1 g2 g3
         go_wp2_with (first|(at_lookup;(try (refine gate_guard (by rfl) ?_;dsimp only));go_loud (refine wp_lookup rfl _ _ _ rfl _ _ Try.underlying97 keyInt (w.heap.size+1+1+1+1+1+1) rfl (Hme.out.alloc _) oo.f2 rfl (.slice none 0 0) (by go_simp) ?_);rw [Hvv.out])|(go_at_call 41;go_loud (refine(contains_calls A9 c9 (ef oo.f2) cc.f0 _ (Kd.C_below HC9.out (below_alloc (Below.refl _ _) _)) Hc9.out (Hlen.out _)).mono ?_);rintro e w9 ⟨rfl,⟨nd,rfl⟩⟩)|(at_mapUpdate;go_loud (refine wp_update rfl _ _ _ _ rfl _ _ Try.underlying74 keyPair (w.heap.size+1+1+1+1) rfl ((HM5.out.alloc _).move rfl) (pa,cc.f3) rfl (1:Int) rfl ?_);intro w11 hm11 hg11))
         go_roundg (l1_5.length - (i+1).toNat)
         case measure=>have:=Hi.out;have:=Hni.out;have:i < (l1_5.length:Int):=of_decide_eq_true d7;omega
         case' rel=>skip
         have hi:=Hi.out
         have hl:i < (l1_5.length:Int):=of_decide_eq_true d7
         refine⟨i+1,_,by rw [w7_],⟨by omega⟩,⟨rfl⟩,⟨hm11⟩,⟨fun p=>?_⟩,⟨gb_trans (gb_drewN (gb_alloc Hg5.out _) _) hg11⟩⟩
         rw [putM_keys,Hm5.out p,nB1_next l1_5 oo k pa rowN i hi.1 hl,←Hcc.out,if_pos Hqq.out]
         simp only [List.mem_append,List.mem_singleton]
         constructor
         ·rintro (h | h | h)
          ·exact .inr (.inr h)
          ·exact .inl h
          exact .inr (.inl h)
         rintro (h | h | h)
         ·exact .inr (.inl h)
         ·exact .inr (.inr h)
         exact .inl h
        have d10 : decide (cc.f0 ∈ ef oo.f2) = false := decide_eq_false (fun h => g3 ((Hmem.out _ _).1 h))
        have Hqq:Aside0 (¬(cc.f1=k∧cc.f2=oo.f3∧(oo.f2,cc.f0)∈rowN)):=⟨fun e=>g3 e.2.2⟩
        clear g1 g2 g3
        go_wp2_with (first|(at_lookup;(try (refine gate_guard (by rfl) ?_;dsimp only));go_loud (refine wp_lookup rfl _ _ _ rfl _ _ Try.underlying97 keyInt (w.heap.size+1+1+1+1+1+1) rfl (Hme.out.alloc _) oo.f2 rfl (.slice none 0 0) (by go_simp) ?_);rw [Hvv.out])|(go_at_call 41;go_loud (refine(contains_calls A9 c9 (ef oo.f2) cc.f0 _ (Kd.C_below HC9.out (below_alloc (Below.refl _ _) _)) Hc9.out (Hlen.out _)).mono ?_);rintro e w9 ⟨rfl,⟨nd,rfl⟩⟩)|(at_mapUpdate;go_loud (refine wp_update rfl _ _ _ _ rfl _ _ Try.underlying74 keyPair (w.heap.size+1+1+1+1) rfl ((HM5.out.alloc _).move rfl) (pa,cc.f3) rfl (1:Int) rfl ?_);intro w11 hm11 hg11))
        go_roundg (l1_5.length - (i+1).toNat)
        case measure=>have:=Hi.out;have:=Hni.out;have:i < (l1_5.length:Int):=of_decide_eq_true d7;omega
        case' rel=>skip
        have hi:=Hi.out
        have hl:i < (l1_5.length:Int):=of_decide_eq_true d7
        refine⟨i+1,m4,by first|rfl|rw [w7_],⟨by omega⟩,⟨rfl⟩,⟨(HM5.out.alloc _).move rfl⟩,⟨fun p=>?_⟩,⟨by first|exact gb_alloc Hg5.out _|exact gb_drewN (gb_alloc Hg5.out _) _⟩⟩
        rw [Hm5.out p,nB1_next l1_5 oo k pa rowN i hi.1 hl,←Hcc.out,if_neg Hqq.out]
        simp
       have d9 : (cc.f2 == oo.f3) = false := beq_eq_false_iff_ne.mpr g2
       have Hqq:Aside0 (¬(cc.f1=k∧cc.f2=oo.f3∧(oo.f2,cc.f0)∈rowN)):=⟨fun e=>g2 e.2.1⟩
       clear g1 g2
       go_wp2
       go_roundg (l1_5.length - (i+1).toNat)
       case measure=>have:=Hi.out;have:=Hni.out;have:i < (l1_5.length:Int):=of_decide_eq_true d7;omega
       case' rel=>skip
       have hi:=Hi.out
       have hl:i < (l1_5.length:Int):=of_decide_eq_true d7
       refine⟨i+1,m4,by first|rfl|rw [w7_],⟨by omega⟩,⟨rfl⟩,⟨(HM5.out.alloc _).move rfl⟩,⟨fun p=>?_⟩,⟨by first|exact gb_alloc Hg5.out _|exact gb_drewN (gb_alloc Hg5.out _) _⟩⟩
       rw [Hm5.out p,nB1_next l1_5 oo k pa rowN i hi.1 hl,←Hcc.out,if_neg Hqq.out]
       simp
      have d8 : (cc.f1 == k) = false := beq_eq_false_iff_ne.mpr g1
      have Hqq:Aside0 (¬(cc.f1=k∧cc.f2=oo.f3∧(oo.f2,cc.f0)∈rowN)):=⟨fun e=>g1 e.1⟩
      clear g1
      go_wp2
      go_roundg (l1_5.length - (i+1).toNat)
      case measure=>have:=Hi.out;have:=Hni.out;have:i < (l1_5.length:Int):=of_decide_eq_true d7;omega
      case' rel=>skip
      have hi:=Hi.out
      have hl:i < (l1_5.length:Int):=of_decide_eq_true d7
      refine⟨i+1,m4,by first|rfl|rw [w7_],⟨by omega⟩,⟨rfl⟩,⟨(HM5.out.alloc _).move rfl⟩,⟨fun p=>?_⟩,⟨by first|exact gb_alloc Hg5.out _|exact gb_drewN (gb_alloc Hg5.out _) _⟩⟩
      rw [Hm5.out p,nB1_next l1_5 oo k pa rowN i hi.1 hl,←Hcc.out,if_neg Hqq.out]
      simp
     have d7 : decide (i < (l1_5.length : Int)) = false := decide_eq_false hlt
     have hi:i.toNat=l1_5.length:=by have:=Hi.out;omega
     have HI9:=Aside0.mk hi
     have Hzz:=Aside0.mk (And.intro hzz_ (And.intro hzs_ hzt_))
     clear hlt hi hzz_ hzs_ hzt_
     go_wp2
     go_roundg (l1_4.length - (j+1).toNat)
     case measure=>have:=Hj.out;have:=Hnj.out;have:j < (l1_4.length:Int):=of_decide_eq_true d1;omega
     case' rel=>skip
     have hj:=Hj.out
     have hl:j < (l1_4.length:Int):=of_decide_eq_true d1
     have hzz:=Hzz.out
     refine⟨j+1,m4,rfl,⟨by omega⟩,⟨rfl⟩,HM5,⟨fun p=>?_⟩,⟨gb_trans HG4.out Hg5.out⟩,⟨blk_grown HP4.out Hg5.out (nes (by have:=hsx.out;have:=hs2.out;omega))⟩⟩
     rw [Hm5.out p,HI9.out,List.take_length,nB2_next l1_4 l1_5 k yn (pa,pb) rowN j hj.1 hl,←Hoo.out,if_pos Hgg.out]
     simp only [List.mem_append]
     rw [or_assoc]
    have d3 : (oo.f1 != yn) = true := bne_iff_ne.mpr g2
    have Hgg:Aside0 (¬(oo.f0=pb∧oo.f1=yn)):=⟨fun e=>g2 e.2⟩
    clear g1 g2
    go_wp2
    go_roundg (l1_4.length - (j+1).toNat)
    case measure=>have:=Hj.out;have:=Hnj.out;have:j < (l1_4.length:Int):=of_decide_eq_true d1;omega
    case' rel=>skip
    have hj:=Hj.out
    have hl:j < (l1_4.length:Int):=of_decide_eq_true d1
    refine⟨j+1,m2,rfl,⟨by omega⟩,⟨rfl⟩,⟨HM3.out.alloc _⟩,⟨fun p=>?_⟩,⟨gb_alloc Hg4.out _⟩,⟨blk_old HP3.out _⟩⟩
    rw [Hm3.out p,nB2_next l1_4 l1_5 k yn (pa,pb) rowN j hj.1 hl,←Hoo.out,if_neg Hgg.out]
    simp
   have d2 : (oo.f0 != pb) = true := bne_iff_ne.mpr g1
   have Hgg:Aside0 (¬(oo.f0=pb∧oo.f1=yn)):=⟨fun e=>g1 e.1⟩
   clear g1
   go_wp2
   go_roundg (l1_4.length - (j+1).toNat)
   case measure=>have:=Hj.out;have:=Hnj.out;have:j < (l1_4.length:Int):=of_decide_eq_true d1;omega
   case' rel=>skip
   have hj:=Hj.out
   have hl:j < (l1_4.length:Int):=of_decide_eq_true d1
   refine⟨j+1,m2,rfl,⟨by omega⟩,⟨rfl⟩,⟨HM3.out.alloc _⟩,⟨fun p=>?_⟩,⟨gb_alloc Hg4.out _⟩,⟨blk_old HP3.out _⟩⟩
   rw [Hm3.out p,nB2_next l1_4 l1_5 k yn (pa,pb) rowN j hj.1 hl,←Hoo.out,if_neg Hgg.out]
   simp
  have d1 : decide (j < (l1_4.length : Int)) = false := decide_eq_false hlt
  have hj:j.toNat=l1_4.length:=by have:=Hj.out;omega
  have HJ:=Aside0.mk hj
  clear hlt hj
  have hbu:=HMu.out.lt
  have hbz:=Aside0.mk (And.intro hbu (And.intro hsz_ (And.intro hs2_ hs3_)))
  clear hbu hsz_ hs2_ hs3_
  go_wp2
  go_roundg left2.length
  case measure=>have:=Hn2.out;have:=Hp3.out.length_eq;simp at this;omega
  case' rel=>skip
  obtain⟨b1,b2,b3,b4⟩:=hbz.out
  refine⟨left2,done ++ [((pa,pb),pv)],m2,⟨rfl⟩,⟨?_⟩,⟨HI2.out.grown Hg4.out (nes (by omega)) (nes (by omega))⟩,HM3,⟨fun p=>?_⟩,⟨gb_trans (gb_new Hg2.out Hg3.out (Nat.le_refl _)) Hg4.out⟩⟩
  ·rw [List.append_assoc]
   exact Hp2.out.trans (Hp3.out.append_left done)
  rw [Hm3.out p, HJ.out, List.take_length, List.map_append, List.map_cons, List.map_nil, nBack_snoc]
  simp
 have hsz_ := hsx.out
 have hH8:((wr.setCell ⟨w.heap.size+1+1+1,0,none⟩ (.map (some (w.heap.size+1+1+1+1)))).setCell ⟨w.heap.size+1+1+1,1,none⟩ (.int .i64 yu)).heap[w.heap.size+1+1+1]? = some (.cells #[.map (some (w.heap.size+1+1+1+1)),.int .i64 yu] 76 (0,0)):=blk_put (blk_put H8r.out 0 _ rfl) 1 _ rfl
 refine bodyPost_ret (v:=.agg #[.map (some (w.heap.size+1+1+1+1)),.int .i64 yu]) (results_cell_row Try.results40 _ _ _ _ _ _ _ rfl hH8 Try.underlying76 rfl (by kernel_rfl)) rfl ?_
 have hrow:RowIs wr (w.heap.size+1+1+1+1) (nBack l1_4 l1_5 k yn rowU rowN):=⟨mx,HMx.out,fun p=>by
  rw [Hmx.out p,nBack_eq,nBack_eq]
  simp only [List.mem_flatMap]
  have hh:∀q,q∈done.map (·.1)↔q∈rowU:=fun q=>by
   have:=(Hp2.out.map (·.1)).mem_iff (a:=q)
   rw [HL1.out,List.append_nil,Hmu.out q] at this
   exact this.symm
  constructor
  ·rintro⟨q,hq,hq2⟩;exact⟨q,(hh q).1 hq,hq2⟩
  rintro⟨q,hq,hq2⟩;exact⟨q,(hh q).2 hq,hq2⟩⟩
 exact⟨(w.heap.size+1+1+1+1),rfl,by omega,(hrow.move (Below.heap_setCell wr ⟨w.heap.size+1+1+1,0,none⟩ (.map (some (w.heap.size+1+1+1+1))) _ (by show (w.heap.size+1+1+1+1)≠w.heap.size+1+1+1;omega))).move (Below.heap_setCell _ ⟨w.heap.size+1+1+1,1,none⟩ (.int .i64 yu) _ (by show (w.heap.size+1+1+1+1)≠w.heap.size+1+1+1;omega)),below_set (below_set HBr.out (by omega)) (by omega)⟩
end Go.Proofs.Ytjkhdldgmkkhjaa.P
