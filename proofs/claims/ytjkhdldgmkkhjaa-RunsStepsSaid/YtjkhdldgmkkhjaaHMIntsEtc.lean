/- Words and walks of this claim: MInts, MStep, UTy, UGoT, STakesDef, SOrder, MRaw, UConf, URGo, URows, UOutR, SAt, SCompact, SOnce, SStart. -/
import Derived.Test.YtjkhdldgmkkhjaaHMAll
import Derived.Test.YtjkhdldgmkkhjaaHP0Etc
import Derived.BigQuiet
import Derived.Test.YtjkhdldgmkkhjaaHWEqStructEtc
import Derived.Test.YtjkhdldgmkkhjaaHMFar
import Derived.Test.YtjkhdldgmkkhjaaHUSymsEtc
import Derived.Test.YtjkhdldgmkkhjaaHLSort
import Derived.Shelf.SlSortCmp.NoneTotal
set_option linter.unusedVariables false
set_option linter.unusedSimpArgs false
set_option linter.unnecessarySimpa false
section
namespace Go.Proofs.Ytjkhdldgmkkhjaa.P
open Go.RowKit Go.Proofs.YtjkhdldgmkkhjaaW.PrintWords Go.Proofs.YtjkhdldgmkkhjaaW.PrintLast Go.Proofs.YtjkhdldgmkkhjaaW.PrintMore Go.Proofs.Ytjkhdldgmkkhjaa.M
theorem once_snoc {α:Type} (cmp:α→α→Int) (l:List α) (x:α):onceC cmp (l ++ [x])=insC cmp (onceC cmp l) x:=by simp [onceC]
theorem ins_at {out:List Int} {x:Int} {k:Nat} (hs:out.Pairwise (fun a b=>cmpInt a b < 0)) (hk:k≤out.length) (h1:∀j (h:j < out.length),k≤j→x < out[j]) (h2:∀h:0 < k,out[k - 1]'(by omega) < x):out.take k ++ [x] ++ out.drop k=insC cmpInt out x:=by
 refine totalInt.unique ?_ (totalInt.ins_sorted hs) (fun y=>?_)
 ·rw [List.append_assoc, List.pairwise_append]
  refine⟨hs.sublist (List.take_sublist _ _),?_,?_⟩
  ·rw [List.singleton_append, List.pairwise_cons]
   refine⟨fun y hy=>?_,hs.sublist (List.drop_sublist _ _)⟩
   obtain⟨j,hj,rfl⟩:=List.mem_iff_getElem.1 hy
   rw [List.getElem_drop]
   exact cmpInt_lt.2 (h1 (k+j) (by rw [List.length_drop] at hj;omega) (by omega))
  intro a ha b hb
  obtain⟨j,hj,rfl⟩:=List.mem_iff_getElem.1 ha
  rw [List.length_take] at hj
  rw [List.getElem_take]
  have hx:out[j]'(by omega) < x:=by
   have h3:=h2 (by omega)
   by_cases e:j=k - 1
   ·subst e;exact h3
   have := List.pairwise_iff_getElem.1 hs j (k - 1) (by omega) (by omega) (by omega)
   have:=cmpInt_lt.1 this
   omega
  rcases List.mem_append.1 hb with h|h
  ·rw [List.mem_singleton.1 h];exact cmpInt_lt.2 hx
  obtain ⟨q, hq, rfl⟩ := List.mem_iff_getElem.1 h
  rw [List.getElem_drop]
  have:=h1 (k+q) (by rw [List.length_drop] at hq;omega) (by omega)
  exact cmpInt_lt.2 (by omega)
 rw [totalInt.mem_ins]
 have e:y∈out↔y∈out.take k∨y∈out.drop k:=by rw [←List.mem_append,List.take_append_drop]
 rw [e]
 simp only [List.mem_append,List.mem_singleton]
 constructor
 ·rintro ((h | h) | h)
  ·exact .inr (.inl h)
  ·exact .inl h
  exact .inr (.inr h)
 rintro (h | h | h)
 ·exact .inl (.inr h)
 ·exact .inl (.inl h)
 exact .inr h
theorem ins_there {out:List Int} {x:Int} (hs:out.Pairwise (fun a b=>cmpInt a b < 0)) (h:x∈out):insC cmpInt out x=out:=by
 refine totalInt.unique (totalInt.ins_sorted hs) hs (fun y=>?_)
 rw [totalInt.mem_ins]
 constructor
 ·rintro (e | e)
  ·rw [e];exact h
  exact e
 exact fun e=>.inr e
theorem int_at {w:World} {A:Option Addr} {n:Nat} {xs:List Int} (h:Kd.C (Kd.int .i64) w A n xs) (i:Nat) (hi:i < xs.length):∃ad,A=some ad∧w.cell? (ad.add i)=some (.int .i64 xs[i]):=by
 have hn:n=xs.length:=by have:=h.1;omega
 obtain⟨ad,e,hc⟩:=Kd.at_int h (i:Int) (by omega) (by omega)
 rw [Int.toNat_natCast] at hc
 refine⟨ad,e,hc.trans ?_⟩
 congr 2
 unfold rd
 rw [Int.toNat_natCast,List.getD_eq_getElem?_getD,List.getElem?_eq_getElem hi]
 rfl
theorem reads_one {w:World} {g:Nat} {a:Int} (h:w.heap[g]? = some (.cells #[.int .i64 a] 3 (0,0))):Kd.C (Kd.int .i64) w (some ⟨g,0,none⟩) 1 [a]:=by
 refine⟨rfl,by omega,fun _=>⟨⟨g,0,none⟩,rfl,?_⟩⟩
 intro j p hp
 match j with
 | 0=>
  simp at hp
  subst hp
  refine⟨[.int .i64 a],rfl,rfl,fun i u hu=>?_⟩
  match i with
  | 0=>simp at hu;subst hu;simpa [Addr.add] using (show w.cell? ⟨g,0,none⟩=_ from blk_cell h 0)
  | i+1=>simp at hu
 | j+1=>simp at hp
theorem infoInt:(Try.prog.info? 3).map (fun i=>(i.zero,i.size,i.bytes))=some (some (.int .i64 0),1,8):=by kernel_rfl
end Go.Proofs.Ytjkhdldgmkkhjaa.P
end
section
namespace Go.Proofs.Ytjkhdldgmkkhjaa.M
open Go.RowKit Go.Proofs.YtjkhdldgmkkhjaaW.PrintLast
def pm (a b:Nat):Array Bool:=(List.replicate a true ++ List.replicate b false).toArray
section
variable {P : Program} {ops : Array Oper} {Q : Exit → Act → World → Prop} {md : Region.Mode} {S : World → Prop} {ds : List Nat}
variable {k m : Nat} {N : Option Tmp} {oi : Oper} {v : Value} {fuel : Nat} {a : Act} {w : World} {l l' : Array Bool}
theorem pn_ (hi:ops[k]? = some oi) (hN:oi.dst=N) (hc:anyB md ops (pm k (m+1)) (pm (k+1) m) k=true) (hQ:∀c a w,Q (.panic c) (a.put oi.dst v) w→Q (.panic c) a w) (hy:Yields P ops oi v a) {a' : Act} (ha:a.put N v=a')
 (h:wpAnyLast P md ops Q S ds fuel (pm (k+1) m) a' w):wpAnyLast P md ops Q S ds (fuel+1) (pm k (m+1)) a w:=pure_ (pm (k+1) m) hi hN hc hQ hy ha h
theorem tn_ (hi:ops[k]? = some oi) (hN:oi.dst=N) (hc:takeB md ops ds (pm k (m+1)) (pm (k+1) m) k=true) (hQ:∀c a w,Q (.panic c) (a.put oi.dst v) w→Q (.panic c) a w) (hy:YieldsIf P ops S oi v a) (hS:S w) {a' : Act} (ha:a.put N v=a')
 (h:wpAnyLast P md ops Q S ds fuel (pm (k+1) m) a' w):wpAnyLast P md ops Q S ds (fuel+1) (pm k (m+1)) a w:=take_ (pm (k+1) m) hi hN hc hQ hy hS ha h
theorem po_ (i:Nat) (hi:ops[i]? = some oi) (hN:oi.dst=N) (hc:anyB md ops l (l.setIfInBounds i true) i=true) (hQ:∀c a w,Q (.panic c) (a.put oi.dst v) w→Q (.panic c) a w) (hy:Yields P ops oi v a) {a' : Act} (ha:a.put N v=a')
 (h:wpAnyLast P md ops Q S ds fuel (l.setIfInBounds i true) a' w):wpAnyLast P md ops Q S ds (fuel+1) l a w:=pure_ _ hi hN hc hQ hy ha h
theorem to_ (i:Nat) (hi:ops[i]? = some oi) (hN:oi.dst=N) (hc:takeB md ops ds l (l.setIfInBounds i true) i=true) (hQ:∀c a w,Q (.panic c) (a.put oi.dst v) w→Q (.panic c) a w) (hy:YieldsIf P ops S oi v a) (hS:S w) {a' : Act} (ha:a.put N v=a')
 (h:wpAnyLast P md ops Q S ds fuel (l.setIfInBounds i true) a' w):wpAnyLast P md ops Q S ds (fuel+1) l a w:=take_ _ hi hN hc hQ hy hS ha h
end
end Go.Proofs.Ytjkhdldgmkkhjaa.M
end
section
namespace Go.Proofs.Ytjkhdldgmkkhjaa.P
open Go.RowKit Go.Proofs.YtjkhdldgmkkhjaaW.PrintWords Go.Proofs.YtjkhdldgmkkhjaaW.PrintLast Go.Proofs.YtjkhdldgmkkhjaaW.PrintMore Go.Proofs.Ytjkhdldgmkkhjaa.M
abbrev TOpen:=S52
abbrev TClose:=S54
abbrev TInner:=S56
end Go.Proofs.Ytjkhdldgmkkhjaa.P
end
section
namespace Go.Proofs.Ytjkhdldgmkkhjaa.P
open Go.RowKit Go.Proofs.YtjkhdldgmkkhjaaW.PrintWords Go.Proofs.YtjkhdldgmkkhjaaW.PrintLast Go.Proofs.YtjkhdldgmkkhjaaW.PrintMore Go.Proofs.Ytjkhdldgmkkhjaa.M
abbrev Row:=List (Int × Int)
abbrev TSym:=S46
def nOpen (os:List TOpen) (k:Int) (row:Row):Row:=row.flatMap fun p=>os.filterMap fun r=>if r.f0=p.2∧r.f1=k then some (r.f2,r.f2) else none
def nClose (cs:List TClose) (k:Int) (row:Row):Row:=row.flatMap fun p=>cs.filterMap fun r=>if r.f0=p.2∧r.f1=k∧r.f2=0 then some (p.1,r.f3) else none
def nInner (is:List TInner) (k:Int) (row:Row):Row:=row.flatMap fun p=>is.filterMap fun r=>if r.f0=p.2∧r.f1=k then some (p.1,r.f2) else none
def nBack (os:List TOpen) (cs:List TClose) (k by_:Int) (under row:Row):Row:=
 under.flatMap fun p=>(os.filter fun o=>decide (o.f0=p.2∧o.f1=by_)).flatMap fun o=>cs.filterMap fun c=>if c.f1=k∧c.f2=o.f3∧(o.f2,c.f0)∈row then some (p.1,c.f3) else none
def goT (l:List TSym) (os:List TOpen) (cs:List TClose) (is:List TInner):List Int→Row→Int→List (Row × Int)→Option Row
 | [],row,_,_=>some row
 | k :: w,row,by_,under=>
  if 0≤k∧k < l.length then
   if (rd_T46 l k).f1=1 then goT l os cs is w (nOpen os k row) k ((row,by_) :: under)
   else if (rd_T46 l k).f1=2 then
    match under with
    | []=>goT l os cs is w (nClose cs k row) by_ []
    | u :: under=>goT l os cs is w (nBack os cs k by_ u.1 row) u.2 under
   else goT l os cs is w (nInner is k row) by_ under
  else none
theorem goT_open {l:List TSym} {os:List TOpen} {cs:List TClose} {is:List TInner} {k:Int} {w:List Int} {row:Row} {by_:Int} {under:List (Row × Int)} (h:0≤k∧k < l.length) (hk:(rd_T46 l k).f1=1) :
 goT l os cs is (k :: w) row by_ under=goT l os cs is w (nOpen os k row) k ((row,by_) :: under):=by rw [goT.eq_def];simp only [];rw [if_pos h,if_pos hk]
theorem goT_close0 {l:List TSym} {os:List TOpen} {cs:List TClose} {is:List TInner} {k:Int} {w:List Int} {row:Row} {by_:Int} (h:0≤k∧k < l.length) (hk:(rd_T46 l k).f1=2) :
 goT l os cs is (k :: w) row by_ []=goT l os cs is w (nClose cs k row) by_ []:=by rw [goT.eq_def];simp only [];rw [if_pos h,if_neg (by omega),if_pos hk]
theorem goT_close {l:List TSym} {os:List TOpen} {cs:List TClose} {is:List TInner} {k:Int} {w:List Int} {row:Row} {by_:Int} {u:Row × Int} {under:List (Row × Int)} (h:0≤k∧k < l.length) (hk:(rd_T46 l k).f1=2) :
 goT l os cs is (k :: w) row by_ (u :: under)=goT l os cs is w (nBack os cs k by_ u.1 row) u.2 under:=by rw [goT.eq_def];simp only [];rw [if_pos h,if_neg (by omega),if_pos hk]
theorem goT_inner {l:List TSym} {os:List TOpen} {cs:List TClose} {is:List TInner} {k:Int} {w:List Int} {row:Row} {by_:Int} {under:List (Row × Int)} (h:0≤k∧k < l.length) (hk:(rd_T46 l k).f1≠1) (hk2:(rd_T46 l k).f1≠2) :
 goT l os cs is (k :: w) row by_ under=goT l os cs is w (nInner is k row) by_ under:=by rw [goT.eq_def];simp only [];rw [if_pos h,if_neg hk,if_neg hk2]
def takesB (l:List TSym) (init final:List Int) (os:List TOpen) (cs:List TClose) (is:List TInner) (w:List Int):Bool:=
 match goT l os cs is w (init.map fun s=>(s,s)) 0 [] with
 | none=>false
 | some row=>row.any fun p=>final.contains p.2
end Go.Proofs.Ytjkhdldgmkkhjaa.P
end
section
namespace Go.Proofs.Ytjkhdldgmkkhjaa.P
open Go.RowKit Go.Proofs.YtjkhdldgmkkhjaaW.PrintWords Go.Proofs.YtjkhdldgmkkhjaaW.PrintLast Go.Proofs.YtjkhdldgmkkhjaaW.PrintMore Go.Proofs.Ytjkhdldgmkkhjaa.M
def runs_Takes.f (l0:List TSym) (a1_0 a1_1:Int) (l1_2 l1_3:List Int) (l1_4:List TOpen) (l1_5:List TClose) (l1_6:List TInner) (l2:List Int):Option Bool:=
 if l0.length≤1000000∧l1_2.length≤1000000∧l1_3.length≤1000000∧l1_4.length≤1000000∧l1_5.length≤1000000∧l1_6.length≤1000000∧l2.length≤1000000 then some (takesB l0 l1_2 l1_3 l1_4 l1_5 l1_6 l2) else none
theorem R_beside {α:Type} {d:Kd α} {e base b:Nat} {w w' : World} {ok:Nat→Prop} {v:Value} {xs:List α} (h:d.R e w base ok v xs) (hb:∃es c,w.heap[b]? = some (.map es c)) (g:w.grownBy w' (some b)):d.R e w' base ok v xs:=
 Kd.R_mono (Kd.R_move (Kd.R_bound h) (fun k hk=>g.block k hk.2.2.1 (nes (by
  rintro rfl
  obtain⟨es,c,h1⟩:=hb
  obtain⟨_,_,_,q,_,cells,h2⟩:=hk
  rw [h1] at h2
  cases h2)))) (fun _ hk=>hk.1)
theorem infoLev:(Try.prog.info? 76).map (fun i=>(i.zero,i.size,i.bytes))=some (some (.agg #[.map none,.int .i64 0]),2,16):=by kernel_rfl
theorem R_notmap {α:Type} {d:Kd α} {e base b:Nat} {w:World} {ok:Nat→Prop} {v:Value} {xs:List α} (h:d.R e w base ok v xs) (hb:∃es c,w.heap[b]? = some (.map es c)):some b≠v.ownBlock:=by
 intro he
 obtain⟨inner,ho⟩:=Kd.R_own h
 obtain⟨cells,h2⟩:=own_typed ho b he.symm
 obtain⟨es,c,h1⟩:=hb
 rw [h1] at h2
 cases h2
theorem nOpen_snoc (os:List TOpen) (k:Int) (row:Row) (p:Int × Int):nOpen os k (row ++ [p])=nOpen os k row ++ nOpen os k [p]:=by simp [nOpen]
theorem nOpen_next (os:List TOpen) (k:Int) (p:Int × Int) (j:Int) (h0:0≤j) (h:j < os.length):nOpen (os.take (j+1).toNat) k [p]=nOpen (os.take j.toNat) k [p] ++ if (rd_T52 os j).f0=p.2∧(rd_T52 os j).f1=k then [((rd_T52 os j).f2,(rd_T52 os j).f2)] else []:=by
 rw [take_next z52 os j h0 h]
 simp only [nOpen,List.flatMap_cons,List.flatMap_nil,List.append_nil,List.filterMap_append]
 congr 1
 show List.filterMap _ [rd_T52 os j]=_
 by_cases hc:(rd_T52 os j).f0=p.2∧(rd_T52 os j).f1=k<;>simp [hc]
theorem nClose_snoc (os:List TClose) (k:Int) (row:Row) (p:Int × Int):nClose os k (row ++ [p])=nClose os k row ++ nClose os k [p]:=by simp [nClose]
theorem nClose_next (os:List TClose) (k:Int) (p:Int × Int) (j:Int) (h0:0≤j) (h:j < os.length):nClose (os.take (j+1).toNat) k [p]=nClose (os.take j.toNat) k [p] ++ if (rd_T54 os j).f0=p.2∧(rd_T54 os j).f1=k∧(rd_T54 os j).f2=0 then [(p.1,(rd_T54 os j).f3)] else []:=by
 rw [take_next z54 os j h0 h]
 simp only [nClose,List.flatMap_cons,List.flatMap_nil,List.append_nil,List.filterMap_append]
 congr 1
 show List.filterMap _ [rd_T54 os j]=_
 by_cases hc:(rd_T54 os j).f0=p.2∧(rd_T54 os j).f1=k∧(rd_T54 os j).f2=0<;>simp [hc]
theorem nInner_snoc (os:List TInner) (k:Int) (row:Row) (p:Int × Int):nInner os k (row ++ [p])=nInner os k row ++ nInner os k [p]:=by simp [nInner]
theorem nInner_next (os:List TInner) (k:Int) (p:Int × Int) (j:Int) (h0:0≤j) (h:j < os.length):nInner (os.take (j+1).toNat) k [p]=nInner (os.take j.toNat) k [p] ++ if (rd_T56 os j).f0=p.2∧(rd_T56 os j).f1=k then [(p.1,(rd_T56 os j).f2)] else []:=by
 rw [take_next z56 os j h0 h]
 simp only [nInner,List.flatMap_cons,List.flatMap_nil,List.append_nil,List.filterMap_append]
 congr 1
 show List.filterMap _ [rd_T56 os j]=_
 by_cases hc:(rd_T56 os j).f0=p.2∧(rd_T56 os j).f1=k<;>simp [hc]
def RowIs (w:World) (b:Nat) (row:Row):Prop:=∃m,MapIs ePair eOne w b m∧∀p,p∈m.map (·.1)↔p∈row
def kLev:Kd (Nat × Int):=Kd.pair (Kd.scalar (fun b:Nat=>Value.map (some b)) (fun _=>rfl)) (Kd.int .i64)
def Levs (w:World):List (Nat × Int)→List (Row × Int)→Prop
 | [],[]=>True
 | u :: us,v :: vs=>RowIs w u.1 v.1∧u.2=v.2∧Levs w us vs
 | _,_=>False
theorem RowIs.move {w w' : World} {b:Nat} {row:Row} (h:RowIs w b row) (e:w'.heap[b]? = w.heap[b]?):RowIs w' b row:=by
 obtain⟨m,h1,h2⟩:=h
 exact⟨m,h1.move e,h2⟩
theorem RowIs.lt {w:World} {b:Nat} {row:Row} (h:RowIs w b row):b < w.heap.size:=by
 obtain⟨m,h1,h2⟩:=h
 exact h1.lt
theorem RowIs.isMap {w:World} {b:Nat} {row:Row} (h:RowIs w b row):∃es c,w.heap[b]? = some (.map es c):=by
 obtain⟨m,h1,h2⟩:=h
 exact h1.isMap
theorem Levs.imp {w w' : World} (h:∀b row,RowIs w b row→RowIs w' b row):∀(us:List (Nat × Int)) (vs:List (Row × Int)),Levs w us vs→Levs w' us vs
 | [],[],_=>trivial
 | u :: us,v :: vs,⟨h1,h2,h3⟩=>⟨h _ _ h1,h2,Levs.imp h us vs h3⟩
 | [],_ :: _,h=>h.elim
 | _ :: _,[],h=>h.elim
theorem map_ne_cells {w:World} {b g:Nat} {cs:Array Value} {t:Nat} (hb:∃es c,w.heap[b]? = some (.map es c)) (h:w.heap[g]? = some (.cells cs t (0,0))):b≠g:=by
 rintro rfl
 obtain⟨es,c,h1⟩:=hb
 rw [h1] at h
 cases h
def prodL (A B:List Int):Row:=A.flatMap fun a=>B.map fun b=>(a,b)
theorem prodL_length (A B:List Int):(prodL A B).length=A.length*B.length:=by
 induction A with
 | nil=>simp [prodL]
 | cons a A ih=>
  have:prodL (a :: A) B=B.map (fun b=>(a,b)) ++ prodL A B:=by simp [prodL]
  rw [this,List.length_append,ih,List.length_map,List.length_cons,Nat.succ_mul,Nat.add_comm]
theorem mem_prodL {A B:List Int} {p:Int × Int} : p∈prodL A B↔p.1∈A∧p.2∈B:=by
 obtain⟨a,b⟩:=p
 simp [prodL]
def tA (init:List Int) (os:List TOpen):List Int:=init ++ os.map (·.f2)
def tB (init:List Int) (os:List TOpen) (cs:List TClose) (is:List TInner):List Int:=init ++ (os.map (·.f2) ++ (cs.map (·.f3) ++ is.map (·.f2)))
def WithinL (A B:List Int) (row:Row):Prop:=∀p∈row,p.1∈A∧p.2∈B
section
variable {init : List Int} {os : List TOpen} {cs : List TClose} {is : List TInner} {k by_ : Int} {row under : Row}
theorem within_init:WithinL (tA init os) (tB init os cs is) (init.map fun s=>(s,s)):=by
 intro p hp
 obtain⟨s,hs,rfl⟩:=List.mem_map.1 hp
 exact⟨List.mem_append_left _ hs,List.mem_append_left _ hs⟩
theorem within_open:WithinL (tA init os) (tB init os cs is) (nOpen os k row):=by
 intro p hp
 simp only [nOpen,List.mem_flatMap,List.mem_filterMap] at hp
 obtain⟨q,_,r,hr,h⟩:=hp
 split at h
 ·injection h with h
  subst h
  have:r.f2∈os.map (·.f2):=List.mem_map_of_mem hr
  exact⟨List.mem_append_right _ this,List.mem_append_right _ (List.mem_append_left _ this)⟩
 cases h
theorem within_close (h:WithinL (tA init os) (tB init os cs is) row):WithinL (tA init os) (tB init os cs is) (nClose cs k row):=by
 intro p hp
 simp only [nClose,List.mem_flatMap,List.mem_filterMap] at hp
 obtain⟨q,hq,r,hr,h2⟩:=hp
 split at h2
 ·injection h2 with h2
  subst h2
  have:r.f3∈cs.map (·.f3):=List.mem_map_of_mem hr
  exact⟨(h q hq).1,List.mem_append_right _ (List.mem_append_right _ (List.mem_append_left _ this))⟩
 cases h2
theorem within_inner (h:WithinL (tA init os) (tB init os cs is) row):WithinL (tA init os) (tB init os cs is) (nInner is k row):=by
 intro p hp
 simp only [nInner,List.mem_flatMap,List.mem_filterMap] at hp
 obtain⟨q,hq,r,hr,h2⟩:=hp
 split at h2
 ·injection h2 with h2
  subst h2
  have:r.f2∈is.map (·.f2):=List.mem_map_of_mem hr
  exact⟨(h q hq).1,List.mem_append_right _ (List.mem_append_right _ (List.mem_append_right _ this))⟩
 cases h2
theorem within_back (h:WithinL (tA init os) (tB init os cs is) under):WithinL (tA init os) (tB init os cs is) (nBack os cs k by_ under row):=by
 intro p hp
 simp only [nBack,List.mem_flatMap,List.mem_filterMap] at hp
 obtain⟨q,hq,o,_,r,hr,h2⟩:=hp
 split at h2
 ·injection h2 with h2
  subst h2
  have:r.f3∈cs.map (·.f3):=List.mem_map_of_mem hr
  exact⟨(h q hq).1,List.mem_append_right _ (List.mem_append_right _ (List.mem_append_left _ this))⟩
 cases h2
theorem within_bound (h:WithinL (tA init os) (tB init os cs is) row) (h1:init.length≤1000000) (h2:os.length≤1000000) (h3:cs.length≤1000000) (h4:is.length≤1000000):∃M:Row,(∀p∈row,p∈M)∧M.length≤10000000000000:=by
 refine⟨prodL (tA init os) (tB init os cs is),fun p hp=>mem_prodL.2 (h p hp),?_⟩
 rw [prodL_length]
 have a1:(tA init os).length≤2000000:=by simp [tA];omega
 have a2:(tB init os cs is).length≤4000000:=by simp [tB];omega
 exact Nat.le_trans (Nat.mul_le_mul a1 a2) (by omega)
end
theorem at_lev {w:World} {A:Option Addr} {n:Nat} {xs:List (Nat × Int)} (h:Kd.C kLev w A n xs) (i:Int) (h0:0≤i) (h1:i < n) :
 ∃ad,A=some ad∧w.cell? (ad.add (i.toNat*2))=some (.map (some (xs.getD i.toNat (0,0)).1))∧w.cell? ⟨(ad.add (i.toNat*2)).block,(ad.add (i.toNat*2)).off+1,none⟩=some (.int .i64 (xs.getD i.toNat (0,0)).2):=by
 obtain⟨ad,c,e,_,hK,hc0⟩:=Kd.C_get h (0,0) i h0 h1
 have hc:∀j u,c[j]? = some u→w.cell? (ad.add (i.toNat*2+j))=some u:=hc0
 obtain⟨_,_,rfl,rfl,rfl⟩:=hK
 exact⟨ad,e,hc 0 _ rfl,by rw [←add_field _ _ 1 (by omega)];exact hc 1 _ rfl⟩
end Go.Proofs.Ytjkhdldgmkkhjaa.P
end
section
namespace Go.Proofs.Ytjkhdldgmkkhjaa.P
open Go.RowKit Go.Proofs.YtjkhdldgmkkhjaaW.PrintWords Go.Proofs.YtjkhdldgmkkhjaaW.PrintLast Go.Proofs.YtjkhdldgmkkhjaaW.PrintMore Go.Proofs.Ytjkhdldgmkkhjaa.M
theorem compare_f (a b:Int):cmp_Compare_int.f a b=some (cmpInt a b):=by
 simp only [cmp_Compare_int.f,cmp_isNaN_int.f,Option.bind_some,bne_self_eq_false,Bool.false_eq_true,if_false,cmpInt]
 split
 ·rfl
 split<;>rfl
theorem or_f (a b:Int):cmp_Or_int.f 3 [a,b]=some (orInt a b):=by
 have w1:wrap64 1=1:=by unfold wrap64;omega
 have w2:wrap64 2=2:=by unfold wrap64;omega
 by_cases ha:a=0
 ·by_cases hb : b = 0
  ·subst ha;subst hb;simp [cmp_Or_int.f,cmp_Or_int.l0,orInt,rd,w1,w2]
  subst ha;simp [cmp_Or_int.f,cmp_Or_int.l0,orInt,rd,hb,w1,w2]
 simp [cmp_Or_int.f,cmp_Or_int.l0,orInt,rd,ha]
theorem compare_l0 (s t:List Int) (hs:s.length≤1000000000):∀(d:Nat) (i:Int),0≤i→i+d=s.length→i≤t.length→
 slices_Compare_int_int.l0 (d+1) s t s (s.length:Int) i=some (cmpList (s.drop i.toNat) (t.drop i.toNat)):=by
 intro d
 induction d with
 | zero=>
  intro i h0 h1 h2
  simp only [slices_Compare_int_int.l0]
  rw [if_neg (by omega),List.drop_eq_nil_of_le (show s.length≤i.toNat by omega)]
  by_cases h:(s.length:Int) < t.length
  ·rw [if_pos h,drop_next 0 t i h0 (by omega)];rfl
  rw [if_neg h,List.drop_eq_nil_of_le (show t.length≤i.toNat by omega)];rfl
 | succ d ih=>
  intro i h0 h1 h2
  have hlt:i < (s.length:Int):=by omega
  rw [slices_Compare_int_int.l0]
  rw [if_pos hlt,if_pos h0,if_pos hlt,drop_next 0 s i h0 hlt]
  by_cases h:i≥(t.length:Int)
  ·rw [if_pos h,List.drop_eq_nil_of_le (show t.length≤i.toNat by omega)];rfl
  rw [if_neg h, if_pos (by omega), compare_f, drop_next 0 t i h0 (by omega)]
  simp only [Option.bind_some,cmpList]
  by_cases hc:cmpInt (rd s i) (rd t i)=0
  ·have hc' : cmpInt (s.getD i.toNat 0) (t.getD i.toNat 0) = 0 := hc
   rw [if_pos hc,show wrap64 (i+1)=i+1 by unfold wrap64;omega,ih (i+1) (by omega) (by omega) (by omega),if_pos hc']
  have hc' : ¬ cmpInt (s.getD i.toNat 0) (t.getD i.toNat 0) = 0 := hc
  rw [if_neg hc,if_neg hc'];rfl
theorem slices_compare_f (s t:List Int) (hs:s.length≤1000000000):slices_Compare_int_int.f (s.length+1) s t=some (cmpList s t):=by
 have:=compare_l0 s t hs s.length 0 (by omega) (by omega) (by omega)
 simpa [slices_Compare_int_int.f] using this
def cmpAt (x y:S48):Int:=orInt (cmpInt x.f0 y.f0) (cmpList x.f1 y.f1)
theorem reads_two {w:World} {g:Nat} {a b:Int} (h:w.heap[g]? = some (.cells #[.int .i64 a,.int .i64 b] 3 (0,0))):Kd.C (Kd.int .i64) w (some ⟨g,0,none⟩) 2 [a,b]:=by
 refine⟨rfl,by omega,fun _=>⟨⟨g,0,none⟩,rfl,?_⟩⟩
 intro j p hp
 have cell:∀i,w.cell? ⟨g,i,none⟩=#[Value.int .i64 a,.int .i64 b][i]?:=fun i=>blk_cell h i
 match j with
 | 0=>
  simp at hp
  subst hp
  refine⟨[.int .i64 a],rfl,rfl,fun i u hu=>?_⟩
  match i with
  | 0=>simp at hu;subst hu;simpa [Addr.add] using cell 0
  | i+1=>simp at hu
 | 1=>
  simp at hp
  subst hp
  refine⟨[.int .i64 b],rfl,rfl,fun i u hu=>?_⟩
  match i with
  | 0=>simp at hu;subst hu;exact(show w.cell? ⟨g,1,none⟩=_ from cell 1).trans rfl
  | i+1=>simp at hu
 | j+2=>simp at hp
set_option maxHeartbeats 4000000 in
set_option maxRecDepth 100000 in
theorem order_calls (a:Int) (A:Option Addr) (ca:Nat) (s:List Int) (b:Int) (B:Option Addr) (cb:Nat) (t:List Int) (w:World) (hra:Kd.C (Kd.int .i64) w A s.length s) (hca:s.length≤ca) (hrb:Kd.C (Kd.int .i64) w B t.length t) (hcb:t.length≤cb) (hs:s.length≤1000000000) :
 Calls Try.prog 47 #[.agg #[.int .i64 a,.slice A s.length ca],.agg #[.int .i64 b,.slice B t.length cb]] w fun e w'=>e=.returned (.int .i64 (orInt (cmpInt a b) (cmpList s t)))∧GD w w':=by
 have HRa:=Aside0.mk hra
 have HRb:=Aside0.mk hrb
 have HCa:=Aside0.mk hca
 have HCb:=Aside0.mk hcb
 have HS:=Aside0.mk hs
 clear hra hrb hca hcb hs
 go_enter Try.func47,Try.ntmps47
 go_wp2
 have H2:Aside0 (((w.alloc (.cells #[.int .i64 a,.slice A s.length ca] 48)).alloc (.cells #[.int .i64 b,.slice B t.length cb] 48)).drew.heap[w.heap.size]? = some (.cells #[.int .i64 a,.slice A s.length ca] 48 (0,0))):=⟨blk_old (blk_newAt _ rfl) _⟩
 have H3:Aside0 (((w.alloc (.cells #[.int .i64 a,.slice A s.length ca] 48)).alloc (.cells #[.int .i64 b,.slice B t.length cb] 48)).drew.heap[w.heap.size+1]? = some (.cells #[.int .i64 b,.slice B t.length cb] 48 (0,0))):=⟨blk_newAt _ (size_alloc _ _).symm⟩
 have HG:Aside0 (GD w ((w.alloc (.cells #[.int .i64 a,.slice A s.length ca] 48)).alloc (.cells #[.int .i64 b,.slice B t.length cb] 48)).drew):=⟨(((GD.refl w).alloc _).alloc _).drew⟩
 refine start_ (n:=13) (S:=fun w'=>w'.cell? ⟨w.heap.size,0,none⟩=some (.int .i64 a)∧w'.cell? ⟨w.heap.size,1,none⟩=some (.slice A s.length ca)∧w'.cell? ⟨w.heap.size+1,0,none⟩=some (.int .i64 b)∧w'.cell? ⟨w.heap.size+1,1,none⟩=some (.slice B t.length cb)) (ds:=[]) #[false,false,false,false,false,false,false,false,false,false,false,false,false] (by kernel_rfl) rfl rfl ⟨(blk_cell H2.out 0).trans rfl,(blk_cell H2.out 1).trans rfl,(blk_cell H3.out 0).trans rfl,(blk_cell H3.out 1).trans rfl⟩ (fun hHeld=>?_)
 generalize ((w.alloc (.cells #[.int .i64 a,.slice A s.length ca] 48)).alloc (.cells #[.int .i64 b,.slice B t.length cb] 48)).drew=wd at H2 H3 HG hHeld ⊢
 refine pure_ (i:=0) (N:=(some 5)) (v:=?_) (a':=?_) #[true,false,false,false,false,false,false,false,false,false,false,false,false] rfl rfl (by kernel_rfl) (fun _ _ _ h=>h) (Or.inl ⟨by rfl,?_⟩) ?_ ?_
 rotate_left
 ·intro w'
  go_simp
  with_reducible rfl
 rotate_left
 ·simp only [Act.put, M.sq3, i64_w, i32_w]
  rfl
 refine pure_ (i:=2) (N:=(some 7)) (v:=?_) (a':=?_) #[true,false,true,false,false,false,false,false,false,false,false,false,false] rfl rfl (by kernel_rfl) (fun _ _ _ h=>h) (Or.inl ⟨by rfl,?_⟩) ?_ ?_
 rotate_left
 ·intro w'
  go_simp
  with_reducible rfl
 rotate_left
 ·simp only [Act.put, M.sq3, i64_w, i32_w]
  rfl
 refine pure_ (i:=5) (N:=(some 10)) (v:=?_) (a':=?_) #[true,false,true,false,false,true,false,false,false,false,false,false,false] rfl rfl (by kernel_rfl) (fun _ _ _ h=>h) (Or.inl ⟨by rfl,?_⟩) ?_ ?_
 rotate_left
 ·intro w'
  go_simp
  with_reducible rfl
 rotate_left
 ·simp only [Act.put, M.sq3, i64_w, i32_w]
  rfl
 refine pure_ (i:=7) (N:=(some 12)) (v:=?_) (a':=?_) #[true,false,true,false,false,true,false,true,false,false,false,false,false] rfl rfl (by kernel_rfl) (fun _ _ _ h=>h) (Or.inl ⟨by rfl,?_⟩) ?_ ?_
 rotate_left
 ·intro w'
  go_simp
  with_reducible rfl
 rotate_left
 ·simp only [Act.put, M.sq3, i64_w, i32_w]
  rfl
 refine take_ (i:=1) (N:=(some 6)) (v:=?_) (a':=?_) #[true,true,true,false,false,true,false,true,false,false,false,false,false] rfl rfl (by kernel_rfl) (fun _ _ _ h=>h) (Or.inl ⟨by rfl,?_⟩) hHeld ?_ ?_
 rotate_left
 ·intro w' hS_
  obtain⟨s0,s1,s2,s3⟩:=hS_
  go_simp
  with_reducible rfl
 rotate_left
 ·simp only [Act.put, M.sq3, i64_w, i32_w]
  rfl
 refine take_ (i:=3) (N:=(some 8)) (v:=?_) (a':=?_) #[true,true,true,true,false,true,false,true,false,false,false,false,false] rfl rfl (by kernel_rfl) (fun _ _ _ h=>h) (Or.inl ⟨by rfl,?_⟩) hHeld ?_ ?_
 rotate_left
 ·intro w' hS_
  obtain⟨s0,s1,s2,s3⟩:=hS_
  go_simp
  with_reducible rfl
 rotate_left
 ·simp only [Act.put, M.sq3, i64_w, i32_w]
  rfl
 refine take_ (i:=6) (N:=(some 11)) (v:=?_) (a':=?_) #[true,true,true,true,false,true,true,true,false,false,false,false,false] rfl rfl (by kernel_rfl) (fun _ _ _ h=>h) (Or.inl ⟨by rfl,?_⟩) hHeld ?_ ?_
 rotate_left
 ·intro w' hS_
  obtain⟨s0,s1,s2,s3⟩:=hS_
  go_simp
  with_reducible rfl
 rotate_left
 ·simp only [Act.put, M.sq3, i64_w, i32_w]
  rfl
 refine take_ (i:=8) (N:=(some 13)) (v:=?_) (a':=?_) #[true,true,true,true,false,true,true,true,true,false,false,false,false] rfl rfl (by kernel_rfl) (fun _ _ _ h=>h) (Or.inl ⟨by rfl,?_⟩) hHeld ?_ ?_
 rotate_left
 ·intro w' hS_
  obtain⟨s0,s1,s2,s3⟩:=hS_
  go_simp
  with_reducible rfl
 rotate_left
 ·simp only [Act.put, M.sq3, i64_w, i32_w]
  rfl
 refine one_ (i:=4) (N:=(some 9)) #[true,true,true,true,true,true,true,true,true,false,false,false,false] rfl rfl (by kernel_rfl) (by decide) (fun K hK=>?_)
 refine goes_ Try.func59 (by kernel_rfl) rfl #[.int .i64 a,.int .i64 b] rfl rfl rfl (by(try simp only [List.map_toArray,List.map_cons,List.map_nil]);rfl) ?_
 refine(cmp_Compare_int.calls a b (cmpInt a b) _ (compare_f a b)).mono ?_
 rintro e w' ⟨rfl,⟨nd,hnd⟩⟩
 subst hnd
 refine⟨_,rfl,?_⟩
 replace H2:=Aside0.mk (blk_drewN H2.out nd)
 replace H3:=Aside0.mk (blk_drewN H3.out nd)
 replace HG:=Aside0.mk (HG.out.drewN nd)
 generalize hw_:World.drewN _ nd=w1 at H2 H3 HG ⊢
 clear hw_
 refine hK.out _ _ ⟨(blk_cell H2.out 0).trans rfl,(blk_cell H2.out 1).trans rfl,(blk_cell H3.out 0).trans rfl,(blk_cell H3.out 1).trans rfl⟩ (fun hHeld=>?_)
 clear hK K
 refine norm_ (a':=?_) ?_ ?_
 rotate_left
 ·show Act.put _ (some 9) _ = _
  simp only [Act.put,M.sq3,i64_w,i32_w]
  rfl
 refine one_ (i:=9) (N:=(some 14)) #[true,true,true,true,true,true,true,true,true,true,false,false,false] rfl rfl (by kernel_rfl) (by decide) (fun K hK=>?_)
 refine goes_ Try.func60 (by kernel_rfl) rfl #[.slice A s.length ca,.slice B t.length cb] rfl rfl rfl (by(try simp only [List.map_toArray,List.map_cons,List.map_nil]);rfl) ?_
 refine(slices_Compare_int_int.calls (s.length+1) A ca s B cb t (cmpList s t) _ (Kd.C_below HRa.out HG.out.below) HCa.out (Kd.C_below HRb.out HG.out.below) HCb.out (slices_compare_f s t HS.out)).mono ?_
 rintro e w' ⟨rfl,⟨nd,hnd⟩⟩
 subst hnd
 refine⟨_,rfl,?_⟩
 replace H2:=Aside0.mk (blk_drewN H2.out nd)
 replace H3:=Aside0.mk (blk_drewN H3.out nd)
 replace HG:=Aside0.mk (HG.out.drewN nd)
 generalize hw_:World.drewN _ nd=w2 at H2 H3 HG ⊢
 clear hw_
 refine hK.out _ _ ⟨(blk_cell H2.out 0).trans rfl,(blk_cell H2.out 1).trans rfl,(blk_cell H3.out 0).trans rfl,(blk_cell H3.out 1).trans rfl⟩ (fun hHeld=>?_)
 clear hK K
 refine norm_ (a':=?_) ?_ ?_
 rotate_left
 ·show Act.put _ (some 14) _ = _
  simp only [Act.put,M.sq3,i64_w,i32_w]
  rfl
 refine one_ (i:=10) (N:=(some 15)) #[true,true,true,true,true,true,true,true,true,true,true,false,false] rfl rfl (by kernel_rfl) (by decide) (fun K hK=>?_)
 refine step_run (v:=.slice (some ⟨w2.heap.size,0,none⟩) 2 2) (w1:=w2.alloc (.cells #[.int .i64 (cmpInt a b),.int .i64 (cmpList s t)] 3)) rfl (by go_simp) ?_
 replace H2:=Aside0.mk (blk_old H2.out (.cells #[.int .i64 (cmpInt a b),.int .i64 (cmpList s t)] 3))
 replace H3:=Aside0.mk (blk_old H3.out (.cells #[.int .i64 (cmpInt a b),.int .i64 (cmpList s t)] 3))
 replace HG:=Aside0.mk (HG.out.alloc (.cells #[.int .i64 (cmpInt a b),.int .i64 (cmpList s t)] 3))
 have HR:=Aside0.mk (blk_newAt (w:=w2) (n:=w2.heap.size) (.cells #[.int .i64 (cmpInt a b),.int .i64 (cmpList s t)] 3) rfl)
 refine hK.out _ _ ⟨(blk_cell H2.out 0).trans rfl,(blk_cell H2.out 1).trans rfl,(blk_cell H3.out 0).trans rfl,(blk_cell H3.out 1).trans rfl⟩ (fun hHeld=>?_)
 clear hK K
 refine norm_ (a':=?_) ?_ ?_
 rotate_left
 ·show Act.put _ (some 15) _ = _
  simp only [Act.put,M.sq3,i64_w,i32_w]
  rfl
 refine one_ (i:=11) (N:=(some 16)) #[true,true,true,true,true,true,true,true,true,true,true,true,false] rfl rfl (by kernel_rfl) (by decide) (fun K hK=>?_)
 refine goes_ Try.func58 (by kernel_rfl) rfl #[.slice (some ⟨w2.heap.size,0,none⟩) 2 2] rfl rfl rfl (by(try simp only [List.map_toArray,List.map_cons,List.map_nil]);rfl) ?_
 refine(cmp_Or_int.calls 3 (some ⟨w2.heap.size,0,none⟩) 2 [cmpInt a b,cmpList s t] (orInt (cmpInt a b) (cmpList s t)) _ (reads_two HR.out) (Nat.le_refl _) (or_f _ _)).mono ?_
 rintro e w' ⟨rfl,⟨nd,hnd⟩⟩
 subst hnd
 refine⟨_,rfl,?_⟩
 replace H2:=Aside0.mk (blk_drewN H2.out nd)
 replace H3:=Aside0.mk (blk_drewN H3.out nd)
 replace HG:=Aside0.mk (HG.out.drewN nd)
 generalize hw_:World.drewN _ nd=w3 at H2 H3 HG ⊢
 clear hw_
 refine hK.out _ _ ⟨(blk_cell H2.out 0).trans rfl,(blk_cell H2.out 1).trans rfl,(blk_cell H3.out 0).trans rfl,(blk_cell H3.out 1).trans rfl⟩ (fun hHeld=>?_)
 clear hK K
 refine norm_ (a':=?_) ?_ ?_
 rotate_left
 ·show Act.put _ (some 16) _ = _
  simp only [Act.put,M.sq3,i64_w,i32_w]
  rfl
 refine pure_ (i:=12) (N:=(some 4)) (v:=?_) (a':=?_) #[true,true,true,true,true,true,true,true,true,true,true,true,true] rfl rfl (by kernel_rfl) (fun _ _ _ h=>h) (Or.inl ⟨by rfl,?_⟩) ?_ ?_
 rotate_left
 ·intro w'
  go_simp
  with_reducible rfl
 rotate_left
 ·simp only [Act.put, M.sq3, i64_w, i32_w]
  rfl
 refine done_ (by kernel_rfl) ?_
 try go_wp2
 go_ret
 exact⟨rfl,HG.out⟩
end Go.Proofs.Ytjkhdldgmkkhjaa.P
namespace Go.Proofs.Ytjkhdldgmkkhjaa.P
open Go.RowKit Go.Sort Go.Shelf Go.Proofs.YtjkhdldgmkkhjaaW.PrintWords Go.Proofs.YtjkhdldgmkkhjaaW.PrintLast Go.Proofs.YtjkhdldgmkkhjaaW.PrintMore Go.Proofs.Ytjkhdldgmkkhjaa.M
abbrev TAt:=S48
theorem totalAt:TotalCmp cmpAt:=TotalCmp.or totalInt totalList (fun x:TAt=>x.f0) (fun x:TAt=>x.f1) (fun x y h1 h2=>by cases x;cases y;simp at h1 h2;rw [h1,h2])
def innerL (l6:List TInner) (x:TAt) (sym:Int):List TAt:=(l6.filter fun r=>decide (r.f0=x.f0∧r.f1=sym)).map fun r=>⟨r.f2,x.f1⟩
def openL (l4:List TOpen) (x:TAt) (sym:Int):List TAt:=(l4.filter fun r=>decide (r.f0=x.f0∧r.f1=sym)).map fun r=>⟨r.f2,r.f3 :: x.f1⟩
def closeL (l5:List TClose) (x:TAt) (sym:Int):List TAt:=(l5.filter fun r=>decide (r.f0=x.f0∧r.f1=sym∧r.f2=x.f1.headD 0)).map fun r=>⟨r.f3,x.f1.tail⟩
def moveL (os:List TOpen) (cs:List TClose) (is:List TInner) (kind sym:Int) (x:TAt):List TAt:=if kind=1 then openL os x sym else if kind=2 then closeL cs x sym else innerL is x sym
def stepL (l:List TSym) (os:List TOpen) (cs:List TClose) (is:List TInner) (at_:List TAt) (sym:Int):List TAt:=
 if 0≤sym∧sym < l.length then onceC cmpAt (at_.flatMap (moveL os cs is (rd_T46 l sym).f1 sym)) else []
def stepOk (os:List TOpen) (cs:List TClose) (is:List TInner) (at_:List TAt):Prop:=(at_.length+1)*(os.length+cs.length+is.length+1)≤100000000∧∀x∈at_,x.f1.length≤10000000
instance (os:List TOpen) (cs:List TClose) (is:List TInner) (at_:List TAt):Decidable (stepOk os cs is at_):=by unfold stepOk;infer_instance
def runs_Step.f (l0:List TSym) (a1_0 a1_1:Int) (l1_2 l1_3:List Int) (l1_4:List TOpen) (l1_5:List TClose) (l1_6:List TInner) (l2:List TAt) (a3:Int):Option (List TAt):=
 if stepOk l1_4 l1_5 l1_6 l2 then some (stepL l0 l1_4 l1_5 l1_6 l2 a3) else none
def startL (init:List Int):List TAt:=onceC cmpAt (init.map fun s=>⟨s,[]⟩)
def runs_Start.f (a0_0 a0_1:Int) (l0_2 l0_3:List Int) (l0_4:List TOpen) (l0_5:List TClose) (l0_6:List TInner):Option (List TAt):=if l0_2.length≤1000000 then some (startL l0_2) else none
end Go.Proofs.Ytjkhdldgmkkhjaa.P
end
section
namespace Go.Proofs.Ytjkhdldgmkkhjaa.P
open Go.RowKit Go.Proofs.YtjkhdldgmkkhjaaW.PrintWords Go.Proofs.YtjkhdldgmkkhjaaW.PrintLast Go.Proofs.YtjkhdldgmkkhjaaW.PrintMore Go.Proofs.Ytjkhdldgmkkhjaa.M
abbrev RAt:=S67
abbrev Raw:=Int × (Option Addr × Nat × Nat)
def rawV (x:Option Addr × Nat × Nat):Value:=.slice x.1 x.2.1 x.2.2
def kRaw:Kd Raw:=Kd.pair (Kd.int .i64) (Kd.scalar rawV (fun _=>rfl))
theorem kRaw_mkM (w:World) (B:Nat) (ok:Nat→Prop) (r:Raw):kRaw.M w B ok r [.int .i64 r.1,rawV r.2]:=⟨_,_,rfl,rfl,rfl⟩
structure RawOf (w:World) (r:Raw) (x:RAt):Prop where
 s:r.1=x.f0
 n:r.2.2.1=x.f1.length
 c:x.f1.length≤r.2.2.2
 m:Kd.C (Kd.int .i64) w r.2.1 x.f1.length x.f1
theorem RawOf.below {w w' : World} {r:Raw} {x:RAt} (h:RawOf w r x) (hb:Below w.heap.size w w'):RawOf w' r x:=⟨h.s,h.n,h.c,Kd.C_below h.m hb⟩
def RawsOf (w:World):List Raw→List RAt→Prop
 | [],[]=>True
 | r :: rs,x :: xs=>RawOf w r x∧RawsOf w rs xs
 | _,_=>False
theorem RawsOf.below {w w' : World} (hb:Below w.heap.size w w'):∀{rs:List Raw} {xs:List RAt},RawsOf w rs xs→RawsOf w' rs xs
 | [],[],_=>trivial
 | _ :: _,_ :: _,⟨h1,h2⟩=>⟨h1.below hb,RawsOf.below hb h2⟩
 | [],_ :: _,h=>h.elim
 | _ :: _,[],h=>h.elim
theorem RawsOf.len {w:World} : ∀{rs:List Raw} {xs:List RAt},RawsOf w rs xs→rs.length=xs.length
 | [],[],_=>rfl
 | _ :: _,_ :: _,⟨_,h2⟩=>by rw [List.length_cons,List.length_cons,RawsOf.len h2]
 | [],_ :: _,h=>h.elim
 | _ :: _,[],h=>h.elim
theorem RawsOf.get {w:World} : ∀{rs:List Raw} {xs:List RAt},RawsOf w rs xs→∀(i:Nat) (h:i < rs.length) (h' : i < xs.length),RawOf w rs[i] xs[i]
 | _ :: _,_ :: _,⟨h1,_⟩,0,_,_=>h1
 | _ :: _,_ :: _,⟨_,h2⟩,i+1,h,h'=>RawsOf.get h2 i (by simpa using h) (by simpa using h')
 | [],_,_,_,h,_=>absurd h (Nat.not_lt_zero _)
 | _ :: _,[],h,_,_,_=>h.elim
theorem RawsOf.app {w:World} {rs2:List Raw} {xs2:List RAt} (h2:RawsOf w rs2 xs2):∀{rs:List Raw} {xs:List RAt},RawsOf w rs xs→RawsOf w (rs ++ rs2) (xs ++ xs2)
 | [],[],_=>h2
 | _ :: _,_ :: _,⟨h1,h3⟩=>⟨h1,RawsOf.app h2 h3⟩
 | [],_ :: _,h=>h.elim
 | _ :: _,[],h=>h.elim
theorem RawsOf.take {w:World} : ∀(k:Nat) {rs:List Raw} {xs:List RAt},RawsOf w rs xs→RawsOf w (rs.take k) (xs.take k)
 | 0,_,_,_=>by simp [RawsOf]
 | _+1,[],[],_=>trivial
 | k+1,_ :: _,_ :: _,⟨h1,h2⟩=>⟨h1,RawsOf.take k h2⟩
 | _+1,[],_ :: _,h=>h.elim
 | _+1,_ :: _,[],h=>h.elim
theorem RawsOf.drop {w:World} : ∀(k:Nat) {rs:List Raw} {xs:List RAt},RawsOf w rs xs→RawsOf w (rs.drop k) (xs.drop k)
 | 0,_,_,h=>h
 | _+1,[],[],_=>trivial
 | k+1,_ :: _,_ :: _,⟨_,h2⟩=>RawsOf.drop k h2
 | _+1,[],_ :: _,h=>h.elim
 | _+1,_ :: _,[],h=>h.elim
theorem at_raw {w:World} {A:Option Addr} {n:Nat} {xs:List Raw} (h:Kd.C kRaw w A n xs) (i:Nat) (u:Raw) (hu:xs[i]? = some u) (hi:i < n) :
 ∃ad,A=some ad∧w.cell? (ad.add (i*2))=some (.int .i64 u.1)∧w.cell? ⟨(ad.add (i*2)).block,(ad.add (i*2)).off+1,none⟩=some (rawV u.2):=by
 obtain⟨ad,c,e,_,hK,hc0⟩:=Kd.C_get h (0,none,0,0) (i:Int) (by omega) (by omega)
 rw [Int.toNat_natCast] at hK hc0
 have e2:xs.getD i (0,none,0,0)=u:=by rw [List.getD_eq_getElem?_getD,hu];rfl
 rw [e2] at hK
 have hc:∀j u,c[j]? = some u→w.cell? (ad.add (i*2+j))=some u:=hc0
 obtain⟨_,_,rfl,rfl,rfl⟩:=hK
 exact⟨ad,e,hc 0 _ rfl,by rw [←add_field _ _ 1 (by omega)];exact hc 1 _ rfl⟩
theorem raws_of {w:World} {A:Option Addr} : ∀(xs:List RAt) (n:Nat),Kd.C k67 w A n xs→∃rs,Kd.C kRaw w A n rs∧RawsOf w rs xs:=by
 intro xs n h
 have pick:∀j (hj:j < xs.length),∃r:Raw,RawOf w r xs[j]∧∀ad,A=some ad→w.cell? (ad.add (j*2+0))=some (.int .i64 r.1)∧w.cell? (ad.add (j*2+1))=some (rawV r.2):=by
  intro j hj
  obtain⟨ad,e,hc⟩:=h.2.2 (by have:=h.1;omega)
  obtain⟨c,hs,hK,hcell⟩:=hc j _ (List.getElem?_eq_getElem hj)
  obtain⟨A1,c1,rfl,l1,g1⟩:=k67_open hK
  refine⟨(xs[j].f0,A1,xs[j].f1.length,c1),⟨rfl,rfl,l1,g1⟩,fun ad' e'=>?_⟩
  obtain rfl:ad=ad':=Option.some.inj (e.symm.trans e')
  exact⟨hcell 0 _ rfl,hcell 1 _ rfl⟩
 have build:∀(ys:List RAt) (k:Nat),(∀j (hj:j < ys.length),∃r:Raw,RawOf w r ys[j]∧∀ad,A=some ad→w.cell? (ad.add ((k+j)*2+0))=some (.int .i64 r.1)∧w.cell? (ad.add ((k+j)*2+1))=some (rawV r.2))→∃rs,RawsOf w rs ys∧∀j r,rs[j]? = some r→∀ad,A=some ad→w.cell? (ad.add ((k+j)*2+0))=some (.int .i64 r.1)∧w.cell? (ad.add ((k+j)*2+1))=some (rawV r.2):=by
  intro ys
  induction ys with
  | nil=>intro k _;exact⟨[],trivial,fun j r hr=>by simp at hr⟩
  | cons y ys ih=>
   intro k hk
   obtain⟨r,h1,h2⟩:=hk 0 (by simp)
   obtain⟨rs,h3,h4⟩:=ih (k+1) (fun j hj=>by
    obtain⟨r,q1,q2⟩:=hk (j+1) (by simpa using hj)
    exact⟨r,q1,fun ad e=>by have:=q2 ad e;rw [show k+1+j=k+(j+1) by omega];exact this⟩)
   refine⟨r :: rs,⟨h1,h3⟩,fun j q hq ad e=>?_⟩
   cases j with
   | zero=>simp at hq;subst hq;exact h2 ad e
   | succ j=>have:=h4 j q (by simpa using hq) ad e;rw [show k+(j+1)=k+1+j by omega];exact this
 obtain⟨rs,h1,h2⟩:=build xs 0 (fun j hj=>by simpa using pick j hj)
 refine⟨rs,⟨by rw [h1.len];exact h.1,h.2.1,fun hn=>?_⟩,h1⟩
 obtain⟨ad,e,_⟩:=h.2.2 hn
 refine⟨ad,e,fun j r hr=>⟨[.int .i64 r.1,rawV r.2],rfl,⟨_,_,rfl,rfl,rfl⟩,fun i u hu=>?_⟩⟩
 have h3:=h2 j r hr ad e
 rw [Nat.zero_add] at h3
 match i with
 | 0=>simp at hu;subst hu;exact h3.1
 | 1=>simp at hu;subst hu;exact h3.2
 | i+2=>simp at hu
theorem raws_to {w:World} {A:Option Addr} {n:Nat} {rs:List Raw} {xs:List RAt} (h:Kd.C kRaw w A n rs) (hr:RawsOf w rs xs):Kd.C k67 w A n xs:=by
 refine⟨by rw [←hr.len];exact h.1,h.2.1,fun hn=>?_⟩
 obtain⟨ad,e,hc⟩:=h.2.2 hn
 refine⟨ad,e,fun j x hx=>?_⟩
 have hj:j < xs.length:=(List.getElem?_eq_some_iff.1 hx).1
 have hj' : j < rs.length:=by rw [hr.len];exact hj
 have ex:xs[j]=x:=(List.getElem?_eq_some_iff.1 hx).2
 obtain⟨c,hs,hK,hcell⟩:=hc j _ (List.getElem?_eq_getElem hj')
 obtain⟨_,_,rfl,rfl,rfl⟩:=hK
 have hro:=hr.get j hj' hj
 rw [ex] at hro
 refine⟨[.int .i64 x.f0,.slice rs[j].2.1 x.f1.length rs[j].2.2.2],rfl,k67_mk w x hro.c hro.m,fun i u hu=>?_⟩
 match i with
 | 0=>simp at hu;subst hu;rw [←hro.s];exact hcell 0 _ rfl
 | 1=>simp at hu;subst hu;rw [←hro.n];exact hcell 1 _ rfl
 | i+2=>simp at hu
end Go.Proofs.Ytjkhdldgmkkhjaa.P
end
section
namespace Go.Proofs.Ytjkhdldgmkkhjaa.P
open Go.RowKit Go.Proofs.YtjkhdldgmkkhjaaW.PrintWords Go.Proofs.YtjkhdldgmkkhjaaW.PrintLast Go.Proofs.YtjkhdldgmkkhjaaW.PrintMore
def fewL (l:List SSym) (most:Int):List Int→Int→List Int
 | [],_=>[]
 | x :: w,n=>
  if (rd_T46 l x).f1=1 then (if n+1 > most then [] else x :: fewL l most w (n+1)) else (if n > most then [] else x :: fewL l most w n)
theorem rd_at {w:List Int} {i:Int} (h0:0≤i) (h1:i < w.length):w.drop i.toNat=rd w i :: w.drop (i+1).toNat:=by
 rw [List.drop_eq_getElem_cons (by omega),show (i+1).toNat=i.toNat+1 by omega]
 congr 1
 unfold rd
 rw [List.getD_eq_getElem?_getD,List.getElem?_eq_getElem (by omega)]
 rfl
theorem rd_in {P:Int→Prop} {w:List Int} (h:∀x∈w,P x) {i:Int} (h0:0≤i) (h1:i < w.length):P (rd w i):=by
 refine h _ ?_
 unfold rd
 rw [List.getD_eq_getElem?_getD,List.getElem?_eq_getElem (by omega)]
 exact List.getElem_mem _
theorem few_loop {l:List SSym} (w:List Int) (hw:w.length≤1000000) (hs:∀x∈w,0≤x∧x < l.length) (most:Int) (hm:most≤1000):∀(d:Nat) (i:Int),0≤i→i≤w.length→w.length - i=d→∀n:Int,0≤n→n≤i→∀k,d < k→
 canopylaw4_few.l0 k l w most n i=some (w.take i.toNat ++ fewL l most (w.drop i.toNat) n)
 | d,i,h0,h1,hd,n,n0,n1,k+1,hk=>by
  unfold canopylaw4_few.l0
  by_cases c1:i < (w.length:Int)
  ·obtain ⟨d, rfl⟩ : ∃ e, d = e + 1 := ⟨d - 1, by omega⟩
   have hx:=rd_in hs h0 c1
   have wn:wrap64 (n+1)=n+1:=wrap_id (by omega) (by omega)
   have wi:wrap64 (i+1)=i+1:=wrap_id (by omega) (by omega)
   rw [if_pos c1,if_pos h0,if_pos hx.1,if_pos hx.2,rd_at h0 c1,wn,wi]
   unfold fewL
   have ih:=fun n n0 n1=>few_loop w hw hs most hm d (i+1) (by omega) (by omega) (by omega) n n0 n1 k (by omega)
   have e:∀n,w.take i.toNat ++ rd w i :: fewL l most (w.drop (i+1).toNat) n=w.take (i+1).toNat ++ fewL l most (w.drop (i+1).toNat) n:=fun n=>by
    rw [take_last w i h0 c1,List.append_assoc];rfl
   by_cases c2:(rd_T46 l (rd w i)).f1=1
   ·rw [if_pos c2, if_pos c2]
    by_cases c3:n+1 > most
    ·rw [if_pos c3,if_pos c3,if_pos (by omega),List.append_nil]
    rw [if_neg c3, if_neg c3, e]
    exact ih (n+1) (by omega) (by omega)
   rw [if_neg c2, if_neg c2]
   by_cases c3:n > most
   ·rw [if_pos c3,if_pos c3,if_pos (by omega),List.append_nil]
   rw [if_neg c3, if_neg c3, e]
   exact ih n (by omega) (by omega)
  rw [if_neg c1, List.drop_of_length_le (by omega), List.take_of_length_le (by omega)]
  simp [fewL]
theorem few_eq {l:List SSym} (w:List Int) (hw:w.length≤1000) (hs:∀x∈w,0≤x∧x < l.length) (most:Int) (hm:most≤1000) (k:Nat) (hk:1000 < k):canopylaw4_few.f k l w most=some (fewL l most w 0):=by
 have:=few_loop w (by omega) hs most hm w.length 0 (by omega) (by omega) (by omega) 0 (by omega) (by omega) k (by omega)
 rw [show (0:Int).toNat=0 from rfl,List.take_zero,List.drop_zero,List.nil_append] at this
 exact this
theorem few_sub {l:List SSym} {most:Int} : ∀{w:List Int} {n:Int},∃v,w=fewL l most w n ++ v
 | [],n=>⟨[],rfl⟩
 | x :: w,n=>by
  unfold fewL
  split
  ·split
   ·exact⟨_,rfl⟩
   obtain ⟨v, h⟩ := few_sub (l := l) (most := most) (w := w) (n := n + 1)
   exact⟨v,by rw [List.cons_append,←h]⟩
  split
  ·exact⟨_,rfl⟩
  obtain ⟨v, h⟩ := few_sub (l := l) (most := most) (w := w) (n := n)
  exact⟨v,by rw [List.cons_append,←h]⟩
theorem few_mem {l:List SSym} {most n:Int} {w:List Int} {P:Int→Prop} (h:∀x∈w,P x):∀x∈fewL l most w n,P x:=fun x hx=>by
 obtain⟨v,e⟩:=few_sub (l:=l) (most:=most) (w:=w) (n:=n)
 exact h x (by rw [e];exact List.mem_append_left _ hx)
theorem few_len {l:List SSym} {most n:Int} {w:List Int} : (fewL l most w n).length≤w.length:=by
 obtain⟨v,e⟩:=few_sub (l:=l) (most:=most) (w:=w) (n:=n)
 have:=congrArg List.length e
 rw [List.length_append] at this
 omega
def opensIn (l:List SSym):List Int→Nat
 | []=>0
 | x :: w=>(if (rd_T46 l x).f1=1 then 1 else 0)+opensIn l w
theorem few_opens {l:List SSym} {most:Int} : ∀{w:List Int} {n:Int},n≤most→opensIn l (fewL l most w n)+n≤most
 | [],n,h=>by simp [fewL,opensIn];omega
 | x :: w,n,h=>by
  unfold fewL
  split
  ·split
   ·simp [opensIn];omega
   rename_i h1 h2
   have:=few_opens (l:=l) (most:=most) (w:=w) (n:=n+1) (by omega)
   simp only [opensIn,if_pos h1]
   omega
  split
  ·simp [opensIn];omega
  rename_i h1 h2
  have:=few_opens (l:=l) (most:=most) (w:=w) (n:=n) (by omega)
  simp only [opensIn,if_neg h1]
  omega
theorem opens_take (l:List SSym):∀(w:List Int) (k:Nat),opensIn l (w.take k)≤opensIn l w
 | [],k=>by simp [opensIn]
 | x :: w,0=>by simp [opensIn]
 | x :: w,k+1=>by
  have:=opens_take l w k
  simp only [List.take_succ_cons,opensIn]
  omega
end Go.Proofs.Ytjkhdldgmkkhjaa.P
namespace Go.Proofs.Ytjkhdldgmkkhjaa.P
open Go.RowKit Go.Proofs.YtjkhdldgmkkhjaaW.PrintWords Go.Proofs.YtjkhdldgmkkhjaaW.PrintLast Go.Proofs.YtjkhdldgmkkhjaaW.PrintMore Go.Proofs.Ytjkhdldgmkkhjaa.M
theorem mem_start {init:List Int} {x:TAt} : x∈startL init↔x.f0∈init∧x.f1 = []:=by
 unfold startL
 rw [totalAt.mem_once,List.mem_map]
 constructor
 ·rintro⟨s,hs,rfl⟩;exact⟨hs,rfl⟩
 rintro⟨h1,h2⟩;exact⟨x.f0,h1,by cases x;simp at h2;rw [h2]⟩
theorem mem_step {l:List TSym} {os:List TOpen} {cs:List TClose} {is:List TInner} {at_:List TAt} {s:Int} (hs:0≤s∧s < l.length) {y:TAt} :
 y∈stepL l os cs is at_ s↔∃x∈at_,y∈moveL os cs is (rd_T46 l s).f1 s x:=by
 unfold stepL
 rw [if_pos hs,totalAt.mem_once,List.mem_flatMap]
theorem mem_open {os:List TOpen} {x y:TAt} {s:Int} : y∈openL os x s↔∃o∈os,(o.f0=x.f0∧o.f1=s)∧y=⟨o.f2,o.f3 :: x.f1⟩:=by
 simp only [openL,List.mem_map,List.mem_filter,decide_eq_true_eq]
 constructor
 ·rintro⟨o,⟨h1,h2⟩,rfl⟩;exact⟨o,h1,h2,rfl⟩
 rintro⟨o,h1,h2,rfl⟩;exact⟨o,⟨h1,h2⟩,rfl⟩
theorem mem_close {cs:List TClose} {x y:TAt} {s:Int} : y∈closeL cs x s↔∃c∈cs,(c.f0=x.f0∧c.f1=s∧c.f2=x.f1.headD 0)∧y=⟨c.f3,x.f1.tail⟩:=by
 simp only [closeL,List.mem_map,List.mem_filter,decide_eq_true_eq]
 constructor
 ·rintro⟨o,⟨h1,h2⟩,rfl⟩;exact⟨o,h1,h2,rfl⟩
 rintro⟨o,h1,h2,rfl⟩;exact⟨o,⟨h1,h2⟩,rfl⟩
theorem mem_inner {is:List TInner} {x y:TAt} {s:Int} : y∈innerL is x s↔∃r∈is,(r.f0=x.f0∧r.f1=s)∧y=⟨r.f2,x.f1⟩:=by
 simp only [innerL,List.mem_map,List.mem_filter,decide_eq_true_eq]
 constructor
 ·rintro⟨o,⟨h1,h2⟩,rfl⟩;exact⟨o,h1,h2,rfl⟩
 rintro⟨o,h1,h2,rfl⟩;exact⟨o,⟨h1,h2⟩,rfl⟩
def sortedAt (l:List TAt):Prop:=l.Pairwise fun x y=>cmpAt x y < 0
theorem sorted_nodup {l:List TAt} (h:sortedAt l):l.Nodup:=List.Pairwise.imp (fun {a b} hab e=>by
 subst e
 have:=totalAt.self a
 omega) h
theorem start_sorted (init:List Int):sortedAt (startL init):=totalAt.once_sorted _
theorem step_sorted {l:List TSym} {os:List TOpen} {cs:List TClose} {is:List TInner} {at_:List TAt} {s:Int} : sortedAt (stepL l os cs is at_ s):=by
 unfold stepL
 split
 ·exact totalAt.once_sorted _
 exact List.Pairwise.nil
def runL (l:List TSym) (os:List TOpen) (cs:List TClose) (is:List TInner) (at_:List TAt) (w:List Int):List TAt:=w.foldl (stepL l os cs is) at_
theorem run_sorted {l:List TSym} {os:List TOpen} {cs:List TClose} {is:List TInner} : ∀(w:List Int) {at_:List TAt},sortedAt at_→sortedAt (runL l os cs is at_ w)
 | [],_,h=>h
 | s :: w,at_,h=>run_sorted w (at_:=stepL l os cs is at_ s) step_sorted
theorem run_snoc {l:List TSym} {os:List TOpen} {cs:List TClose} {is:List TInner} (w:List Int) (s:Int) (at_:List TAt):runL l os cs is at_ (w ++ [s])=stepL l os cs is (runL l os cs is at_ w) s:=by
 simp [runL]
structure ConfOk (N G:Int) (d:Nat) (x:TAt):Prop where
 s:0≤x.f0∧x.f0 < N
 d:x.f1.length=d
 g:∀m∈x.f1,1≤m∧m≤G
def dNext (kind:Int) (d:Nat):Nat:=if kind=1 then d+1 else if kind=2 then d - 1 else d
def dRun (l:List TSym):List Int→Nat→Nat
 | [],d=>d
 | s :: w,d=>dRun l w (dNext (rd_T46 l s).f1 d)
theorem dRun_le (l:List TSym):∀(w:List Int) (d:Nat),dRun l w d≤d+opensIn l w
 | [],d=>by simp [dRun]
 | s :: w,d=>by
  have:=dRun_le l w (dNext (rd_T46 l s).f1 d)
  simp only [dRun,opensIn]
  by_cases k1:(rd_T46 l s).f1=1
  ·have e : dNext (rd_T46 l s).f1 d = d + 1 := by unfold dNext; rw [if_pos k1]
   rw [e] at this ⊢
   rw [if_pos k1]
   omega
  have e : dNext (rd_T46 l s).f1 d ≤ d := by unfold dNext; rw [if_neg k1]; split <;> omega
  rw [if_neg k1]
  omega
theorem conf_start {init:List Int} {N G:Int} (h:∀s∈init,0≤s∧s < N):∀x∈startL init,ConfOk N G 0 x:=fun x hx=>by
 obtain⟨h1,h2⟩:=mem_start.1 hx
 exact⟨h _ h1,by rw [h2];rfl,by rw [h2];simp⟩
theorem conf_step {l:List TSym} {N G:Int} {st:MSt} (I:MkInv l N G st) {at_:List TAt} {d:Nat} (h:∀x∈at_,ConfOk N G d x) {s:Int} (hs:0≤s∧s < l.length) :
 ∀y∈stepL l st.o st.c st.n at_ s,ConfOk N G (dNext (rd_T46 l s).f1 d) y:=fun y hy=>by
 obtain⟨x,hx,hm⟩:=(mem_step hs).1 hy
 obtain⟨a1,a2,a3⟩:=h x hx
 unfold moveL at hm
 unfold dNext
 by_cases k1:(rd_T46 l s).f1=1
 ·rw [if_pos k1] at hm ⊢
  obtain⟨o,ho,hc,rfl⟩:=mem_open.1 hm
  obtain⟨_,_,b3,b4⟩:=I.o o ho
  exact⟨b3,by simp [a2],fun m hm=>by
   rcases List.mem_cons.1 hm with rfl|h
   ·exact b4
   exact a3 m h⟩
 rw [if_neg k1] at hm ⊢
 by_cases k2:(rd_T46 l s).f1=2
 ·rw [if_pos k2] at hm ⊢
  obtain⟨o,ho,hc,rfl⟩:=mem_close.1 hm
  obtain⟨_,_,_,b4⟩:=I.c o ho
  exact⟨b4,by simp [a2],fun m hm=>a3 m (List.mem_of_mem_tail hm)⟩
 rw [if_neg k2] at hm ⊢
 obtain⟨o,ho,hc,rfl⟩:=mem_inner.1 hm
 obtain⟨_,_,b3⟩:=I.n o ho
 exact⟨b3,a2,a3⟩
theorem conf_run {l:List TSym} {N G:Int} {st:MSt} (I:MkInv l N G st):∀(w:List Int) {at_:List TAt} {d:Nat},(∀x∈at_,ConfOk N G d x)→(∀s∈w,0≤s∧s < l.length)→
 ∀y∈runL l st.o st.c st.n at_ w,ConfOk N G (dRun l w d) y
 | [],_,_,h,_=>h
 | s :: w,at_,d,h,hw=>conf_run I w (conf_step I h (hw s List.mem_cons_self)) (fun x hx=>hw x (List.mem_cons_of_mem _ hx))
def stacksOf (G:Nat):Nat→List (List Int)
 | 0=>[[]]
 | d+1=>(List.range G).flatMap fun (m:Nat)=>(stacksOf G d).map fun s=>((m:Int)+1) :: s
theorem stacks_len (G:Nat):∀d,(stacksOf G d).length=G ^ d
 | 0=>rfl
 | d+1=>by
  have:∀n:Nat,((List.range n).flatMap fun (m:Nat)=>(stacksOf G d).map fun s=>((m:Int)+1) :: s).length=n*G ^ d:=fun n=>by
   induction n with
   | zero=>simp
   | succ n ih=>rw [List.range_succ,List.flatMap_append,List.length_append,ih];simp [stacks_len G d,Nat.succ_mul]
  rw [stacksOf,this,Nat.pow_succ,Nat.mul_comm]
theorem mem_stacks {G:Nat} : ∀{d:Nat} {s:List Int},s.length=d→(∀m∈s,1≤m∧m≤(G:Int))→s∈stacksOf G d
 | 0,s,h,_=>by
  rw [List.length_eq_zero_iff.1 h];simp [stacksOf]
 | d+1,[],h,_=>by simp at h
 | d+1,m :: s,h,hm=>by
  obtain⟨h1,h2⟩:=hm m List.mem_cons_self
  rw [stacksOf,List.mem_flatMap]
  refine⟨(m - 1).toNat,List.mem_range.2 (by omega),List.mem_map.2 ⟨s,mem_stacks (by simpa using h) (fun x hx=>hm x (List.mem_cons_of_mem _ hx)),?_⟩⟩
  rw [show (((m - 1).toNat:Nat):Int)+1=m by omega]
theorem conf_few {N G:Int} (hN:0≤N) (hG:0≤G) {d:Nat} {at_:List TAt} (hs:sortedAt at_) (h:∀x∈at_,ConfOk N G d x):at_.length≤N.toNat*G.toNat ^ d:=by
 have hl:∀n:Nat,((List.range n).flatMap fun (q:Nat)=>(stacksOf G.toNat d).map fun s=>(⟨(q:Int),s⟩:TAt)).length=n*G.toNat ^ d:=fun n=>by
  induction n with
  | zero=>simp
  | succ n ih=>rw [List.range_succ,List.flatMap_append,List.length_append,ih];simp [stacks_len,Nat.succ_mul]
 rw [←hl]
 refine List.Nodup.length_le_of_subset (sorted_nodup hs) (fun x hx=>?_)
 obtain⟨a1,a2,a3⟩:=h x hx
 rw [List.mem_flatMap]
 refine⟨x.f0.toNat,List.mem_range.2 (by omega),List.mem_map.2 ⟨x.f1,mem_stacks a2 (fun m hm=>by have:=a3 m hm;omega),?_⟩⟩
 rw [show ((x.f0.toNat:Nat):Int)=x.f0 by omega]
theorem step_ok {N G:Int} (hN:0≤N) (hN4:N≤4) (hG:0≤G) (hG2:G≤2) {d:Nat} (hd:d≤14) {at_:List TAt} (hs:sortedAt at_) (h:∀x∈at_,ConfOk N G d x) {st:MSt} (L:MkLen st 24):stepOk st.o st.c st.n at_:=by
 obtain⟨_,_,l1,l2,l3⟩:=L
 have h1:=conf_few hN hG hs h
 have h2:G.toNat ^ d≤2 ^ 14:=Nat.le_trans (Nat.pow_le_pow_left (show G.toNat≤2 by omega) d) (Nat.pow_le_pow_right (by omega) hd)
 have h3:N.toNat*G.toNat ^ d≤4*2 ^ 14:=Nat.mul_le_mul (by omega) h2
 refine⟨?_,fun x hx=>by have:=(h x hx).d;omega⟩
 have:(at_.length+1)*(st.o.length+st.c.length+st.n.length+1)≤65537*73:=Nat.mul_le_mul (by omega) (by omega)
 omega
def Und (os:List TOpen):Int→List (Row × Int)→Int→List Int→Prop
 | _,[],_,st=>st = []
 | by_,u :: rest,p,st=>∃o∈os,o.f1=by_∧o.f2=p∧∃st',st=o.f3 :: st'∧∃p1,(p1,o.f0)∈u.1∧Und os u.2 rest p1 st'
def Rep (os:List TOpen) (row:Row) (by_:Int) (under:List (Row × Int)) (x:TAt):Prop:=∃p,(p,x.f0)∈row∧Und os by_ under p x.f1
def Live (os:List TOpen):Row→Int→List (Row × Int)→Prop
 | _,_,[]=>True
 | row,by_,u :: rest=>(∀p q,(p,q)∈row→∃st,Und os by_ (u :: rest) p st)∧Live os u.1 u.2 rest
theorem Live.all {os:List TOpen} {row:Row} {by_:Int} {under:List (Row × Int)} (h:Live os row by_ under):∀p q,(p,q)∈row→∃st,Und os by_ under p st:=by
 cases under with
 | nil=>exact fun p q _=>⟨[],rfl⟩
 | cons u rest=>exact h.1
theorem Live.sub {os:List TOpen} {row row' : Row} {by_:Int} {under:List (Row × Int)} (h:Live os row by_ under) (s:∀p q,(p,q)∈row'→∃q',(p,q')∈row):Live os row' by_ under:=by
 cases under with
 | nil=>trivial
 | cons u rest=>exact⟨fun p q hp=>by obtain⟨q',h'⟩:=s p q hp;exact h.1 p q' h',h.2⟩
theorem mem_nOpen {os:List TOpen} {k:Int} {row:Row} {p q:Int} : (p,q)∈nOpen os k row↔∃p0,∃o∈os,(p0,o.f0)∈row∧o.f1=k∧p=o.f2∧q=o.f2:=by
 simp only [nOpen,List.mem_flatMap,List.mem_filterMap]
 constructor
 ·rintro ⟨⟨p0, q0⟩, h, r, hr, h2⟩
  split at h2
  ·rename_i hc
   injection h2 with h2
   injection h2 with h3 h4
   exact⟨p0,r,hr,by rw [hc.1];exact h,hc.2,h3.symm,h4.symm⟩
  cases h2
 rintro ⟨p0, o, ho, h, hk, rfl, rfl⟩
 exact⟨(p0,o.f0),h,o,ho,by rw [if_pos ⟨rfl,hk⟩]⟩
theorem mem_nClose {cs:List TClose} {k:Int} {row:Row} {p q:Int} : (p,q)∈nClose cs k row↔∃c∈cs,(p,c.f0)∈row∧c.f1=k∧c.f2=0∧q=c.f3:=by
 simp only [nClose,List.mem_flatMap,List.mem_filterMap]
 constructor
 ·rintro ⟨⟨p0, q0⟩, h, r, hr, h2⟩
  split at h2
  ·rename_i hc
   injection h2 with h2
   injection h2 with h3 h4
   subst h3
   exact⟨r,hr,by rw [hc.1];exact h,hc.2.1,hc.2.2,h4.symm⟩
  cases h2
 rintro ⟨o, ho, h, hk, h0, rfl⟩
 exact⟨(p,o.f0),h,o,ho,by rw [if_pos ⟨rfl,hk,h0⟩]⟩
theorem mem_nInner {is:List TInner} {k:Int} {row:Row} {p q:Int} : (p,q)∈nInner is k row↔∃r∈is,(p,r.f0)∈row∧r.f1=k∧q=r.f2:=by
 simp only [nInner,List.mem_flatMap,List.mem_filterMap]
 constructor
 ·rintro ⟨⟨p0, q0⟩, h, r, hr, h2⟩
  split at h2
  ·rename_i hc
   injection h2 with h2
   injection h2 with h3 h4
   subst h3
   exact⟨r,hr,by rw [hc.1];exact h,hc.2,h4.symm⟩
  cases h2
 rintro ⟨o, ho, h, hk, rfl⟩
 exact⟨(p,o.f0),h,o,ho,by rw [if_pos ⟨rfl,hk⟩]⟩
theorem mem_nBack {os:List TOpen} {cs:List TClose} {k by_:Int} {under row:Row} {p q:Int} : (p,q)∈nBack os cs k by_ under row↔∃o∈os,∃c∈cs,(p,o.f0)∈under∧o.f1=by_∧c.f1=k∧c.f2=o.f3∧(o.f2,c.f0)∈row∧q=c.f3:=by
 simp only [nBack,List.mem_flatMap,List.mem_filterMap,List.mem_filter,decide_eq_true_eq]
 constructor
 ·rintro ⟨⟨p0, q0⟩, h, o, ⟨ho, ho1, ho2⟩, c, hc, h2⟩
  split at h2
  ·rename_i hh
   injection h2 with h2
   injection h2 with h3 h4
   subst h3
   exact⟨o,ho,c,hc,by rw [ho1];exact h,ho2,hh.1,hh.2.1,hh.2.2,h4.symm⟩
  cases h2
 rintro ⟨o, ho, c, hc, h, h1, h2, h3, h4, rfl⟩
 exact⟨(p,o.f0),h,o,⟨ho,rfl,h1⟩,c,hc,by rw [if_pos ⟨h2,h3,h4⟩]⟩
theorem goT_rep {l:List TSym} {os:List TOpen} {cs:List TClose} {is:List TInner} : ∀(w:List Int),(∀s∈w,0≤s∧s < l.length)→∀{row:Row} {by_:Int} {under:List (Row × Int)} {at_:List TAt},(∀x,x∈at_↔Rep os row by_ under x)→Live os row by_ under→
 ∃row',goT l os cs is w row by_ under=some row'∧∀q,(∃p,(p,q)∈row')↔∃x∈runL l os cs is at_ w,x.f0=q
 | [],_,row,by_,under,at_,h,hl=>by
  refine⟨row,by rw [goT.eq_def],fun q=>⟨?_,?_⟩⟩
  ·rintro ⟨p, hp⟩
   obtain⟨st,hst⟩:=hl.all p q hp
   exact⟨⟨q,st⟩,(h _).2 ⟨p,hp,hst⟩,rfl⟩
  rintro ⟨x, hx, rfl⟩
  obtain⟨p,hp,_⟩:=(h x).1 hx
  exact⟨p,hp⟩
 | s :: w,hw,row,by_,under,at_,h,hl=>by
  have hs:=hw s List.mem_cons_self
  have hw':=fun x hx=>hw x (List.mem_cons_of_mem _ hx)
  have goal:∀{row2:Row} {by2:Int} {under2:List (Row × Int)},goT l os cs is (s :: w) row by_ under=goT l os cs is w row2 by2 under2→Live os row2 by2 under2→(∀y,(∃x,Rep os row by_ under x∧y∈moveL os cs is (rd_T46 l s).f1 s x)↔Rep os row2 by2 under2 y)→
   ∃row',goT l os cs is (s :: w) row by_ under=some row'∧∀q,(∃p,(p,q)∈row')↔∃x∈runL l os cs is at_ (s :: w),x.f0=q:=by
   intro row2 by2 under2 e1 e2 e3
   rw [e1]
   refine goT_rep w hw' (at_:=stepL l os cs is at_ s) (fun y=>?_) e2
   rw [mem_step hs,←e3]
   constructor
   ·rintro⟨x,hx,hy⟩;exact⟨x,(h x).1 hx,hy⟩
   rintro⟨x,hx,hy⟩;exact⟨x,(h x).2 hx,hy⟩
  by_cases k1:(rd_T46 l s).f1=1
  ·refine goal (goT_open hs k1) ⟨fun p q hp => ?_, hl⟩ (fun y => ?_)
   ·obtain ⟨p0, o, ho, h1, h2, rfl, rfl⟩ := mem_nOpen.1 hp
    obtain⟨st,hst⟩:=hl.all _ _ h1
    exact⟨o.f3 :: st,o,ho,h2,rfl,st,rfl,p0,h1,hst⟩
   simp only [moveL, if_pos k1]
   constructor
   ·rintro ⟨x, ⟨p, hp, hu⟩, hy⟩
    obtain⟨o,ho,⟨h1,h2⟩,rfl⟩:=mem_open.1 hy
    exact⟨o.f2,mem_nOpen.2 ⟨p,o,ho,by rw [h1];exact hp,h2,rfl,rfl⟩,o,ho,h2,rfl,x.f1,rfl,p,by rw [h1];exact hp,hu⟩
   rintro ⟨p, hp, o, ho, h1, h2, st', h3, p1, h4, h5⟩
   obtain⟨p0,o',ho',h1',h2',h3',h4'⟩:=mem_nOpen.1 hp
   refine⟨⟨o.f0,st'⟩,⟨p1,h4,h5⟩,mem_open.2 ⟨o,ho,⟨rfl,h1⟩,?_⟩⟩
   cases y
   simp only [] at h3 h4'
   rw [h3,h4',←h3',h2]
  by_cases k2:(rd_T46 l s).f1=2
  ·cases under with
   | nil=>
    refine goal (goT_close0 hs k2) trivial (fun y=>?_)
    simp only [moveL,if_neg k1,if_pos k2]
    constructor
    ·rintro ⟨x, ⟨p, hp, hu⟩, hy⟩
     obtain⟨c,hc,⟨h1,h2,h3⟩,rfl⟩:=mem_close.1 hy
     have hu' : x.f1 = []:=hu
     rw [hu'] at h3
     exact⟨p,mem_nClose.2 ⟨c,hc,by rw [h1];exact hp,h2,h3,rfl⟩,by rw [hu'];rfl⟩
    rintro ⟨p, hp, hu⟩
    have hu' : y.f1 = []:=hu
    obtain⟨c,hc,h1,h2,h3,h4⟩:=mem_nClose.1 hp
    refine⟨⟨c.f0,[]⟩,⟨p,h1,rfl⟩,mem_close.2 ⟨c,hc,⟨rfl,h2,h3⟩,?_⟩⟩
    cases y
    simp only [] at hu' h4
    rw [hu',h4];rfl
   | cons u rest=>
    refine goal (goT_close hs k2) (Live.sub hl.2 (fun p q hp=>?_)) (fun y=>?_)
    ·obtain ⟨o, ho, c, hc, h1, _⟩ := mem_nBack.1 hp
     exact⟨_,h1⟩
    simp only [moveL, if_neg k1, if_pos k2]
    constructor
    ·rintro ⟨x, ⟨p, hp, o, ho, e1, e2, st', e3, p1, e4, e5⟩, hy⟩
     obtain⟨c,hc,⟨h1,h2,h3⟩,rfl⟩:=mem_close.1 hy
     rw [e3] at h3
     exact⟨p1,mem_nBack.2 ⟨o,ho,c,hc,e4,e1,h2,h3,by rw [e2,h1];exact hp,rfl⟩,by rw [e3];exact e5⟩
    rintro ⟨p, hp, hu⟩
    obtain⟨o,ho,c,hc,h1,h2,h3,h4,h5,h6⟩:=mem_nBack.1 hp
    refine⟨⟨c.f0,o.f3 :: y.f1⟩,⟨o.f2,h5,o,ho,h2,rfl,y.f1,rfl,p,h1,hu⟩,mem_close.2 ⟨c,hc,⟨rfl,h3,h4⟩,?_⟩⟩
    cases y
    simp only [] at h6
    rw [h6];rfl
  refine goal (goT_inner hs k1 k2) (Live.sub hl (fun p q hp=>?_)) (fun y=>?_)
  ·obtain ⟨r, hr, h1, _⟩ := mem_nInner.1 hp
   exact⟨_,h1⟩
  simp only [moveL, if_neg k1, if_neg k2]
  constructor
  ·rintro ⟨x, ⟨p, hp, hu⟩, hy⟩
   obtain⟨r,hr,⟨h1,h2⟩,rfl⟩:=mem_inner.1 hy
   exact⟨p,mem_nInner.2 ⟨r,hr,by rw [h1];exact hp,h2,rfl⟩,hu⟩
  rintro ⟨p, hp, hu⟩
  obtain⟨r,hr,h1,h2,h3⟩:=mem_nInner.1 hp
  refine⟨⟨r.f0,y.f1⟩,⟨p,h1,hu⟩,mem_inner.2 ⟨r,hr,⟨rfl,h2⟩,?_⟩⟩
  cases y
  simp only [] at h3
  rw [h3]
theorem takes_iff {l:List TSym} {os:List TOpen} {cs:List TClose} {is:List TInner} {init final w:List Int} (hw:∀s∈w,0≤s∧s < l.length) :
 takesB l init final os cs is w=true↔∃x∈runL l os cs is (startL init) w,x.f0∈final:=by
 obtain⟨row,h1,h2⟩:=goT_rep (l:=l) (os:=os) (cs:=cs) (is:=is) w hw (row:=init.map fun s=>(s,s)) (by_:=0) (under:=[]) (at_:=startL init) (fun x=>by
  rw [mem_start]
  constructor
  ·rintro⟨e1,e2⟩;exact⟨x.f0,List.mem_map.2 ⟨_,e1,rfl⟩,e2⟩
  rintro ⟨p, hp, hu⟩
  obtain⟨s,hs,e⟩:=List.mem_map.1 hp
  injection e with e1 e2
  exact⟨by rw [←e2];exact hs,hu⟩) trivial
 unfold takesB
 rw [h1]
 simp only [List.any_eq_true,List.contains_iff_mem]
 constructor
 ·rintro ⟨⟨p, q⟩, hp, hq⟩
  obtain⟨x,hx,rfl⟩:=(h2 q).1 ⟨p,hp⟩
  exact⟨x,hx,hq⟩
 rintro ⟨x, hx, hq⟩
 obtain⟨p,hp⟩:=(h2 x.f0).2 ⟨x,hx,rfl⟩
 exact⟨(p,x.f0),hp,hq⟩
end Go.Proofs.Ytjkhdldgmkkhjaa.P
end
section
namespace Go.Proofs.Ytjkhdldgmkkhjaa.P
open Go.RowKit Go.Proofs.YtjkhdldgmkkhjaaW.PrintWords Go.Proofs.YtjkhdldgmkkhjaaW.PrintLast Go.Proofs.YtjkhdldgmkkhjaaW.PrintMore
section
variable {l : List SSym} {w : List Int}
theorem step_go {N G:Int} {st:MSt} (I:MkInv l N G st) (L:MkLen st 24) (hN:0≤N) (hN4:N≤4) (hG:0≤G) (hG2:G≤2) {init:List Int} (hin:∀s∈init,0≤s∧s < N) (hw:∀s∈w,0≤s∧s < l.length) (ho:opensIn l w≤14) (final:List Int) (s:Int) :
 runs_Step.f l N G init final st.o st.c st.n (runL l st.o st.c st.n (startL init) w) s=some (runL l st.o st.c st.n (startL init) (w ++ [s]))∧(runL l st.o st.c st.n (startL init) w).length≤70000∧∀x∈runL l st.o st.c st.n (startL init) w,x.f1.length≤14:=by
 have hc:=conf_run I w (at_:=startL init) (d:=0) (conf_start hin) hw
 have hs:=run_sorted (l:=l) (os:=st.o) (cs:=st.c) (is:=st.n) w (start_sorted init)
 have hd:=dRun_le l w 0
 have ok:=step_ok hN hN4 hG hG2 (show dRun l w 0≤14 by omega) hs hc L
 refine⟨by unfold runs_Step.f;rw [if_pos ok,run_snoc],?_,fun x hx=>by have:=(hc x hx).d;omega⟩
 have hfew:=conf_few hN hG hs hc
 have h2:G.toNat ^ dRun l w 0≤2 ^ 14:=Nat.le_trans (Nat.pow_le_pow_left (show G.toNat≤2 by omega) _) (Nat.pow_le_pow_right (by omega) (by omega))
 have h3:N.toNat*G.toNat ^ dRun l w 0≤4*2 ^ 14:=Nat.mul_le_mul (by omega) h2
 omega
theorem step_few {N G:Int} {st:MSt} (I:MkInv l N G st) (hN:0≤N) (hN4:N≤4) (hG:0≤G) (hG2:G≤2) {init:List Int} (hin:∀s∈init,0≤s∧s < N) (hw:∀s∈w,0≤s∧s < l.length) (ho:opensIn l w≤5) :
 (runL l st.o st.c st.n (startL init) w).length≤128∧∀x∈runL l st.o st.c st.n (startL init) w,x.f1.length≤14:=by
 have hc:=conf_run I w (at_:=startL init) (d:=0) (conf_start hin) hw
 have hs:=run_sorted (l:=l) (os:=st.o) (cs:=st.c) (is:=st.n) w (start_sorted init)
 have hd:=dRun_le l w 0
 refine⟨?_,fun x hx=>by have:=(hc x hx).d;omega⟩
 have hfew:=conf_few hN hG hs hc
 have h2:G.toNat ^ dRun l w 0≤2 ^ 5:=Nat.le_trans (Nat.pow_le_pow_left (show G.toNat≤2 by omega) _) (Nat.pow_le_pow_right (by omega) (by omega))
 have h3:N.toNat*G.toNat ^ dRun l w 0≤4*2 ^ 5:=Nat.mul_le_mul (by omega) h2
 omega
end
end Go.Proofs.Ytjkhdldgmkkhjaa.P
end
section
namespace Go.Proofs.Ytjkhdldgmkkhjaa.M
section
variable {α : Type} {cmp : α → α → Int}
theorem TotalCmp.le_trans (T:TotalCmp cmp) {x y z:α} (h1:cmp x y≤0) (h2:cmp y z≤0):cmp x z≤0:=by
 by_cases e1:cmp x y=0
 ·rw [T.zero.1 e1];exact h2
 by_cases e2 : cmp y z = 0
 ·rw [←T.zero.1 e2];exact h1
 have := T.trans (x := x) (y := y) (z := z) (by omega) (by omega)
 omega
def Ris (cmp:α→α→Int) (l:List α):Prop:=l.Pairwise fun x y=>cmp x y < 0
structure Mrg (cmp:α→α→Int) (a b:List α) (i k:Nat) (out:List α):Prop where
 s:Ris cmp out
 m:∀x,x∈out↔x∈a.take i∨x∈b.take k
 la:∀x∈out,∀y∈a.drop i,cmp x y≤0
 lb:∀x∈out,∀y∈b.drop k,cmp x y≤0
theorem Mrg.symm {a b:List α} {i k:Nat} {out:List α} (h:Mrg cmp a b i k out):Mrg cmp b a k i out:=⟨h.s,fun x=>(h.m x).trans Or.comm,h.lb,h.la⟩
theorem Mrg.nil (a b:List α):Mrg cmp a b 0 0 []:=⟨List.Pairwise.nil,fun x=>by simp,fun x h=>(by cases h),fun x h=>(by cases h)⟩
theorem drop_head {a:List α} {i:Nat} (h:i < a.length):a[i]∈a.drop i:=by rw [List.drop_eq_getElem_cons h];exact List.mem_cons_self ..
theorem ris_drop {a:List α} (h:Ris cmp a) {i:Nat} (hi:i < a.length):∀y∈a.drop (i+1),cmp a[i] y < 0:=by
 have h1:Ris cmp (a.drop i):=List.Pairwise.sublist (List.drop_sublist i a) h
 rw [List.drop_eq_getElem_cons hi] at h1
 exact(List.pairwise_cons.1 h1).1
theorem Mrg.skip {a b:List α} {i k:Nat} {out:List α} (h:Mrg cmp a b i k out) (hi:i < a.length) (hx:a[i]∈out):Mrg cmp a b (i+1) k out:=by
 refine⟨h.s,fun x=>?_,fun x h1 y h2=>h.la x h1 y (by rw [List.drop_eq_getElem_cons hi];exact List.mem_cons_of_mem _ h2),h.lb⟩
 rw [List.take_add_one,List.getElem?_eq_getElem hi]
 simp only [Option.toList_some,List.mem_append,List.mem_singleton]
 constructor
 ·intro h1
  rcases(h.m x).1 h1 with h2|h2
  ·exact .inl (.inl h2)
  exact .inr h2
 rintro ((h1 | rfl) | h1)
 ·exact(h.m x).2 (.inl h1)
 ·exact hx
 exact(h.m x).2 (.inr h1)
theorem Mrg.push (T:TotalCmp cmp) {a b:List α} (ha:Ris cmp a) {i k:Nat} {out:List α} (h:Mrg cmp a b i k out) (hi:i < a.length) (hb:∀y∈b.drop k,cmp a[i] y≤0) (hx:∀y,out.getLast? = some y→y≠a[i]):Mrg cmp a b (i+1) k (out ++ [a[i]]):=by
 have hle:∀z∈out,cmp z a[i]≤0:=fun z hz=>h.la z hz _ (drop_head hi)
 have hlt:∀z∈out,cmp z a[i] < 0:=by
  intro z hz
  by_cases e:cmp z a[i]=0
  ·have e2 := T.zero.1 e
   obtain⟨ys,y,hy⟩:∃ys y,out=ys ++ [y]:=by
    rcases List.eq_nil_or_concat out with h0|⟨ys,y,h0⟩
    ·rw [h0] at hz;cases hz
    exact⟨ys,y,by rw [h0,List.concat_eq_append]⟩
   have h1:=hx y (by rw [hy];simp)
   rw [hy] at hz
   rcases List.mem_append.1 hz with hz|hz
   ·have h2 : Ris cmp (ys ++ [y]) := hy ▸ h.s
    have h3:=(List.pairwise_append.1 h2).2.2 z hz y (List.mem_singleton.2 rfl)
    have h4:=hle y (by rw [hy];simp)
    rw [e2] at h3
    have:=T.anti a[i] y
    omega
   rw [List.mem_singleton] at hz
   exact absurd (hz.symm.trans e2) h1
  have := hle z hz
  omega
 refine⟨List.pairwise_append.2 ⟨h.s,List.pairwise_singleton _ _,fun z hz y hy=>by rw [List.mem_singleton.1 hy];exact hlt z hz⟩,fun x=>?_,fun x h1 y h2=>?_,fun x h1 y h2=>?_⟩
 ·rw [List.take_add_one, List.getElem?_eq_getElem hi]
  simp only [Option.toList_some,List.mem_append,List.mem_singleton]
  rw [h.m x]
  constructor
  ·rintro ((h1 | h1) | h1)
   ·exact .inl (.inl h1)
   ·exact .inr h1
   exact .inl (.inr h1)
  rintro ((h1 | h1) | h1)
  ·exact .inl (.inl h1)
  ·exact .inr h1
  exact .inl (.inr h1)
 ·rcases List.mem_append.1 h1 with h1 | h1
  ·exact h.la x h1 y (by rw [List.drop_eq_getElem_cons hi];exact List.mem_cons_of_mem _ h2)
  rw [List.mem_singleton.1 h1]
  have:=ris_drop ha hi y h2
  omega
 rcases List.mem_append.1 h1 with h1 | h1
 ·exact h.lb x h1 y h2
 rw [List.mem_singleton.1 h1]
 exact hb y h2
theorem Mrg.done (T:TotalCmp cmp) {l:List α} {h:Nat} {out:List α} (hm:Mrg cmp (onceC cmp (l.take h)) (onceC cmp (l.drop h)) (onceC cmp (l.take h)).length (onceC cmp (l.drop h)).length out):out=onceC cmp l:=by
 refine T.unique hm.s (T.once_sorted l) (fun x=>?_)
 rw [hm.m,List.take_of_length_le (Nat.le_refl _),List.take_of_length_le (Nat.le_refl _),T.mem_once,T.mem_once,T.mem_once,←List.mem_append,List.take_append_drop]
theorem once_lenle (T:TotalCmp cmp) (l:List α):(onceC cmp l).length≤l.length:=by
 have ins:∀(m:List α) (x:α),(insC cmp m x).length≤m.length+1:=by
  intro m x
  induction m with
  | nil=>simp [insC]
  | cons y m ih=>
   simp only [insC]
   split
   ·simp
   split
   ·simp
   simp only [List.length_cons];omega
 have go:∀(l m:List α),(l.foldl (insC cmp) m).length≤m.length+l.length:=by
  intro l
  induction l with
  | nil=>intro m;simp
  | cons x l ih=>
   intro m
   have h1:=ih (insC cmp m x)
   have h2:=ins m x
   simp only [List.foldl_cons,List.length_cons]
   omega
 have:=go l []
 simpa [onceC] using this
theorem Mrg.len {a b:List α} {i k:Nat} {out:List α} (T:TotalCmp cmp) (h:Mrg cmp a b i k out):out.length≤i+k:=by
 have hn:out.Nodup:=List.Pairwise.imp (fun {x y} hxy e=>by subst e;have:=T.self x;omega) h.s
 have h1:out.length≤(a.take i ++ b.take k).length:=List.Nodup.length_le_of_subset hn (fun x hx=>by rw [List.mem_append];exact(h.m x).1 hx)
 rw [List.length_append,List.length_take,List.length_take] at h1
 omega
end
end Go.Proofs.Ytjkhdldgmkkhjaa.M
end
section
namespace Go.Proofs.Ytjkhdldgmkkhjaa.P
open Go.RowKit Go.Proofs.YtjkhdldgmkkhjaaW.PrintWords Go.Proofs.YtjkhdldgmkkhjaaW.PrintLast Go.Proofs.YtjkhdldgmkkhjaaW.PrintMore Go.Proofs.Ytjkhdldgmkkhjaa.M
structure OutR (w wO:World) (go:Nat) (N G:Value) (v2 v3 v4 v5 v6:Value) (r2 r3:List Int) (r4:List TOpen) (r5:List TClose) (r6:List TInner):Prop where
 b:Below wO.heap.size wO w
 gin:wO.heap.size≤go
 t:w.heap[go]? = some (.cells #[N,G,v2,v3,v4,v5,v6] 30 (0,0))
 r2:Kd.R (Kd.int .i64) 3 w wO.heap.size (fun k=>some k=v2.ownBlock) v2 r2
 r3:Kd.R (Kd.int .i64) 3 w wO.heap.size (fun k=>some k=v3.ownBlock) v3 r3
 r4:Kd.R k52 52 w wO.heap.size (fun k=>some k=v4.ownBlock) v4 r4
 r5:Kd.R k54 54 w wO.heap.size (fun k=>some k=v5.ownBlock) v5 r5
 r6:Kd.R k56 56 w wO.heap.size (fun k=>some k=v6.ownBlock) v6 r6
 ne:∀k,some k=v2.ownBlock→some k≠v3.ownBlock
section
variable {w w' wO : World} {go : Nat} {N G v2 v3 v4 v5 v6 v' : Value} {r2 r3 : List Int} {r4 : List TOpen} {r5 : List TClose} {r6 : List TInner}
theorem OutR.below (h:OutR w wO go N G v2 v3 v4 v5 v6 r2 r3 r4 r5 r6) (hb:Below w.heap.size w w'):OutR w' wO go N G v2 v3 v4 v5 v6 r2 r3 r4 r5 r6:=
 ⟨below_then h.b h.b.size hb,h.gin,blk_below h.t hb,Kd.R_below h.r2 hb,Kd.R_below h.r3 hb,Kd.R_below h.r4 hb,Kd.R_below h.r5 hb,Kd.R_below h.r6 hb,h.ne⟩
theorem OutR.made (hb:Below wO.heap.size wO w) (hg:wO.heap.size≤go) (ht:w.heap[go]? = some (.cells #[N,G,.slice none 0 0,.slice none 0 0,.slice none 0 0,.slice none 0 0,.slice none 0 0] 30 (0,0))):OutR w wO go N G (.slice none 0 0) (.slice none 0 0) (.slice none 0 0) (.slice none 0 0) (.slice none 0 0) [] [] [] [] []:=
 ⟨hb,hg,ht,Kd.R_nil _ _ _ _ _,Kd.R_nil _ _ _ _ _,Kd.R_nil _ _ _ _ _,Kd.R_nil _ _ _ _ _,Kd.R_nil _ _ _ _ _,fun k h=>by cases h⟩
theorem OutR.app2 {p:Int} {ok:Nat→Prop} (h:OutR w wO go N G v2 v3 v4 v5 v6 r2 r3 r4 r5 r6) (hr:Kd.R (Kd.int .i64) 3 w' wO.heap.size ok v' (r2 ++ [p])) (hb:Below wO.heap.size wO w') (hg:w.grownBy w' v2.ownBlock) (hat:v'.ownBlock=v2.ownBlock∨∃b,v'.ownBlock=some b∧w.heap.size≤b):OutR (w'.setCell ⟨go,2,none⟩ v') wO go N G v' v3 v4 v5 v6 (r2 ++ [p]) r3 r4 r5 r6:=
 ⟨hb.setCell h.gin _,h.gin,blk_put (blk_grown h.t hg (Kd.R_ne h.r2 h.t (by decide))) 2 v' rfl,Kd.R_far (Kd.R_tight rfl hr) (fun k hk e=>Kd.R_ne hr (blk_grown h.t hg (Kd.R_ne h.r2 h.t (by decide))) (by decide) (by rw [←hk];exact congrArg some e.symm)) _,(let hz:=Kd.R_grown h.r3 hg (fun k hk e=>h.ne k e hk);Kd.R_far hz (fun k hk e=>Kd.R_ne hz (blk_grown h.t hg (Kd.R_ne h.r2 h.t (by decide))) (by decide) (by rw [←hk];exact congrArg some e.symm)) _),(let hz:=Kd.R_over' h.r4 (Kd.R_typed h.r2) (by intro q hq;rcases List.mem_cons.1 hq with rfl|hq;decide;cases hq) hg;Kd.R_far hz (fun k hk e=>Kd.R_ne hz (blk_grown h.t hg (Kd.R_ne h.r2 h.t (by decide))) (by decide) (by rw [←hk];exact congrArg some e.symm)) _),(let hz:=Kd.R_over' h.r5 (Kd.R_typed h.r2) (by intro q hq;rcases List.mem_cons.1 hq with rfl|hq;decide;cases hq) hg;Kd.R_far hz (fun k hk e=>Kd.R_ne hz (blk_grown h.t hg (Kd.R_ne h.r2 h.t (by decide))) (by decide) (by rw [←hk];exact congrArg some e.symm)) _),(let hz:=Kd.R_over' h.r6 (Kd.R_typed h.r2) (by intro q hq;rcases List.mem_cons.1 hq with rfl|hq;decide;cases hq) hg;Kd.R_far hz (fun k hk e=>Kd.R_ne hz (blk_grown h.t hg (Kd.R_ne h.r2 h.t (by decide))) (by decide) (by rw [←hk];exact congrArg some e.symm)) _),fun k hk e=>by
  rcases hat with ha|⟨b,ha,hb2⟩
  ·exact h.ne k (by rw [←ha];exact hk) e
  rw [ha] at hk
  cases hk
  have:=Kd.R_lt h.r3 k e.symm
  omega⟩
theorem OutR.app3 {p:Int} {ok:Nat→Prop} (h:OutR w wO go N G v2 v3 v4 v5 v6 r2 r3 r4 r5 r6) (hr:Kd.R (Kd.int .i64) 3 w' wO.heap.size ok v' (r3 ++ [p])) (hb:Below wO.heap.size wO w') (hg:w.grownBy w' v3.ownBlock) (hat:v'.ownBlock=v3.ownBlock∨∃b,v'.ownBlock=some b∧w.heap.size≤b):OutR (w'.setCell ⟨go,3,none⟩ v') wO go N G v2 v' v4 v5 v6 r2 (r3 ++ [p]) r4 r5 r6:=
 ⟨hb.setCell h.gin _,h.gin,blk_put (blk_grown h.t hg (Kd.R_ne h.r3 h.t (by decide))) 3 v' rfl,(let hz:=Kd.R_grown h.r2 hg (fun k hk e=>h.ne k hk e);Kd.R_far hz (fun k hk e=>Kd.R_ne hz (blk_grown h.t hg (Kd.R_ne h.r3 h.t (by decide))) (by decide) (by rw [←hk];exact congrArg some e.symm)) _),Kd.R_far (Kd.R_tight rfl hr) (fun k hk e=>Kd.R_ne hr (blk_grown h.t hg (Kd.R_ne h.r3 h.t (by decide))) (by decide) (by rw [←hk];exact congrArg some e.symm)) _,(let hz:=Kd.R_over' h.r4 (Kd.R_typed h.r3) (by intro q hq;rcases List.mem_cons.1 hq with rfl|hq;decide;cases hq) hg;Kd.R_far hz (fun k hk e=>Kd.R_ne hz (blk_grown h.t hg (Kd.R_ne h.r3 h.t (by decide))) (by decide) (by rw [←hk];exact congrArg some e.symm)) _),(let hz:=Kd.R_over' h.r5 (Kd.R_typed h.r3) (by intro q hq;rcases List.mem_cons.1 hq with rfl|hq;decide;cases hq) hg;Kd.R_far hz (fun k hk e=>Kd.R_ne hz (blk_grown h.t hg (Kd.R_ne h.r3 h.t (by decide))) (by decide) (by rw [←hk];exact congrArg some e.symm)) _),(let hz:=Kd.R_over' h.r6 (Kd.R_typed h.r3) (by intro q hq;rcases List.mem_cons.1 hq with rfl|hq;decide;cases hq) hg;Kd.R_far hz (fun k hk e=>Kd.R_ne hz (blk_grown h.t hg (Kd.R_ne h.r3 h.t (by decide))) (by decide) (by rw [←hk];exact congrArg some e.symm)) _),fun k e hk=>by
  rcases hat with ha|⟨b,ha,hb2⟩
  ·exact h.ne k e (by rw [←ha];exact hk)
  rw [ha] at hk
  cases hk
  have:=Kd.R_lt h.r2 k e.symm
  omega⟩
theorem OutR.app4 {p:TOpen} {ok:Nat→Prop} (h:OutR w wO go N G v2 v3 v4 v5 v6 r2 r3 r4 r5 r6) (hr:Kd.R k52 52 w' wO.heap.size ok v' (r4 ++ [p])) (hb:Below wO.heap.size wO w') (hg:w.grownBy w' v4.ownBlock) (hat:v'.ownBlock=v4.ownBlock∨∃b,v'.ownBlock=some b∧w.heap.size≤b):OutR (w'.setCell ⟨go,4,none⟩ v') wO go N G v2 v3 v' v5 v6 r2 r3 (r4 ++ [p]) r5 r6:=
 ⟨hb.setCell h.gin _,h.gin,blk_put (blk_grown h.t hg (Kd.R_ne h.r4 h.t (by decide))) 4 v' rfl,(let hz:=Kd.R_over' h.r2 (Kd.R_typed h.r4) (by intro q hq;rcases List.mem_cons.1 hq with rfl|hq;decide;cases hq) hg;Kd.R_far hz (fun k hk e=>Kd.R_ne hz (blk_grown h.t hg (Kd.R_ne h.r4 h.t (by decide))) (by decide) (by rw [←hk];exact congrArg some e.symm)) _),(let hz:=Kd.R_over' h.r3 (Kd.R_typed h.r4) (by intro q hq;rcases List.mem_cons.1 hq with rfl|hq;decide;cases hq) hg;Kd.R_far hz (fun k hk e=>Kd.R_ne hz (blk_grown h.t hg (Kd.R_ne h.r4 h.t (by decide))) (by decide) (by rw [←hk];exact congrArg some e.symm)) _),Kd.R_far (Kd.R_tight rfl hr) (fun k hk e=>Kd.R_ne hr (blk_grown h.t hg (Kd.R_ne h.r4 h.t (by decide))) (by decide) (by rw [←hk];exact congrArg some e.symm)) _,(let hz:=Kd.R_over' h.r5 (Kd.R_typed h.r4) (by intro q hq;rcases List.mem_cons.1 hq with rfl|hq;decide;cases hq) hg;Kd.R_far hz (fun k hk e=>Kd.R_ne hz (blk_grown h.t hg (Kd.R_ne h.r4 h.t (by decide))) (by decide) (by rw [←hk];exact congrArg some e.symm)) _),(let hz:=Kd.R_over' h.r6 (Kd.R_typed h.r4) (by intro q hq;rcases List.mem_cons.1 hq with rfl|hq;decide;cases hq) hg;Kd.R_far hz (fun k hk e=>Kd.R_ne hz (blk_grown h.t hg (Kd.R_ne h.r4 h.t (by decide))) (by decide) (by rw [←hk];exact congrArg some e.symm)) _),h.ne⟩
theorem OutR.app5 {p:TClose} {ok:Nat→Prop} (h:OutR w wO go N G v2 v3 v4 v5 v6 r2 r3 r4 r5 r6) (hr:Kd.R k54 54 w' wO.heap.size ok v' (r5 ++ [p])) (hb:Below wO.heap.size wO w') (hg:w.grownBy w' v5.ownBlock) (hat:v'.ownBlock=v5.ownBlock∨∃b,v'.ownBlock=some b∧w.heap.size≤b):OutR (w'.setCell ⟨go,5,none⟩ v') wO go N G v2 v3 v4 v' v6 r2 r3 r4 (r5 ++ [p]) r6:=
 ⟨hb.setCell h.gin _,h.gin,blk_put (blk_grown h.t hg (Kd.R_ne h.r5 h.t (by decide))) 5 v' rfl,(let hz:=Kd.R_over' h.r2 (Kd.R_typed h.r5) (by intro q hq;rcases List.mem_cons.1 hq with rfl|hq;decide;cases hq) hg;Kd.R_far hz (fun k hk e=>Kd.R_ne hz (blk_grown h.t hg (Kd.R_ne h.r5 h.t (by decide))) (by decide) (by rw [←hk];exact congrArg some e.symm)) _),(let hz:=Kd.R_over' h.r3 (Kd.R_typed h.r5) (by intro q hq;rcases List.mem_cons.1 hq with rfl|hq;decide;cases hq) hg;Kd.R_far hz (fun k hk e=>Kd.R_ne hz (blk_grown h.t hg (Kd.R_ne h.r5 h.t (by decide))) (by decide) (by rw [←hk];exact congrArg some e.symm)) _),(let hz:=Kd.R_over' h.r4 (Kd.R_typed h.r5) (by intro q hq;rcases List.mem_cons.1 hq with rfl|hq;decide;cases hq) hg;Kd.R_far hz (fun k hk e=>Kd.R_ne hz (blk_grown h.t hg (Kd.R_ne h.r5 h.t (by decide))) (by decide) (by rw [←hk];exact congrArg some e.symm)) _),Kd.R_far (Kd.R_tight rfl hr) (fun k hk e=>Kd.R_ne hr (blk_grown h.t hg (Kd.R_ne h.r5 h.t (by decide))) (by decide) (by rw [←hk];exact congrArg some e.symm)) _,(let hz:=Kd.R_over' h.r6 (Kd.R_typed h.r5) (by intro q hq;rcases List.mem_cons.1 hq with rfl|hq;decide;cases hq) hg;Kd.R_far hz (fun k hk e=>Kd.R_ne hz (blk_grown h.t hg (Kd.R_ne h.r5 h.t (by decide))) (by decide) (by rw [←hk];exact congrArg some e.symm)) _),h.ne⟩
theorem OutR.app6 {p:TInner} {ok:Nat→Prop} (h:OutR w wO go N G v2 v3 v4 v5 v6 r2 r3 r4 r5 r6) (hr:Kd.R k56 56 w' wO.heap.size ok v' (r6 ++ [p])) (hb:Below wO.heap.size wO w') (hg:w.grownBy w' v6.ownBlock) (hat:v'.ownBlock=v6.ownBlock∨∃b,v'.ownBlock=some b∧w.heap.size≤b):OutR (w'.setCell ⟨go,6,none⟩ v') wO go N G v2 v3 v4 v5 v' r2 r3 r4 r5 (r6 ++ [p]):=
 ⟨hb.setCell h.gin _,h.gin,blk_put (blk_grown h.t hg (Kd.R_ne h.r6 h.t (by decide))) 6 v' rfl,(let hz:=Kd.R_over' h.r2 (Kd.R_typed h.r6) (by intro q hq;rcases List.mem_cons.1 hq with rfl|hq;decide;cases hq) hg;Kd.R_far hz (fun k hk e=>Kd.R_ne hz (blk_grown h.t hg (Kd.R_ne h.r6 h.t (by decide))) (by decide) (by rw [←hk];exact congrArg some e.symm)) _),(let hz:=Kd.R_over' h.r3 (Kd.R_typed h.r6) (by intro q hq;rcases List.mem_cons.1 hq with rfl|hq;decide;cases hq) hg;Kd.R_far hz (fun k hk e=>Kd.R_ne hz (blk_grown h.t hg (Kd.R_ne h.r6 h.t (by decide))) (by decide) (by rw [←hk];exact congrArg some e.symm)) _),(let hz:=Kd.R_over' h.r4 (Kd.R_typed h.r6) (by intro q hq;rcases List.mem_cons.1 hq with rfl|hq;decide;cases hq) hg;Kd.R_far hz (fun k hk e=>Kd.R_ne hz (blk_grown h.t hg (Kd.R_ne h.r6 h.t (by decide))) (by decide) (by rw [←hk];exact congrArg some e.symm)) _),(let hz:=Kd.R_over' h.r5 (Kd.R_typed h.r6) (by intro q hq;rcases List.mem_cons.1 hq with rfl|hq;decide;cases hq) hg;Kd.R_far hz (fun k hk e=>Kd.R_ne hz (blk_grown h.t hg (Kd.R_ne h.r6 h.t (by decide))) (by decide) (by rw [←hk];exact congrArg some e.symm)) _),Kd.R_far (Kd.R_tight rfl hr) (fun k hk e=>Kd.R_ne hr (blk_grown h.t hg (Kd.R_ne h.r6 h.t (by decide))) (by decide) (by rw [←hk];exact congrArg some e.symm)) _,h.ne⟩
end
structure OutV (w:World) (B:Nat) (v2 v3 v4 v5 v6:Value) (r2 r3:List Int) (r4:List TOpen) (r5:List TClose) (r6:List TInner):Prop where
 r2:Kd.R (Kd.int .i64) 3 w B (fun k=>some k=v2.ownBlock) v2 r2
 r3:Kd.R (Kd.int .i64) 3 w B (fun k=>some k=v3.ownBlock) v3 r3
 r4:Kd.R k52 52 w B (fun k=>some k=v4.ownBlock) v4 r4
 r5:Kd.R k54 54 w B (fun k=>some k=v5.ownBlock) v5 r5
 r6:Kd.R k56 56 w B (fun k=>some k=v6.ownBlock) v6 r6
 ne:∀k,some k=v2.ownBlock→some k≠v3.ownBlock
section
variable {w w' wO : World} {go B B' : Nat} {N G v2 v3 v4 v5 v6 : Value} {r2 r3 : List Int} {r4 : List TOpen} {r5 : List TClose} {r6 : List TInner}
theorem OutV.of_R (h:OutR w wO go N G v2 v3 v4 v5 v6 r2 r3 r4 r5 r6):OutV w wO.heap.size v2 v3 v4 v5 v6 r2 r3 r4 r5 r6:=⟨h.r2,h.r3,h.r4,h.r5,h.r6,h.ne⟩
theorem OutV.set (h:OutV w B v2 v3 v4 v5 v6 r2 r3 r4 r5 r6) {p:Addr} (hp:p.block < B) (u:Value):OutV (w.setCell p u) B v2 v3 v4 v5 v6 r2 r3 r4 r5 r6:=
 ⟨Kd.R_far h.r2 (fun k hk e=>by have:=Kd.R_base h.r2 k hk.symm;omega) _,Kd.R_far h.r3 (fun k hk e=>by have:=Kd.R_base h.r3 k hk.symm;omega) _,Kd.R_far h.r4 (fun k hk e=>by have:=Kd.R_base h.r4 k hk.symm;omega) _,Kd.R_far h.r5 (fun k hk e=>by have:=Kd.R_base h.r5 k hk.symm;omega) _,Kd.R_far h.r6 (fun k hk e=>by have:=Kd.R_base h.r6 k hk.symm;omega) _,h.ne⟩
theorem OutV.lower (h:OutV w B v2 v3 v4 v5 v6 r2 r3 r4 r5 r6) (hb:B'≤B):OutV w B' v2 v3 v4 v5 v6 r2 r3 r4 r5 r6:=⟨Kd.R_lower h.r2 hb,Kd.R_lower h.r3 hb,Kd.R_lower h.r4 hb,Kd.R_lower h.r5 hb,Kd.R_lower h.r6 hb,h.ne⟩
theorem OutV.below (h:OutV w B v2 v3 v4 v5 v6 r2 r3 r4 r5 r6) (hb:Below w.heap.size w w'):OutV w' B v2 v3 v4 v5 v6 r2 r3 r4 r5 r6:=⟨Kd.R_below h.r2 hb,Kd.R_below h.r3 hb,Kd.R_below h.r4 hb,Kd.R_below h.r5 hb,Kd.R_below h.r6 hb,h.ne⟩
end
theorem below_setCells7g {w w1:World} {v0 v1 v2 v3 v4 v5 v6:Value} {g:Nat} (h:Below w.heap.size w w1) (hg:w.heap.size≤g):Below w.heap.size w (((((((w1.setCell ⟨g,0,none⟩ v0).setCell ⟨g,1,none⟩ v1).setCell ⟨g,2,none⟩ v2).setCell ⟨g,3,none⟩ v3).setCell ⟨g,4,none⟩ v4).setCell ⟨g,5,none⟩ v5).setCell ⟨g,6,none⟩ v6):=
 ((((((h.setCell hg _).setCell hg _).setCell hg _).setCell hg _).setCell hg _).setCell hg _).setCell hg _
end Go.Proofs.Ytjkhdldgmkkhjaa.P
end
section
namespace Go.Proofs.Ytjkhdldgmkkhjaa.P
open Go.RowKit Go.Sort Go.Shelf Go.Proofs.YtjkhdldgmkkhjaaW.PrintWords Go.Proofs.YtjkhdldgmkkhjaaW.PrintLast Go.Proofs.YtjkhdldgmkkhjaaW.PrintMore Go.Proofs.Ytjkhdldgmkkhjaa.M
def encE (p:TAt × Value):List Value:=[.int .i64 p.1.f0,p.2]
def Stk (w:World) (base:Nat) (p:TAt × Value):Prop:=(Kd.int .i64).R 3 w base (fun _=>True) p.2 p.1.f1∧p.1.f1.length≤1000000000
def Lone (p q:TAt × Value):Prop:=∀k,p.2.ownBlock=some k→q.2.ownBlock≠some k
def AtRow (w:World) (base:Nat) (v:Value) (es:List (TAt × Value)):Prop:=
 w.ownsRow base 48 2 v es.length (es.flatMap encE)∧(∀p∈es,Stk w base p)∧es.Pairwise Lone
theorem Lone.symm {p q:TAt × Value} (h:Lone p q):Lone q p:=fun k hk e=>h k e hk
theorem stk_types {w:World} {base:Nat} {p:TAt × Value} (h:Stk w base p) {g:Nat} {cs:Array Value} (hg:w.heap[g]? = some (.cells cs 48 (0,0))) {w' : World} (hw:w.grownBy w' (some g)):Stk w' base p:=
 ⟨Kd.R_mono (Kd.R_step (Kd.R_types h.1 hg (fun q hq=>by simp [Kd.int,Kd.scalar] at hq;subst hq;decide)) (fun k hk hlt=>hw.block k hlt (nes hk.2))) (fun _ hk=>hk.1),h.2⟩
theorem stk_none {w w' : World} {base:Nat} {p:TAt × Value} (h:Stk w base p) (hw:w.grownBy w' none):Stk w' base p:=⟨Kd.R_step h.1 (fun k _ hlt=>hw.block k hlt nen),h.2⟩
theorem stk_one {w w' : World} {base:Nat} {p:TAt × Value} (h:Stk w base p) (hw:Below w.heap.size w w'):Stk w' base p:=⟨Kd.R_below h.1 hw,h.2⟩
theorem row_block {w:World} {base e size n cap:Nat} {ad:Addr} {xs:List Value} (h:w.ownsRow base e size (.slice (some ad) n cap) n xs):∃g cur,ad=⟨g,0,none⟩∧base≤g∧w.heap[g]? = some (.cells cur e (0,0))∧n≤cap∧cap≤maxLen∧cur.size=cap*size∧cur.toList.take (n*size)=xs:=by
 rcases h.2 with ⟨h1,_⟩|⟨g,c,cur,h1,h2,h3,h4,h5,h6,h7⟩
 ·cases h1
 cases h1;exact⟨g,cur,rfl,h2,h3,h4,h5,h6,h7⟩
theorem one_val {w:World} {base:Nat} {v:Value} {xs:List Int} (h:(Kd.int .i64).R 3 w base (fun _=>True) v xs):v.oneCell' = true:=by
 obtain⟨A,c,rfl⟩:=Kd.R_slice h
 rfl
theorem sort_at (w:World) (base g n cap:Nat) (es:List (TAt × Value)) (hn:n=es.length) (hne:es≠[]) (hl:es.length≤1000000000) (h:AtRow w base (.slice (some ⟨g,0,none⟩) n cap) es) :
 Calls Try.prog 46 #[.slice (some ⟨g,0,none⟩) n cap,.func (.func 47) #[] #[]] w fun e w'=>e=.returned (.tuple #[])∧
  ∃es',es'.Perm es∧es'.Pairwise (fun p q=>¬cmpAt q.1 p.1 < 0)∧AtRow w' base (.slice (some ⟨g,0,none⟩) n cap) es'∧w.grownBy w' (some g):=by
 subst hn
 obtain⟨ho,hs,ha⟩:=h
 obtain⟨g',cur,hg',hb,hg,hnc,hcm,hsz,htk⟩:=row_block ho
 cases hg'
 have eg:∀args w,(callFunc 47 args).run Try.prog w=.ok (.enter 47 args) w:=enters_of Try.func47 (by kernel_rfl) rfl
 obtain⟨p0,hp0⟩:=List.exists_mem_of_ne_nil es hne
 haveI:Inhabited { p // p∈es }:=⟨⟨p0,hp0⟩⟩
 let enc : { p // p∈es }→List Value:=fun p=>encE p.1
 have hk:∀x,(enc x).length=2:=fun _=>rfl
 let d:Array { p // p∈es }:=es.attach.toArray
 have hd:d.size=es.length:=by simp [d]
 have hflat:d.toList.flatMap enc=es.flatMap encE:=by
  show (es.attach.toArray.toList).flatMap (fun p=>encE p.1)=_
  simp
 have hH:HoldsK enc 2 w g 0 d:=holds_of_own hk hd (by rw [hflat];exact ho)
 let cf : { p // p∈es }→{ p // p∈es }→Int:=fun p q=>cmpAt p.1.1 q.1.1
 have hT:TotalCmp cmpAt:=totalAt
 have hO:SWO (ltOf cf):=⟨fun x=>(hT.swo).irrefl _,fun x y z=>(hT.swo).trans _ _ _,fun x y z=>(hT.swo).ntrans _ _ _⟩
 have hcmp:CmpLays Try.prog 47 #[] enc 2 cf g 0 d.size w:=by
  intro m os dk hdk x y
  have hgb:=(own_sorted (enc:=enc) hk (d':=dk) (by rw [hdk,hd]) m os ho).2
  have sx:=stk_types (hs x.1 x.2) hg hgb
  have sy:=stk_types (hs y.1 y.2) hg hgb
  obtain⟨A,ca,ea,la,ra⟩:=Kd.R_reads sx.1
  obtain⟨B,cb,eb,lb,rb⟩:=Kd.R_reads sy.1
  have:=order_calls x.1.1.f0 A ca x.1.1.f1 y.1.1.f0 B cb y.1.1.f1 _ ra la rb lb sx.2
  show Calls Try.prog _ #[.agg #[.int .i64 x.1.1.f0,x.1.2],.agg #[.int .i64 y.1.1.f0,y.1.2]] _ _
  rw [ea,eb]
  exact this.mono fun e w' ⟨he,q,os',hw⟩=>⟨he,q,os',hw⟩
 have hcon:=AnyQ.slices_SortFunc Try.sortAt 2 Try.isAgg48 Try.sizeOf48 enc hk (fun x v hv=>by
  simp [enc,encE] at hv
  rcases hv with rfl|rfl
  ·rfl
  exact one_val (hs x.1 x.2).1) cf hO 47 #[] g 0 cap d w eg hcmp hH (Array.getElem?_eq_some_iff.1 hg).1 (by rw [hd];omega)
 rw [hd] at hcon
 refine hcon.mono ?_
 rintro e w' ⟨he,d',m,os,hp,hso,rfl⟩
 have hd' : d'.size=es.length:=hp.1.trans hd
 obtain⟨o1,o2⟩:=own_sorted (enc:=enc) hk (d':=d') hd' m os ho
 have hperm:(d'.toList.map (·.1)).Perm es:=by
  have h1:=hp.2.2
  rw [Array.extract_eq_self_of_le (by omega),Array.extract_eq_self_of_le (by omega)] at h1
  have h2:=h1.map (·.1)
  have:d.toList.map (·.1)=es:=by
   show (es.attach.toArray.toList).map (·.1)=es
   simp only [List.toList_toArray]
   exact List.attach_map_subtype_val es
  rw [this] at h2
  exact h2
 refine⟨he,d'.toList.map (·.1),hperm,?_,⟨?_,?_,?_⟩,o2⟩
 ·rw [List.pairwise_map, List.pairwise_iff_getElem]
  intro i j hi hj hij
  have:=hso i j (Nat.zero_le _) hij (by simpa [hd'] using hj)
  rw [getElem!_pos d' j (by simpa using hj),getElem!_pos d' i (by simpa using hi)] at this
  simpa [ltOf,cf] using this
 ·rw [hperm.length_eq]
  have:(d'.toList.map (·.1)).flatMap encE=d'.toList.flatMap enc:=by rw [List.flatMap_map]
  rw [this];exact o1
 ·intro p hp'
  exact stk_types (hs p (hperm.mem_iff.1 hp')) hg o2
 exact hperm.symm.pairwise ha (fun {x y} h=>Lone.symm h)
end Go.Proofs.Ytjkhdldgmkkhjaa.P
end
section
namespace Go.Proofs.Ytjkhdldgmkkhjaa.P
open Go.RowKit Go.Sort Go.Shelf Go.Proofs.YtjkhdldgmkkhjaaW.PrintWords Go.Proofs.YtjkhdldgmkkhjaaW.PrintLast Go.Proofs.YtjkhdldgmkkhjaaW.PrintMore Go.Proofs.Ytjkhdldgmkkhjaa.M
set_option maxHeartbeats 4000000 in
theorem once1_calls (x y:TAt) (u v:Value) (base1 base2:Nat) (w:World) (hx:(Kd.int .i64).R 3 w base1 (fun _=>True) u x.f1) (hy:(Kd.int .i64).R 3 w base2 (fun _=>True) v y.f1) (hl:x.f1.length≤1000000000) :
 Calls Try.prog 49 #[.agg #[.int .i64 x.f0,u],.agg #[.int .i64 y.f0,v]] w fun e w'=>e=.returned (.bool (decide (cmpAt x y=0)))∧GD w w':=by
 have HX:=Aside0.mk hx
 have HY:=Aside0.mk hy
 have HL:=Aside0.mk hl
 clear hx hy hl
 obtain⟨A,ca,rfl⟩:=Kd.R_slice HX.out
 obtain⟨B,cb,rfl⟩:=Kd.R_slice HY.out
 go_enter Try.func49,Try.ntmps49
 go_wp2_with (go_at_call 47;go_loud (refine(order_calls x.f0 A ca x.f1 y.f0 B cb y.f1 _ ?c1 ?c2 ?c3 ?c4 HL.out).mono ?_);(case c1=>obtain⟨_,_,e,_,h⟩:=Kd.R_reads (Kd.R_alloc (Kd.R_alloc HX.out _) _);cases e;exact h);(case c2=>obtain⟨_,_,e,h,_⟩:=Kd.R_reads HX.out;cases e;exact h);(case c3=>obtain⟨_,_,e,_,h⟩:=Kd.R_reads (Kd.R_alloc (Kd.R_alloc HY.out _) _);cases e;exact h);(case c4=>obtain⟨_,_,e,h,_⟩:=Kd.R_reads HY.out;cases e;exact h);rintro e w' ⟨rfl,hw⟩;have HW:=Aside0.mk hw;clear hw)
 go_ret
 refine⟨?_,GD.trans ((GD.refl _).alloc _ |>.alloc _) HW.out⟩
 congr 2
theorem goesV_ {P : Program} {ops : Array Oper} {Q : Exit → Act → World → Prop} {oi : Oper} {N : Option Tmp} {a : Act} {w : World} {K : Act → World → Prop} {f : FuncId} {fn : Func} {ags : Array Operand} {ts : Array TypeId} {o : Operand} (hf : P.funcs[f]? = some fn) (hname : (fn.name == "runtime.NumGoroutine") = false) (hb : fn.body.isSome = true) (args : Array Value)
 (hw:Region.wanted oi (yielded ops a.tmps)=true) (hN:oi.dst=N) (hop:oi.op=.call { callee:=.value o,args:=ags,argTypes:=ts }) (hv:a.eval o=.func (.func f) #[] #[]) (hargs:ags.map a.eval=args)
 (h:Calls P f args w fun e w'=>∃v,e=.returned v∧K (a.put N v) w'):if Region.wanted oi (yielded ops a.tmps)=true then Oper.wp P oi a w K Q else K (a.put N undef) w:=by
 refine call_ f args hw hN ?_ h
 have he:=enters_ hf hname hb args w
 unfold execOp
 simp [hop,resolve,Deferred.ofValue,invoke,hv,hargs,he]
def eqAt (p q:TAt × Value):Bool:=decide (cmpAt p.1 q.1=0)
theorem hkE:∀p:TAt × Value,(encE p).length=2:=fun _=>rfl
set_option maxHeartbeats 8000000 in
set_option maxRecDepth 100000 in
theorem compact_at (w:World) (base g n cap:Nat) (es:List (TAt × Value)) (hn:n=es.length) (hl:es.length≤1000000000) (h:AtRow w base (.slice (some ⟨g,0,none⟩) n cap) es) :
 Calls Try.prog 48 #[.slice (some ⟨g,0,none⟩) n cap,.func (.func 49) #[] #[]] w fun e w'=>e=.returned (.slice (some ⟨g,0,none⟩) (dd eqAt es).length cap)∧
  AtRow w' base (.slice (some ⟨g,0,none⟩) (dd eqAt es).length cap) (dd eqAt es)∧w.grownBy w' (some g):=by
 subst hn
 obtain⟨ho,hs,ha⟩:=h
 obtain⟨hh,hb,hc⟩:=Has2.of_own rfl ho
 obtain⟨cur0,hg0,_⟩:=id hh
 have HH:=Aside0.mk hh
 have HO:=Aside0.mk ho
 have HS:=Aside0.mk hs
 have HA:=Aside0.mk ha
 have HG0:=Aside0.mk hg0
 have hcap:=hh
 obtain⟨_,_,_,hcap,_⟩:=hcap
 have HC:=Aside0.mk (And.intro hb (And.intro hc (And.intro hl hcap)))
 have same:Aside0 (∀w',GD w w'→dd eqAt es=es→AtRow w' base (.slice (some ⟨g,0,none⟩) (dd eqAt es).length cap) (dd eqAt es)∧w.grownBy w' (some g)):=⟨fun w' hw he=>by
  rw [he]
  refine⟨⟨(HH.out.move (hw.below.block g HH.out.lt)).own hkE HC.out.1 HC.out.2.1,fun p hp=>stk_one (HS.out p hp) hw.below,HA.out⟩,?_⟩
  have b:=hw.below
  exact⟨b.os,b.tape,b.output,b.size,fun k hk _=>b.block k hk⟩⟩
 clear ho hs ha hh hb hc hg0 hcap
 by_cases h2:es.length < 2
 ·have d2 : decide ((es.length : Int) < 2) = true := decide_eq_true (by omega)
  have hone:=Aside0.mk (dd_one eqAt es (by omega))
  clear h2 hl
  go_enter Try.func48,Try.ntmps48
  go_wp2
  go_ret
  have:=same.out w (GD.refl w) hone.out
  exact⟨by rw [hone.out];rfl,this.1,this.2⟩
 have d2 : decide ((es.length : Int) < 2) = false := decide_eq_false (by omega)
 clear hl
 go_enter Try.func48,Try.ntmps48
 go_wp2
 go_loopg [5] es.length (fun gq v5 w'=>∃i:Nat,v5=.int .i64 ((i:Int)+1)∧Aside0 (i+1≤es.length∧es.length - (i+1)≤gq)∧Aside0 (dd eqAt (es.take (i+1))=es.take (i+1))∧Aside0 (GD w w'))
 case atStart=>exact⟨0,rfl,⟨by omega,by omega⟩,⟨dd_one _ _ (by simp;omega)⟩,⟨GD.refl w⟩⟩
 case' round=>skip
 obtain⟨i,rfl,Hi,Hd,Hg⟩:=hrel
 by_cases hlt:i+1 < es.length
 ·have d3 : decide ((i : Int) + 1 < (es.length : Int)) = true := decide_eq_true (by omega)
  have t1:=eq_true (show (0:Int)≤(i:Int)+1 by omega)
  have t2:=eq_true (show (i:Int)+1 < (es.length:Int) by omega)
  have t3:=eq_true (show (0:Int)≤(i:Int) by omega)
  have t4:=eq_true (show (i:Int) < (es.length:Int) by omega)
  have wr1:wrap64 (i:Int)=(i:Int):=by have:=HC.out.2.2.1;unfold wrap64;omega
  have HL:=Aside0.mk hlt
  have HHr:=HH.out.move (Hg.out.below.block g HH.out.lt)
  obtain⟨c0,c1⟩:=HHr.cell hkE (i+1) hlt (a:=.int .i64 es[i+1].1.f0) (b:=es[i+1].2) rfl
  obtain⟨c2,c3⟩:=HHr.cell hkE i (by omega) (a:=.int .i64 (es[i]'(by omega)).1.f0) (b:=(es[i]'(by omega)).2) rfl
  clear HHr h2
  have Sx:=Aside0.mk (stk_one (HS.out _ (List.getElem_mem hlt)) Hg.out.below)
  have Sy:=Aside0.mk (stk_one (HS.out _ (List.getElem_mem (show i < es.length by omega))) Hg.out.below)
  have Hn:=Aside0.mk (dd_next eqAt es (i+1) (by omega) hlt)
  simp only [Nat.add_sub_cancel] at Hn
  obtain⟨x,hx⟩:∃x,x=es[i+1]:=⟨_,rfl⟩
  rw [←hx] at c0 c1 Sx Hn
  have Hx:Aside0 (es[i+1]? = some x):=⟨by rw [hx];exact List.getElem?_eq_getElem hlt⟩
  clear hx
  generalize es[i]'(by omega)=y at c2 c3 Sy Hn
  clear hlt
  obtain⟨⟨x0,x1⟩,xv⟩:=x
  obtain⟨⟨y0,y1⟩,yv⟩:=y
  obtain⟨Ax,cx,ex⟩:=Kd.R_slice Sx.out.1
  obtain⟨Ay,cy,ey⟩:=Kd.R_slice Sy.out.1
  replace ex:xv=.slice Ax x1.length cx:=ex
  replace ey:yv=.slice Ay y1.length cy:=ey
  subst ex
  subst ey
  go_wp2
  refine start_ (n:=11) (S:=fun w'=>w'.cell? ⟨g,(i+1)*2,none⟩=some (.int .i64 x0)∧w'.cell? ⟨g,(i+1)*2+1,none⟩=some (.slice Ax x1.length cx)∧w'.cell? ⟨g,i*2,none⟩=some (.int .i64 y0)∧w'.cell? ⟨g,i*2+1,none⟩=some (.slice Ay y1.length cy)) (ds:=[10]) #[false,false,false,false,false,false,false,false,false,false,false] (by kernel_rfl) rfl rfl ⟨c0,c1,c2,c3⟩ (fun hHeld=>?_)
  refine pure_ (i:=0) (N:=(some 18)) (v:=?_) (a':=?_) #[true,false,false,false,false,false,false,false,false,false,false] rfl rfl (by kernel_rfl) (fun _ _ _ h=>h) (Or.inl ⟨by rfl,?_⟩) ?_ ?_
  rotate_left
  ·intro w'
   go_simp
   with_reducible rfl
  rotate_left
  ·simp only [Act.put, M.sq3, i64_w, i32_w]
   rfl
  refine pure_ (i:=1) (N:=(some 19)) (v:=?_) (a':=?_) #[true,true,false,false,false,false,false,false,false,false,false] rfl rfl (by kernel_rfl) (fun _ _ _ h=>h) (Or.inl ⟨by rfl,?_⟩) ?_ ?_
  rotate_left
  ·intro w'
   go_simp
   with_reducible rfl
  rotate_left
  ·simp only [Act.put, M.sq3, i64_w, i32_w]
   rfl
  refine pure_ (i:=2) (N:=(some 20)) (v:=?_) (a':=?_) #[true,true,true,false,false,false,false,false,false,false,false] rfl rfl (by kernel_rfl) (fun _ _ _ h=>h) (Or.inl ⟨by rfl,?_⟩) ?_ ?_
  rotate_left
  ·intro w'
   go_simp
   with_reducible rfl
  rotate_left
  ·simp only [Act.put, M.sq3, i64_w, i32_w]
   rfl
  refine pure_ (i:=5) (N:=(some 23)) (v:=?_) (a':=?_) #[true,true,true,false,false,true,false,false,false,false,false] rfl rfl (by kernel_rfl) (fun _ _ _ h=>h) (Or.inl ⟨by rfl,?_⟩) ?_ ?_
  rotate_left
  ·intro w'
   go_simp
   with_reducible rfl
  rotate_left
  ·simp only [Act.put, M.sq3, i64_w, i32_w]
   rfl
  refine pure_ (i:=6) (N:=(some 24)) (v:=?_) (a':=?_) #[true,true,true,false,false,true,true,false,false,false,false] rfl rfl (by kernel_rfl) (fun _ _ _ h=>h) (Or.inl ⟨by rfl,?_⟩) ?_ ?_
  rotate_left
  ·intro w'
   go_simp
   with_reducible rfl
  rotate_left
  ·simp only [Act.put, M.sq3, i64_w, i32_w]
   rfl
  refine pure_ (i:=3) (N:=(some 21)) (v:=?_) (a':=?_) #[true,true,true,true,false,true,true,false,false,false,false] rfl rfl (by kernel_rfl) (fun _ _ _ h=>h) (Or.inl ⟨by rfl,?_⟩) ?_ ?_
  rotate_left
  ·intro w'
   go_simp
   with_reducible rfl
  rotate_left
  ·simp only [Act.put, M.sq3, i64_w, i32_w]
   rfl
  refine pure_ (i:=7) (N:=(some 25)) (v:=?_) (a':=?_) #[true,true,true,true,false,true,true,true,false,false,false] rfl rfl (by kernel_rfl) (fun _ _ _ h=>h) (Or.inl ⟨by rfl,?_⟩) ?_ ?_
  rotate_left
  ·intro w'
   go_simp
   with_reducible rfl
  rotate_left
  ·simp only [Act.put, M.sq3, i64_w, i32_w]
   rfl
  refine pure_ (i:=8) (N:=(some 26)) (v:=?_) (a':=?_) #[true,true,true,true,false,true,true,true,true,false,false] rfl rfl (by kernel_rfl) (fun _ _ _ h=>h) (Or.inl ⟨by rfl,?_⟩) ?_ ?_
  rotate_left
  ·intro w'
   go_simp
   with_reducible rfl
  rotate_left
  ·simp only [Act.put, M.sq3, i64_w, i32_w]
   rfl
  refine take_ (i:=4) (N:=(some 22)) (v:=?_) (a':=?_) #[true,true,true,true,true,true,true,true,true,false,false] rfl rfl (by kernel_rfl) (fun _ _ _ h=>h) (Or.inl ⟨by rfl,?_⟩) hHeld ?_ ?_
  rotate_left
  ·intro w' hS_
   obtain⟨s0,s1,s2,s3⟩:=hS_
   go_simp
   with_reducible rfl
  rotate_left
  ·simp only [Act.put, M.sq3, i64_w, i32_w]
   rfl
  refine take_ (i:=9) (N:=(some 27)) (v:=?_) (a':=?_) #[true,true,true,true,true,true,true,true,true,true,false] rfl rfl (by kernel_rfl) (fun _ _ _ h=>h) (Or.inl ⟨by rfl,?_⟩) hHeld ?_ ?_
  rotate_left
  ·intro w' hS_
   obtain⟨s0,s1,s2,s3⟩:=hS_
   go_simp
   with_reducible rfl
  rotate_left
  ·simp only [Act.put, M.sq3, i64_w, i32_w]
   rfl
  refine last_ (i:=10) (N:=(some 28)) #[true,true,true,true,true,true,true,true,true,true,true] rfl rfl (by kernel_rfl) (by decide) (fun K hK=>?_)
  refine goesV_ (o:=.tmp 18) (ags:=#[.tmp 22,.tmp 27]) Try.func49 (by kernel_rfl) rfl #[.agg #[.int .i64 x0,.slice Ax x1.length cx],.agg #[.int .i64 y0,.slice Ay y1.length cy]] rfl rfl rfl rfl (by(try simp only [List.map_toArray,List.map_cons,List.map_nil]);rfl) ?_
  refine(once1_calls ⟨x0,x1⟩ ⟨y0,y1⟩ (.slice Ax x1.length cx) (.slice Ay y1.length cy) base base wr.drew (Kd.R_step Sx.out.1 (fun _ _ _=>rfl)) (Kd.R_step Sy.out.1 (fun _ _ _=>rfl)) Sx.out.2).mono ?_
  rintro e w3 ⟨rfl,hw⟩
  have Hw:=Aside0.mk (Hg.out.drew.trans hw)
  clear hw
  refine⟨_,rfl,?_⟩
  refine hK.out _ _ ?_
  clear hK K
  refine norm_ (a':=?_) ?_ ?_
  rotate_left
  ·show Act.put _ (some 28) _ = _
   simp only [Act.put,M.sq3,i64_w,i32_w]
   rfl
  refine done_ (by kernel_rfl) ?_
  have HX:=Aside0.mk (And.intro Sx.out.2 Sy.out.2)
  clear Sx Sy c0 c1 c2 c3 hHeld
  have Hc:Aside0 ((eqAt ({ f0:=x0,f1:=x1 },.slice Ax x1.length cx) ({ f0:=y0,f1:=y1 },.slice Ay y1.length cy))=decide (cmpAt { f0:=x0,f1:=x1 } { f0:=y0,f1:=y1 } = 0)):=⟨rfl⟩
  generalize decide (cmpAt { f0:=x0,f1:=x1 } { f0:=y0,f1:=y1 } = 0)=bb at Hc ⊢
  cases bb with
  | false=>
   go_wp2
   go_roundg (es.length - (i+2))
   case measure=>have:=Hi.out;have:=HL.out;omega
   case rel=>exact⟨i+1,by have:=HC.out.2.2.1;have:=HL.out;rw [show wrap64 ((i:Int)+1+1)=((i+1:Nat):Int)+1 by unfold wrap64;omega],⟨HL.out,Nat.le_refl _⟩,⟨by rw [Hn.out,Hd.out,Hc.out,if_neg (by decide),List.take_add_one (i:=i+1),Hx.out];rfl⟩,Hw⟩
  | true=>
   have q1:(cap=i+1)=False:=eq_false (by have:=HL.out;have:=HC.out.2.2.2;omega)
   have q2:=eq_true (show (i:Int)+1≤(es.length:Int) by have:=HL.out;omega)
   go_wp2
   clear q1 q2 t1 t2 t3 t4 wr1 d3
   generalize hL2:es.length - (i+1)=L2
   generalize hC2:cap - (i+1)=C2
   have HL2:=Aside0.mk (And.intro hL2 hC2)
   clear hL2 hC2
   obtain⟨wo,rfl⟩:∃wo:World,wo=w3:=⟨_,rfl⟩
   go_loopg [5,7] es.length (fun gq v5 v7 w'=>∃(kk j:Nat) (rows:List (TAt × Value)),v5=.int .i64 (kk:Int)∧v7=.int .i64 ((j:Int)+1)∧Aside0 (j+1≤L2∧L2 - (j+1)≤gq∧1≤kk∧kk≤i+1+j∧kk=(dd eqAt (es.take (i+1+j+1))).length)∧Aside0 (Has2 encE w' g 48 cap rows)∧
    Aside0 (rows.length=es.length∧rows.take kk=dd eqAt (es.take (i+1+j+1))∧rows.drop (i+1+j)=es.drop (i+1+j))∧Aside0 (w.grownBy w' (some g)))
   case atStart=>
    have e1:dd eqAt (es.take (i+1+1))=es.take (i+1):=by rw [Hn.out,Hd.out,Hc.out,if_pos rfl,List.append_nil]
    have b:=Hw.out.below
    have:=HL.out
    exact⟨i+1,0,es,by push_cast;rfl,rfl,⟨by have:=HL2.out.1;omega,by have:=HL2.out.1;omega,by omega,by omega,by simp only [Nat.add_zero];rw [e1];simp;omega⟩,⟨HH.out.move (b.block g HH.out.lt)⟩,⟨rfl,by simp only [Nat.add_zero];rw [e1],rfl⟩,⟨b.os,b.tape,b.output,b.size,fun k hk _=>b.block k hk⟩⟩
   case' round=>skip
   obtain⟨kk,j,rows,rfl,rfl,Hj,HM,Hr,Hgb⟩:=hrel
   by_cases hlt:j+1 < L2
   ·have d4 : decide ((j : Int) + 1 < (L2 : Int)) = true := decide_eq_true (by omega)
    have t1:=eq_true (show (0:Int)≤(j:Int)+1 by omega)
    have t2:=eq_true (show (j:Int)+1 < (L2:Int) by omega)
    have t3:=eq_true (show (0:Int)≤(j:Int) by omega)
    have t4:=eq_true (show (j:Int) < (L2:Int) by omega)
    have wr1:wrap64 (j:Int)=(j:Int):=by have:=HC.out.2.2.1;have:=HL2.out.1;unfold wrap64;omega
    have HL3:=Aside0.mk hlt
    have hp:i+1+(j+1) < es.length:=by have:=HL2.out.1;omega
    have hpr:i+1+(j+1) < rows.length:=by rw [Hr.out.1];exact hp
    have e1:rows[i+1+(j+1)]=es[i+1+(j+1)]:=by
     have h1:(rows.drop (i+1+j))[1]? = rows[i+1+(j+1)]?:=List.getElem?_drop
     have h2:(es.drop (i+1+j))[1]? = es[i+1+(j+1)]?:=List.getElem?_drop
     rw [Hr.out.2.2,h2,List.getElem?_eq_getElem hp,List.getElem?_eq_getElem hpr] at h1
     exact(Option.some.inj h1).symm
    have e2:rows[i+1+j]'(by omega)=es[i+1+j]'(by omega):=by
     have h1:=List.getElem?_drop (xs:=rows) (i:=i+1+j) (j:=0)
     have h2:=List.getElem?_drop (xs:=es) (i:=i+1+j) (j:=0)
     rw [Hr.out.2.2,h2,Nat.add_zero,List.getElem?_eq_getElem (by omega),List.getElem?_eq_getElem (by omega)] at h1
     exact(Option.some.inj h1).symm
    obtain⟨c0,c1⟩:=HM.out.cell hkE (i+1+(j+1)) hpr (a:=.int .i64 es[i+1+(j+1)].1.f0) (b:=es[i+1+(j+1)].2) (by rw [e1];rfl)
    obtain⟨c2,c3⟩:=HM.out.cell hkE (i+1+j) (by omega) (a:=.int .i64 (es[i+1+j]'(by omega)).1.f0) (b:=(es[i+1+j]'(by omega)).2) (by rw [e2];rfl)
    rw [show (i+1+(j+1))*2=(i+1)*2+(j+1)*2 by omega] at c0 c1
    rw [show (i+1+j)*2=(i+1)*2+j*2 by omega] at c2 c3
    have Sx:=Aside0.mk (stk_types (HS.out _ (List.getElem_mem hp)) HG0.out Hgb.out)
    have Sy:=Aside0.mk (stk_types (HS.out _ (List.getElem_mem (show i+1+j < es.length by omega))) HG0.out Hgb.out)
    have Hn2:=Aside0.mk (dd_next eqAt es (i+1+(j+1)) (by omega) hp)
    simp only [show i+1+(j+1) - 1=i+1+j by omega] at Hn2
    obtain⟨x,hx⟩:∃x,x=es[i+1+(j+1)]:=⟨_,rfl⟩
    rw [←hx] at c0 c1 Sx Hn2
    have Hx2:Aside0 (es[i+1+(j+1)]? = some x):=⟨by rw [hx];exact List.getElem?_eq_getElem hp⟩
    generalize es[i+1+j]'(by omega)=y at c2 c3 Sy Hn2
    have HxR:Aside0 (∃h:i+1+(j+1) < rows.length,rows[i+1+(j+1)]=x):=⟨hpr,e1.trans hx.symm⟩
    clear hlt e1 e2 hx hp hpr
    obtain⟨⟨u0,u1⟩,xv⟩:=x
    obtain⟨⟨v0,v1⟩,yv⟩:=y
    obtain⟨Au,cu,ex⟩:=Kd.R_slice Sx.out.1
    obtain⟨Av,cv,ey⟩:=Kd.R_slice Sy.out.1
    replace ex:xv=.slice Au u1.length cu:=ex
    replace ey:yv=.slice Av v1.length cv:=ey
    subst ex
    subst ey
    go_wp2
    refine start_ (n:=12) (S:=fun w'=>w'.cell? ⟨g,(i+1)*2+(j+1)*2,none⟩=some (.int .i64 u0)∧w'.cell? ⟨g,(i+1)*2+(j+1)*2+1,none⟩=some (.slice Au u1.length cu)∧w'.cell? ⟨g,(i+1)*2+j*2,none⟩=some (.int .i64 v0)∧w'.cell? ⟨g,(i+1)*2+j*2+1,none⟩=some (.slice Av v1.length cv)) (ds:=[10]) #[false,false,false,false,false,false,false,false,false,false,false,false] (by kernel_rfl) rfl rfl ⟨c0,c1,c2,c3⟩ (fun hHeld=>?_)
    refine pure_ (i:=0) (N:=(some 38)) (v:=?_) (a':=?_) #[true,false,false,false,false,false,false,false,false,false,false,false] rfl rfl (by kernel_rfl) (fun _ _ _ h=>h) (Or.inl ⟨by rfl,?_⟩) ?_ ?_
    rotate_left
    ·intro w'
     go_simp
     with_reducible rfl
    rotate_left
    ·simp only [Act.put, M.sq3, i64_w, i32_w]
     rfl
    refine pure_ (i:=1) (N:=(some 39)) (v:=?_) (a':=?_) #[true,true,false,false,false,false,false,false,false,false,false,false] rfl rfl (by kernel_rfl) (fun _ _ _ h=>h) (Or.inl ⟨by rfl,?_⟩) ?_ ?_
    rotate_left
    ·intro w'
     go_simp
     with_reducible rfl
    rotate_left
    ·simp only [Act.put, M.sq3, i64_w, i32_w]
     rfl
    refine pure_ (i:=2) (N:=(some 40)) (v:=?_) (a':=?_) #[true,true,true,false,false,false,false,false,false,false,false,false] rfl rfl (by kernel_rfl) (fun _ _ _ h=>h) (Or.inl ⟨by rfl,?_⟩) ?_ ?_
    rotate_left
    ·intro w'
     go_simp
     with_reducible rfl
    rotate_left
    ·simp only [Act.put, M.sq3, i64_w, i32_w]
     rfl
    refine pure_ (i:=5) (N:=(some 43)) (v:=?_) (a':=?_) #[true,true,true,false,false,true,false,false,false,false,false,false] rfl rfl (by kernel_rfl) (fun _ _ _ h=>h) (Or.inl ⟨by rfl,?_⟩) ?_ ?_
    rotate_left
    ·intro w'
     go_simp
     with_reducible rfl
    rotate_left
    ·simp only [Act.put, M.sq3, i64_w, i32_w]
     rfl
    refine pure_ (i:=6) (N:=(some 44)) (v:=?_) (a':=?_) #[true,true,true,false,false,true,true,false,false,false,false,false] rfl rfl (by kernel_rfl) (fun _ _ _ h=>h) (Or.inl ⟨by rfl,?_⟩) ?_ ?_
    rotate_left
    ·intro w'
     go_simp
     with_reducible rfl
    rotate_left
    ·simp only [Act.put, M.sq3, i64_w, i32_w]
     rfl
    refine pure_ (i:=3) (N:=(some 41)) (v:=?_) (a':=?_) #[true,true,true,true,false,true,true,false,false,false,false,false] rfl rfl (by kernel_rfl) (fun _ _ _ h=>h) (Or.inl ⟨by rfl,?_⟩) ?_ ?_
    rotate_left
    ·intro w'
     go_simp
     with_reducible rfl
    rotate_left
    ·simp only [Act.put, M.sq3, i64_w, i32_w]
     rfl
    refine pure_ (i:=7) (N:=(some 45)) (v:=?_) (a':=?_) #[true,true,true,true,false,true,true,true,false,false,false,false] rfl rfl (by kernel_rfl) (fun _ _ _ h=>h) (Or.inl ⟨by rfl,?_⟩) ?_ ?_
    rotate_left
    ·intro w'
     go_simp
     with_reducible rfl
    rotate_left
    ·simp only [Act.put, M.sq3, i64_w, i32_w]
     rfl
    refine pure_ (i:=8) (N:=(some 46)) (v:=?_) (a':=?_) #[true,true,true,true,false,true,true,true,true,false,false,false] rfl rfl (by kernel_rfl) (fun _ _ _ h=>h) (Or.inl ⟨by rfl,?_⟩) ?_ ?_
    rotate_left
    ·intro w'
     go_simp
     with_reducible rfl
    rotate_left
    ·simp only [Act.put, M.sq3, i64_w, i32_w]
     rfl
    refine take_ (i:=4) (N:=(some 42)) (v:=?_) (a':=?_) #[true,true,true,true,true,true,true,true,true,false,false,false] rfl rfl (by kernel_rfl) (fun _ _ _ h=>h) (Or.inl ⟨by rfl,?_⟩) hHeld ?_ ?_
    rotate_left
    ·intro w' hS_
     obtain⟨s0,s1,s2,s3⟩:=hS_
     go_simp
     with_reducible rfl
    rotate_left
    ·simp only [Act.put, M.sq3, i64_w, i32_w]
     rfl
    refine take_ (i:=9) (N:=(some 47)) (v:=?_) (a':=?_) #[true,true,true,true,true,true,true,true,true,true,false,false] rfl rfl (by kernel_rfl) (fun _ _ _ h=>h) (Or.inl ⟨by rfl,?_⟩) hHeld ?_ ?_
    rotate_left
    ·intro w' hS_
     obtain⟨s0,s1,s2,s3⟩:=hS_
     go_simp
     with_reducible rfl
    rotate_left
    ·simp only [Act.put, M.sq3, i64_w, i32_w]
     rfl
    refine last_ (i:=10) (N:=(some 48)) #[true,true,true,true,true,true,true,true,true,true,true,false] rfl rfl (by kernel_rfl) (by decide) (fun K hK=>?_)
    refine goesV_ (o:=.tmp 38) (ags:=#[.tmp 42,.tmp 47]) Try.func49 (by kernel_rfl) rfl #[.agg #[.int .i64 u0,.slice Au u1.length cu],.agg #[.int .i64 v0,.slice Av v1.length cv]] rfl rfl rfl rfl (by(try simp only [List.map_toArray,List.map_cons,List.map_nil]);rfl) ?_
    refine(once1_calls ⟨u0,u1⟩ ⟨v0,v1⟩ (.slice Au u1.length cu) (.slice Av v1.length cv) base base wr.drew (Kd.R_step Sx.out.1 (fun _ _ _=>rfl)) (Kd.R_step Sy.out.1 (fun _ _ _=>rfl)) Sx.out.2).mono ?_
    rintro e w4 ⟨rfl,hw⟩
    have hw4:=(GD.refl wr).drew.trans hw
    have HB4:=Aside0.mk hw4.below
    have Hgb4:=Aside0.mk (gb_trans Hgb.out (⟨hw4.below.os,hw4.below.tape,hw4.below.output,hw4.below.size,fun k hk _=>hw4.below.block k hk⟩:wr.grownBy w4 (some g)))
    have HM4:=Aside0.mk (HM.out.move (hw4.below.block g HM.out.lt))
    clear hw hw4
    refine⟨_,rfl,?_⟩
    refine hK.out _ _ ?_
    clear hK K
    refine norm_ (a':=?_) ?_ ?_
    rotate_left
    ·show Act.put _ (some 48) _ = _
     simp only [Act.put,M.sq3,i64_w,i32_w]
     rfl
    refine pure_ (i:=11) (N:=(some 49)) (v:=?_) (a':=?_) #[true,true,true,true,true,true,true,true,true,true,true,true] rfl rfl (by kernel_rfl) (fun _ _ _ h=>h) (Or.inl ⟨by rfl,?_⟩) ?_ ?_
    rotate_left
    ·intro w'
     go_simp
     with_reducible rfl
    rotate_left
    ·simp only [Act.put, M.sq3, i64_w, i32_w]
     rfl
    refine done_ (by kernel_rfl) ?_
    have HX2:=Aside0.mk (And.intro Sx.out.2 Sy.out.2)
    clear Sx Sy c0 c1 c2 c3 hHeld
    have Hc2:Aside0 ((eqAt ({ f0:=u0,f1:=u1 },.slice Au u1.length cu) ({ f0:=v0,f1:=v1 },.slice Av v1.length cv))=decide (cmpAt { f0:=u0,f1:=u1 } { f0:=v0,f1:=v1 } = 0)):=⟨rfl⟩
    generalize decide (cmpAt { f0:=u0,f1:=u1 } { f0:=v0,f1:=v1 } = 0)=b2 at Hc2 ⊢
    have Hlen:=Aside0.mk (show (dd eqAt (es.take (i+1+(j+1)+1))).length=kk+if b2=true then 0 else 1 by rw [Hn2.out,List.length_append,Hj.out.2.2.2.2,Hc2.out];cases b2<;>rfl)
    cases b2 with
    | true=>
     go_wp2
     go_roundg (L2 - (j+2))
     case measure=>have:=Hj.out;have:=HL3.out;omega
     case rel=>exact⟨kk,j+1,rows,rfl,by have:=HC.out.2.2.1;have:=HL3.out;have:=HL2.out.1;rw [show wrap64 ((j:Int)+1+1)=((j+1:Nat):Int)+1 by unfold wrap64;omega],⟨HL3.out,Nat.le_refl _,Hj.out.2.2.1,by have:=Hj.out;omega,Hlen.out.symm⟩,HM4,⟨Hr.out.1,by rw [show i+1+(j+1)+1=i+1+(j+1)+1 from rfl,Hn2.out,Hc2.out,if_pos rfl,List.append_nil];exact Hr.out.2.1,by
      have:=congrArg (List.drop 1) Hr.out.2.2
      rw [List.drop_drop,List.drop_drop] at this
      exact this⟩,Hgb4⟩
    | false=>
     obtain⟨hpr,e1⟩:=HxR.out
     obtain⟨c0,c1⟩:=HM4.out.cell hkE (i+1+(j+1)) hpr (a:=.int .i64 u0) (b:=.slice Au u1.length cu) (by rw [e1];rfl)
     rw [show (i+1+(j+1))*2=(i+1)*2+(j+1)*2 by omega] at c0 c1
     have hkr:kk < rows.length:=by have:=Hj.out;omega
     obtain⟨c2,c3⟩:=HM4.out.cell hkE kk hkr (a:=.int .i64 (rows[kk]).1.f0) (b:=(rows[kk]).2) rfl
     generalize (rows[kk]).1.f0=old0 at c2
     generalize (rows[kk]).2=old1 at c3
     have f2:=HM4.out.frozen (kk*2)
     have f3:=HM4.out.frozen (kk*2+1)
     have t5:=eq_true (show (kk:Int) < (es.length:Int) by have:=Hr.out.1;omega)
     have hkk:=Aside0.mk hkr
     clear hpr e1 hkr
     go_wp2
     go_roundg (L2 - (j+2))
     case measure=>have:=Hj.out;have:=HL3.out;omega
     case' rel=>skip
     have q1:=Hj.out
     have q2:=HC.out.2.2.1
     have q3:=HL3.out
     have q4:=HL2.out.1
     refine⟨kk+1,j+1,rows.set kk ({ f0:=u0,f1:=u1 },.slice Au u1.length cu),by rw [show wrap64 ((kk:Int)+1)=((kk+1:Nat):Int) by unfold wrap64;omega],by rw [show wrap64 ((j:Int)+1+1)=((j+1:Nat):Int)+1 by unfold wrap64;omega],⟨HL3.out,Nat.le_refl _,by omega,by omega,Hlen.out.symm⟩,⟨HM4.out.set hkE kk hkk.out _ rfl⟩,⟨by rw [List.length_set];exact Hr.out.1,?_,?_⟩,⟨gb_trans Hgb4.out (gb_setCells [_,_] (kk*2) w4)⟩⟩
     ·rw [take_set_next _ _ _ hkk.out,Hr.out.2.1,Hn2.out,Hc2.out,if_neg (by decide)];rfl
     rw [List.drop_set_of_lt (by omega)]
     have:=congrArg (List.drop 1) Hr.out.2.2
     rw [List.drop_drop,List.drop_drop] at this
     exact this
   have d4 : decide ((j : Int) + 1 < (L2 : Int)) = false := decide_eq_false (by omega)
   have hend:i+1+j+1=es.length:=by have:=Hj.out;have:=HL2.out.1;have:=HL.out;omega
   have hk:=Aside0.mk (And.intro Hj.out.2.2.2.2 Hr.out.2.1)
   rw [hend,List.take_length] at hk
   have hkn:kk < es.length:=by have:=Hj.out;omega
   have hcp:=HC.out.2.2.2
   obtain⟨vs,hcl⟩:=run_clear2 (P:=Try.prog) wr 33 48 (.agg #[.int .i64 0,.slice none 0 0]) (.int .i64 0) (.slice none 0 0) Try.underlying33 Try.zeroValue48 rfl rfl rfl g (kk*2) (es.length - kk) (cap - kk) (by omega) (fun j hj=>HM.out.has _ (by omega)) (fun j hj=>HM.out.frozen _)
   have t1:=eq_true (show (kk:Int)≤(es.length:Int) by omega)
   have t2:=eq_true (show kk≤cap by omega)
   have t3:(cap=kk)=False:=eq_false (by omega)
   have t4:=eq_true (show (kk:Int)≤(cap:Int) by omega)
   clear hlt hend hkn hcp
   go_wp2
   have hf:=HM.out.cut hkE kk vs
   rw [hk.out.2] at hf
   have hgb:=gb_trans Hgb.out (gb_setCells (g:=g) vs (kk*2) wr)
   go_ret
   refine⟨by rw [←hk.out.1];rfl,⟨hf.own hkE HC.out.1 HC.out.2.1,fun p hp=>stk_types (HS.out p ((dd_sub eqAt es).subset hp)) HG0.out hgb,HA.out.sublist (dd_sub eqAt es)⟩,hgb⟩
 have d3 : decide ((i : Int) + 1 < (es.length : Int)) = false := decide_eq_false (by omega)
 have He:Aside0 (dd eqAt es=es):=⟨by have:=Hi.out.1;have h:=Hd.out;rw [List.take_of_length_le (by omega)] at h;exact h⟩
 clear hlt
 go_wp2
 go_ret
 have:=same.out wr Hg.out He.out
 exact⟨by rw [He.out];rfl,this.1,this.2⟩
end Go.Proofs.Ytjkhdldgmkkhjaa.P
end
section
namespace Go.Proofs.Ytjkhdldgmkkhjaa.P
open Go.RowKit Go.Sort Go.Shelf Go.Proofs.YtjkhdldgmkkhjaaW.PrintWords Go.Proofs.YtjkhdldgmkkhjaaW.PrintLast Go.Proofs.YtjkhdldgmkkhjaaW.PrintMore Go.Proofs.Ytjkhdldgmkkhjaa.M
theorem infoAt:(Try.prog.info? 48).map (fun i=>(i.zero,i.size,i.bytes))=some (some (.agg #[.int .i64 0,.slice none 0 0]),2,32):=by kernel_rfl
theorem own_mono {w:World} {base base' : Nat} {e:TypeId} {size:Nat} {v:Value} {n:Nat} {xs:List Value} (h:w.ownsRow base e size v n xs) (hb:base'≤base):w.ownsRow base' e size v n xs:=by
 refine⟨h.1,?_⟩
 rcases h.2 with h1|⟨g,cap,cur,h1,h2,h3⟩
 ·exact .inl h1
 exact .inr ⟨g,cap,cur,h1,by omega,h3⟩
set_option maxHeartbeats 2000000 in
set_option maxRecDepth 100000 in
theorem clone_at (w:World) (base g n cap:Nat) (es:List (TAt × Value)) (hn:n=es.length) (hl:es.length≤1000000000) (h:AtRow w base (.slice (some ⟨g,0,none⟩) n cap) es) :
 Calls Try.prog 50 #[.slice (some ⟨g,0,none⟩) n cap] w fun e w'=>∃v',e=.returned v'∧w'.ownsRow w.heap.size 48 2 v' es.length (es.flatMap encE)∧Below w.heap.size w w':=by
 subst hn
 obtain⟨i0,hi,hz0,hz1,hz2⟩:=info_parts infoAt
 have q22:∀(w:World) (a:Option Addr) (n c n' c' : Nat),(binOp .eql 33 (.slice a n c) (.slice none n' c')).run Try.prog w=.ok (.bool a.isNone) w:=fun w a n c n' c'=>Lib.run_eql_slice_nil w _ _ a n c n' c' Try.underlying33
 obtain⟨ho,hs,ha⟩:=h
 obtain⟨hh,hb,hc⟩:=Has2.of_own rfl ho
 have A:=Aside0.mk ho
 have HL:=Aside0.mk hl
 have HS:=Aside0.mk hs
 have HH:=Aside0.mk hh
 clear ho hs ha hh hb hc hl
 go_enter Try.func50,Try.ntmps50
 go_wp2_with (at_builtin;refine wpList_append_own _ rfl _ _ 33 rfl w.heap.size 48 i0 (.agg #[.int .i64 0,.slice none 0 0]) 2 32 Try.underlying33 hi hz0 hz1 hz2 rfl (by decide) _ _ _ rfl (World.ownsRow_made w #[] 0 (Nat.le_refl _) (Nat.zero_le _) rfl) ⟨g,0,none⟩ es.length cap (es.flatMap encE) rfl ?qc1 ?qc2 ?qc3 ?qc4 ?qc5 ?qc6 ?_)
 case qc1=>exact flat_len hkE es
 case qc2=>
  intro j u hj
  rw [Addr.add_lit]
  refine Lib.cell?_alloc_some _ ?_
  have:=A.out.cells (g:=g) rfl j u hj
  rwa [Addr.add_lit] at this
 case qc3=>
  intro u hu
  obtain⟨x,hx,hx2⟩:=List.mem_flatMap.1 hu
  simp [encE] at hx2
  rcases hx2 with rfl|rfl
  ·rfl
  exact one_val (HS.out x hx).1
 case qc4=>have:=HL.out;unfold maxLen;omega
 case qc5=>have:=HL.out;omega
 case qc6=>simp
 intro v' w1 hown hgrow hnil
 go_wp2
 go_ret
 refine⟨v',rfl,by simpa using hown,?_⟩
 exact((Below.refl _ w).alloc (Nat.le_refl _) _).grown hgrow (by simp) (by intro k hk;simp [Value.ownBlock] at hk;omega)
set_option maxHeartbeats 1000000 in
theorem clone_at_nil (n c:Nat) (w:World) :
 Calls Try.prog 50 #[.slice none n c] w fun e w'=>e=.returned (.slice none 0 0)∧w' = w:=by
 have q22:∀(w:World) (a:Option Addr) (n c n' c' : Nat),(binOp .eql 33 (.slice a n c) (.slice none n' c')).run Try.prog w=.ok (.bool a.isNone) w:=fun w a n c n' c'=>Lib.run_eql_slice_nil w _ _ a n c n' c' Try.underlying33
 go_enter Try.func50,Try.ntmps50
 go_wp2
 go_ret
 exact⟨rfl,rfl⟩
set_option maxHeartbeats 1000000 in
theorem compact_nil (w:World) (f:Value) :
 Calls Try.prog 48 #[.slice none 0 0,f] w fun e w'=>e=.returned (.slice none 0 0)∧w' = w:=by
 go_enter Try.func48,Try.ntmps48
 go_wp2
 go_ret
 exact⟨rfl,rfl⟩
set_option maxHeartbeats 4000000 in
set_option maxRecDepth 100000 in
theorem once_calls (w:World) (base:Nat) (v:Value) (es:List (TAt × Value)) (hv:v=.slice none 0 0∨es≠[]) (hl:es.length≤1000000000) (h:AtRow w base v es) :
 Calls Try.prog 33 #[v] w fun e w'=>∃(v' : Value) (es' : List (TAt × Value)),e=.returned v'∧es'.map (·.1)=onceC cmpAt (es.map (·.1))∧(∀p∈es',p∈es)∧es'.Pairwise Lone∧
  (∀p∈es',Stk w' base p)∧w'.ownsRow w.heap.size 48 2 v' es'.length (es'.flatMap encE)∧w.grownBy w' v.ownBlock:=by
 by_cases hne:es = []
 ·subst hne
  rcases hv with rfl|h0
  ·clear h hl
   go_enter Try.func33,Try.ntmps33
   go_wp2_with (first
    | (go_at_call 46;go_loud (refine(AnyF.slices_SortFunc_none Try.sortAt none 0 _ _).mono ?_;rintro e w' ⟨rfl,rfl⟩))
    | (go_at_call 48;go_loud (refine(compact_nil _ _).mono ?_;rintro e w' ⟨rfl,rfl⟩))
    | (go_at_call 50;go_loud (refine(clone_at_nil 0 0 _).mono ?_;rintro e w' ⟨rfl,rfl⟩)))
   go_ret
   exact⟨_,[],rfl,rfl,by simp,.nil,by simp,World.ownsRow_nil _ _ _ _,gb_refl _ _⟩
  exact absurd rfl h0
 obtain⟨g,cap,hvv⟩:∃g cap,v=.slice (some ⟨g,0,none⟩) es.length cap:=by
  rcases h.1.2 with ⟨h1,h2⟩|⟨g,cap,cur,h1,_⟩
  ·exact absurd (List.length_eq_zero_iff.1 h2) hne
  exact⟨g,cap,h1⟩
 subst hvv
 have HR:=Aside0.mk h
 have HL:=Aside0.mk hl
 have HN:=Aside0.mk hne
 clear h hl hne hv
 go_enter Try.func33,Try.ntmps33
 go_wp2_with (first
  | (go_at_call 46;go_loud (refine(sort_at _ base g es.length cap es rfl HN.out HL.out HR.out).mono ?_;rintro e w1 ⟨rfl,es1,hp1,hs1,hr1,hg1⟩;have Hp1:=Aside0.mk hp1;have Hs1:=Aside0.mk hs1;have Hr1:=Aside0.mk hr1;have Hg1:=Aside0.mk hg1;clear hp1 hs1 hr1 hg1))
  | (go_at_call 48;go_loud (refine(compact_at _ base g es.length cap es1 Hp1.out.length_eq.symm (by rw [Hp1.out.length_eq];exact HL.out) Hr1.out).mono ?_;rintro e w2 ⟨rfl,hr2,hg2⟩;have Hr2:=Aside0.mk hr2;have Hg2:=Aside0.mk hg2;clear hr2 hg2))
  | (go_at_call 50;go_loud (refine(clone_at _ base g _ cap (dd eqAt es1) rfl (by have:=(dd_sub eqAt es1).length_le;have h2:=Hp1.out.length_eq;have:=HL.out;omega) Hr2.out).mono ?_;rintro e w3 ⟨v3,rfl,ho3,hb3⟩;have Ho3:=Aside0.mk ho3;have Hb3:=Aside0.mk hb3;clear ho3 hb3)))
 go_ret
 have hmem:∀p∈dd eqAt es1,p∈es:=fun p hp=>Hp1.out.mem_iff.1 ((dd_sub eqAt es1).subset hp)
 refine⟨v3,dd eqAt es1,rfl,?_,hmem,Hr2.out.2.2,fun p hp=>stk_one (Hr2.out.2.1 p hp) Hb3.out,own_mono Ho3.out ?_,?_⟩
 ·have h1 := dd_map (fun p : TAt × Value => p.1) (fun x y => decide (cmpAt x y = 0)) es1
  refine Eq.trans h1 (totalAt.dd_once ?_ (fun x=>(Hp1.out.map (·.1)).mem_iff))
  rw [List.pairwise_map]
  exact Hs1.out.imp (fun {a b} h=>by omega)
 ·have:=Hg1.out.size;have:=Hg2.out.size;omega
 have b := Hb3.out
 exact gb_trans (gb_trans Hg1.out Hg2.out) ⟨b.os,b.tape,b.output,b.size,fun k hk _=>b.block k hk⟩
end Go.Proofs.Ytjkhdldgmkkhjaa.P
end
section
namespace Go.Proofs.Ytjkhdldgmkkhjaa.P
open Go.RowKit Go.Sort Go.Shelf Go.Proofs.YtjkhdldgmkkhjaaW.PrintWords Go.Proofs.YtjkhdldgmkkhjaaW.PrintLast Go.Proofs.YtjkhdldgmkkhjaaW.PrintMore Go.Proofs.Ytjkhdldgmkkhjaa.M
theorem pack_S {w:World} {base:Nat} {v:Value} {es:List (TAt × Value)} (ho:w.ownsRow base 48 2 v es.length (es.flatMap encE)) (hs:∀p∈es,Stk w base p) (ha:es.Pairwise Lone) :
 Kd.S k48 48 w base (fun _=>True) v (es.map (·.1)):=by
 refine⟨fun k=>es.findIdx (fun p=>decide (p.2.ownBlock=some k)),fun _ _=>trivial,es.flatMap encE,?_,?_⟩
 ·rw [List.length_zipIdx,List.length_map];exact ho
 refine ⟨by rw [flat_len hkE]; simp; rfl, fun j p hj => ?_⟩
 rw [List.getElem?_zipIdx,List.getElem?_map,Nat.zero_add] at hj
 cases hq:es[j]? with
 | none=>rw [hq] at hj;cases hj
 | some q=>
  rw [hq] at hj
  cases hj
  obtain⟨hlt,hq2⟩:=List.getElem?_eq_some_iff.1 hq
  have hst:=hs q (hq2 ▸ List.getElem_mem hlt)
  have hcells:((es.flatMap encE).drop (j*2)).take 2 = [.int .i64 q.1.f0,q.2]:=by
   have h1:=flat_get hkE es j hlt (.int .i64 q.1.f0) q.2 (by rw [hq2];rfl)
   apply List.ext_getElem?
   intro t
   rw [List.getElem?_take,List.getElem?_drop]
   match t with
   | 0=>simpa using h1.1
   | 1=>simpa using h1.2
   | t+2=>rw [if_neg (by omega)];rfl
  show k48.M w base _ q.1 (((es.flatMap encE).drop (j*2)).take 2)
  rw [hcells]
  refine k48_mkM w base _ q.1 ?_
  refine⟨fun k hk=>⟨⟨trivial,fun e=>?_⟩,?_⟩,hst.1.2⟩
  ·obtain ⟨c1, h1⟩ := own_typed ho k e.symm
   obtain⟨inner,h2⟩:=Kd.R_own hst.1
   obtain⟨c2,h3⟩:=own_typed h2 k hk
   rw [h1] at h3
   injection h3 with h3
   injection h3 with _ h3
   exact absurd h3 (by decide)
  show es.findIdx _ = j
  rw [List.findIdx_eq hlt]
  refine⟨by simpa [hq2] using hk,fun i hi=>?_⟩
  have:=List.pairwise_iff_getElem.1 ha i j (by omega) hlt hi
  rw [hq2] at this
  have h4:(es[i]'(by omega)).2.ownBlock≠some k:=fun e=>this k e hk
  simpa using h4
set_option maxHeartbeats 4000000 in
set_option maxRecDepth 100000 in
theorem start_calls (a0 a1:Int) (A2:Option Addr) (c2:Nat) (l2:List Int) (v3 v4 v5 v6:Value) (o3:v3.oneCell' = true) (o4:v4.oneCell' = true) (o5:v5.oneCell' = true) (o6:v6.oneCell' = true) (w:World) (hr:Kd.C (Kd.int .i64) w A2 l2.length l2) (hl:l2.length≤1000000) :
 Calls Try.prog 17 #[.agg #[.int .i64 a0,.int .i64 a1,.slice A2 l2.length c2,v3,v4,v5,v6]] w fun e w'=>∃v0_:Value,e=.returned v0_∧Kd.S k48 48 w' w.heap.size (fun _=>True) v0_ (onceC cmpAt (l2.map fun s=>⟨s,[]⟩))∧Below w.heap.size w w':=by
 have HR:=Aside0.mk hr
 have HL:=Aside0.mk hl
 clear hr hl
 go_enter Try.func17,Try.ntmps17
 go_wp2
 go_loopg [3,9] l2.length (fun gq v3 v9 w'=>∃(i:Nat) (es:List (TAt × Value)),v9=.int .i64 (i:Int)∧Aside0 (i≤l2.length∧l2.length - i≤gq)∧Aside0 (es=(l2.take i).map fun s=>(⟨s,[]⟩,.slice none 0 0))∧Aside0 (w'.ownsRow (w.heap.size+1) 48 2 v3 es.length (es.flatMap encE))∧Aside0 (v3=.slice none 0 0∨es≠[])∧Aside0 (Below w.heap.size w w'∧w.heap.size+1≤w'.heap.size))
 case atStart=>exact⟨0,[],by simp,⟨by omega,by omega⟩,⟨by simp⟩,⟨World.ownsRow_nil _ _ _ _⟩,⟨.inl rfl⟩,⟨by repeat (first|exact Below.refl _ _|apply below_alloc),by simp⟩⟩
 case' round=>skip
 obtain⟨i,es,rfl,Hi,He,Ho,Hv,Hb⟩:=hrel
 by_cases hlt:i < l2.length
 ·have d1 : (i < l2.length) = True := eq_true hlt
  have HRr:=Kd.C_below HR.out Hb.out.1
  obtain⟨ad,e,hc⟩:=Kd.at_int HRr (i:Int) (by omega) (by omega)
  have e0:=e
  subst e0
  have HR2:=Aside0.mk HRr
  clear HRr e
  rw [Int.toNat_natCast] at hc
  have hrd:Aside0 (l2[i]? = some (rd l2 (i:Int))):=⟨by rw [List.getElem?_eq_getElem hlt];show some _=some (l2.getD (i:Int).toNat 0);rw [Int.toNat_natCast,List.getD_eq_getElem?_getD,List.getElem?_eq_getElem hlt];rfl⟩
  generalize rd l2 (i:Int)=s at hc hrd
  have HI:=Aside0.mk hlt
  have t1:=eq_true (show (i:Int) < (l2.length:Int) by omega)
  clear hlt
  obtain⟨i0,hi,hz0,hz1,hz2⟩:=info_parts infoAt
  go_wp2_with (at_builtin;go_loud (refine wpList_append_own _ rfl _ _ 33 rfl (w.heap.size+1) 48 i0 (.agg #[.int .i64 0,.slice none 0 0]) 2 32 Try.underlying33 hi hz0 hz1 hz2 rfl (by decide) _ es.length (es.flatMap encE) rfl (Ho.out.alloc _) ⟨wr.heap.size,0,none⟩ 1 1 [.int .i64 s,.slice none 0 0] rfl rfl ?qc2 ?qc3 ?qc4 ?qc5 ?qc6 ?_))
  case qc2=>
   intro j u hj
   have h:=blk_newAt (w:=wr) (n:=wr.heap.size) (.cells #[.int .i64 s,.slice none 0 0] 48) rfl
   match j with
   | 0=>simp at hj;subst hj;exact(blk_cell h 0).trans rfl
   | 1=>simp at hj;subst hj;exact(blk_cell h 1).trans rfl
   | j+2=>simp at hj
  case qc3=>
   intro u hu
   simp at hu
   rcases hu with rfl|rfl<;>rfl
  case qc4=>have h1:=HL.out;have h2:=He.out;have h3:=Hi.out.1;subst h2;simp;unfold maxLen;omega
  case qc5=>have h1:=HL.out;have h2:=He.out;have h3:=Hi.out.1;subst h2;simp;omega
  case qc6=>have:=Hb.out.2;simp;omega
  intro v' w1 hown hgrow hnil
  go_wp2
  go_roundg (l2.length - (i+1))
  case measure=>have:=Hi.out;have:=HI.out;omega
  case' rel=>skip
  have h1:=HL.out
  have h3:=HI.out
  refine⟨i+1,es ++ [(⟨s,[]⟩,.slice none 0 0)],by rw [show wrap64 ((i:Int)+1)=((i+1:Nat):Int) by unfold wrap64;omega],⟨h3,Nat.le_refl _⟩,⟨by rw [He.out,List.take_add_one,hrd.out];simp⟩,⟨by simpa [encE] using hown⟩,⟨.inr (by simp)⟩,⟨?_,?_⟩⟩
  ·have b1 : Below w.heap.size w (wr.alloc (.cells #[.int .i64 s, .slice none 0 0] 48)) := below_alloc Hb.out.1 _
   exact below_gb b1 hgrow (fun k hk=>by have:=(Ho.out.lt k hk).1;omega)
  have h7:=hgrow.size;have h8:=Hb.out.2;rw [size_alloc] at h7;omega
 have d1 : (i < l2.length) = False := eq_false hlt
 have hi:i=l2.length:=by have:=Hi.out;omega
 have h2:=He.out
 rw [hi,List.take_length] at h2
 have He2:=Aside0.mk h2
 have hel:es.length≤1000000000:=by have:=HL.out;rw [h2];simp;omega
 have Hel:=Aside0.mk hel
 clear hlt hi h2 hel
 have hrow:Aside0 (AtRow wr (w.heap.size+1) u3 es):=⟨Ho.out,fun p hp=>by
  rw [He2.out] at hp
  obtain⟨s,_,rfl⟩:=List.mem_map.1 hp
  exact⟨Kd.R_nil _ _ _ _ _,by simp⟩,by
  rw [He2.out,List.pairwise_map]
  exact List.pairwise_of_forall (fun a b k hk=>by simp [Value.ownBlock] at hk)⟩
 go_wp2_with (go_at_call 33;go_loud (refine(once_calls _ (w.heap.size+1) _ es Hv.out Hel.out hrow.out).mono ?_;rintro e w' ⟨v',es',rfl,hm,hme,hpl,hst,how,hgw⟩;have HM:=Aside0.mk hm;have HP:=Aside0.mk hpl;have HST:=Aside0.mk hst;have HOW:=Aside0.mk how;have HG:=Aside0.mk hgw;clear hm hme hpl hst how hgw))
 go_ret
 have hb2:Below w.heap.size w w':=below_gb Hb.out.1 HG.out (fun k hk=>by have:=(Ho.out.lt k hk).1;omega)
 refine⟨v',rfl,?_,hb2⟩
 have hp:=pack_S (base:=w.heap.size) (own_mono HOW.out (by have:=Hb.out.2;omega)) (fun p hp=>⟨Kd.R_lower (HST.out p hp).1 (by omega),(HST.out p hp).2⟩) HP.out
 rw [HM.out,He2.out,List.map_map] at hp
 exact hp
theorem runs_Start.calls (a0_0 a0_1:Int) (A0_2:Option Addr) (c0_2:Nat) (l0_2:List Int) (A0_3:Option Addr) (c0_3:Nat) (l0_3:List Int) (A0_4:Option Addr) (c0_4:Nat) (l0_4:List TOpen) (A0_5:Option Addr) (c0_5:Nat) (l0_5:List TClose) (A0_6:Option Addr) (c0_6:Nat) (l0_6:List TInner) (r:List TAt) (w:World)
 (hr0_2:Kd.C (Kd.int .i64) w A0_2 l0_2.length l0_2) (hc0_2:l0_2.length≤c0_2) (hr0_3:Kd.C (Kd.int .i64) w A0_3 l0_3.length l0_3) (hc0_3:l0_3.length≤c0_3) (hr0_4:Kd.C k52 w A0_4 l0_4.length l0_4) (hc0_4:l0_4.length≤c0_4) (hr0_5:Kd.C k54 w A0_5 l0_5.length l0_5) (hc0_5:l0_5.length≤c0_5) (hr0_6:Kd.C k56 w A0_6 l0_6.length l0_6) (hc0_6:l0_6.length≤c0_6)
 (h:runs_Start.f a0_0 a0_1 l0_2 l0_3 l0_4 l0_5 l0_6=some r) :
 Calls Try.prog 17 #[.agg #[.int .i64 a0_0,.int .i64 a0_1,.slice A0_2 l0_2.length c0_2,.slice A0_3 l0_3.length c0_3,.slice A0_4 l0_4.length c0_4,.slice A0_5 l0_5.length c0_5,.slice A0_6 l0_6.length c0_6]] w fun e w'=>∃v0_:Value,e=.returned v0_∧Kd.S k48 48 w' w.heap.size (fun _=>True) v0_ r∧Below w.heap.size w w':=by
 unfold runs_Start.f at h
 split at h
 ·rename_i hl
  cases h
  exact start_calls a0_0 a0_1 A0_2 c0_2 l0_2 _ _ _ _ rfl rfl rfl rfl w hr0_2 hl
 cases h
end Go.Proofs.Ytjkhdldgmkkhjaa.P
end
