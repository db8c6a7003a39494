/- Words and walks of this claim: MAll. -/
import Derived.Maps.RangeRun
import Derived.Maps.RangeWalk
import Derived.Maps.OwnOps
import Derived.Laws.StructEq
import Derived.WalkKit
import Derived.Below
import Derived.KernelRfl
import Derived.Deep.Draws
import Derived.Test.YtjkhdldgmkkhjaaProg
import Derived.Test.YtjkhdldgmkkhjaaHWEqStructEtc
import Derived.Sort.Grow
import Derived.Shelf.SlSortCmp.InsertionK
import Derived.Laws.Tables
import Derived.Laws.IdiomCopy
set_option linter.unusedVariables false
set_option linter.unusedSimpArgs false
set_option linter.unnecessarySimpa false
namespace Go.Proofs.Ytjkhdldgmkkhjaa.M
open Go.RowKit Go.MapKept
open Go.ChangeMaps (setBlock)
structure KeyB {α:Type} (P:Program) (kt:TypeId) (enc:α→Value):Prop where
 inj:∀{x y},enc x=enc y→x=y
 check:∀(w:World) (em:Bool) (x:α),(Instr.checkKey em 10000 kt (enc x)).run P w=.ok () w
 find:∀(w:World) (x:α) (es:List MapEntry) (ks:List α),es.map (·.key)=ks.map enc→
  ((Instr.findKey kt (enc x) es).run P w=.ok none w∧x∉ks)∨
  ∃j e,(Instr.findKey kt (enc x) es).run P w=.ok (some (j,e.val)) w∧es[j]? = some e∧ks[j]? = some x
 stays:∀(w:World) (x:α),(Instr.keyThatStays (enc x) (enc x)).run P w=.ok (enc x) w
theorem keyB_plain {α:Type} {P:Program} {kt:TypeId} {d:TypeDesc} {enc:α→Value} (hd:P.underlying kt=some d) (inj:∀{x y},enc x=enc y→x=y)
 (hk:∀x,IsKey d (enc x)):KeyB P kt enc where
 inj:=inj
 check w em x:=run_checkKey hd (hk x) em 9999
 stays w x:=run_keyThatStays (hk x)
 find w x es ks h:=by
  have hks:∀y∈es,IsKey d y.key:=fun y hy=>by
   have:y.key∈es.map (·.key):=List.mem_map_of_mem hy
   rw [h] at this
   obtain⟨z,_,hz⟩:=List.mem_map.1 this
   rw [←hz];exact hk z
  rcases findNow_spec (hk x) es 0 hks with ⟨h1,h2⟩|⟨j,e0,h1,h2,h3⟩
  ·refine Or.inl ⟨run_findKey hd h1, fun hx => ?_⟩
   have:enc x∈ks.map enc:=List.mem_map_of_mem hx
   rw [←h] at this
   obtain⟨y,hy,he⟩:=List.mem_map.1 this
   exact h2 y hy he
  refine Or.inr ⟨j, e0, by simpa using run_findKey hd h1, h2, ?_⟩
  have h4:(es.map (·.key))[j]? = some (enc x):=by rw [List.getElem?_map,h2];simp [h3]
  rw [h,List.getElem?_map] at h4
  cases hj:ks[j]? with
  | none=>rw [hj] at h4;cases h4
  | some z=>rw [hj] at h4;simp at h4;rw [inj h4]
theorem keyB_int {P:Program} {kt:TypeId} {q:IntKind} (hd:P.underlying kt=some (.int q)):KeyB P kt (Value.int q):=
 keyB_plain hd (fun h=>by injection h) (fun x=>by simp [IsKey])
theorem keyB_asked {α:Type} [DecidableEq α] {P:Program} {kt:TypeId} {d:TypeDesc} {enc:α→Value} (hd:P.underlying kt=some d) (inj:∀{x y},enc x=enc y→x=y)
 (hn:∀x y,Instr.sameNow d (enc x) (enc y)=none) (hc:∀(w:World) (em:Bool) (x:α),(Instr.checkKey em 10000 kt (enc x)).run P w=.ok () w)
 (he:∀(w:World) x y,(Op.equal kt (enc x) (enc y)).run P w=.ok (decide (x=y)) w) (hs:∀x,Instr.sameBits 10000 (enc x) (enc x)=true):KeyB P kt enc where
 inj:=inj
 check:=hc
 stays w x:=by simp [Instr.keyThatStays,hs x]
 find w x es ks h:=by
  have ask:∀(es:List MapEntry) (ks:List α) (i:Nat),es.map (·.key)=ks.map enc→
   ((Instr.findAsking kt (enc x) es i).run P w=.ok none w∧x∉ks)∨
   ∃j e,(Instr.findAsking kt (enc x) es i).run P w=.ok (some (i+j,e.val)) w∧es[j]? = some e∧ks[j]? = some x:=by
   intro es
   induction es with
   | nil=>
    intro ks i h
    cases ks with
    | nil=>exact Or.inl ⟨by simp [Instr.findAsking],by simp⟩
    | cons z ks=>simp at h
   | cons e es ih=>
    intro ks i h
    cases ks with
    | nil=>simp at h
    | cons z ks=>
     simp at h
     obtain⟨h1,h2⟩:=h
     by_cases hz:x=z
     ·subst hz
      refine Or.inr ⟨0,e,?_,by simp,by simp⟩
      simp [Instr.findAsking,h1,he,Result.andThen]
     rcases ih ks (i + 1) (by simpa using h2) with ⟨g1, g2⟩ | ⟨j, e', g1, g2, g3⟩
     ·refine Or.inl ⟨?_, by simp [hz, g2]⟩
      simp [Instr.findAsking,h1,he,Result.andThen,hz,g1]
     refine Or.inr ⟨j + 1, e', ?_, by simpa using g2, by simpa using g3⟩
     simp [Instr.findAsking,h1,he,Result.andThen,hz,g1]
     omega
  cases es with
  | nil=>
   cases ks with
   | nil=>exact Or.inl ⟨by simp [Instr.findKey,run_underlying hd,Result.andThen,Instr.findNow],by simp⟩
   | cons z ks=>simp at h
  | cons e es=>
   have hf:Instr.findNow d (enc x) (e :: es) 0=none:=by
    cases ks with
    | nil=>simp at h
    | cons z ks=>simp at h;simp [Instr.findNow,h.1,hn]
   rcases ask (e :: es) ks 0 h with ⟨g1,g2⟩|⟨j,e',g1,g2,g3⟩
   ·exact Or.inl ⟨by simp [Instr.findKey,run_underlying hd,Result.andThen,hf,g1],g2⟩
   exact Or.inr ⟨j,e',by simpa [Instr.findKey,run_underlying hd,Result.andThen,hf] using g1,g2,g3⟩
theorem checkKey_struct {P:Program} {t:TypeId} {fs:Array Field} {cs:Array Value} {w:World} {em:Bool} {n:Nat} (hu:P.underlying t=some (.struct fs))
 (h : ∀ f ∈ fs.toList, f.name ≠ "_" → ∃ v, (part f.type cs f.offset).run P w = .ok v w ∧ (Instr.checkKey em n f.type v).run P w = .ok () w) : (Instr.checkKey em (n + 1) t (.agg cs)).run P w = .ok () w := by
 rw [Instr.checkKey]
 simp only [Sem.run_bind,run_underlying hu,Result.andThen_ok]
 rw [←Array.forIn_toList]
 revert h
 generalize fs.toList=l
 intro h
 induction l with
 | nil=>simp
 | cons f l ih=>
  have ih:=ih (fun f hf=>h f (List.mem_cons_of_mem _ hf))
  simp only [List.forIn_cons,Sem.run_bind,Sem.run_ite]
  by_cases hn : f.name = "_"
  ·simp [hn,Result.andThen];simpa [Result.andThen] using ih
  obtain ⟨v, h1, h2⟩ := h f (by simp) hn
  simp [hn,h1,h2,Result.andThen];simpa [Result.andThen] using ih
section
variable {α β : Type}
def MapIs (eK:α→Value) (eV:β→Value) (w:World) (b:Nat) (m:List (α × β)):Prop:=
 ∃(es:Array MapEntry) (clock:Nat),w.heap[b]? = some (.map es clock)∧es.toList.map (fun e=>(e.key,e.val))=m.map (fun p=>(eK p.1,eV p.2))∧
  (∀x∈es.toList,x.born < clock)∧(es.toList.map (·.born)).Nodup∧(m.map (·.1)).Nodup
def asc [DecidableEq α]:List (α × β)→α→Option β
 | [],_=>none
 | p :: m,x=>if p.1=x then some p.2 else asc m x
def putM [DecidableEq α] (m:List (α × β)) (x:α) (v:β):List (α × β):=
 if (asc m x).isSome then m.map (fun p=>if p.1=x then (p.1,v) else p) else m ++ [(x,v)]
variable {eK : α → Value} {eV : β → Value} {w w' : World} {b : Nat} {m : List (α × β)} {P : Program} {t kt et : TypeId}
theorem MapIs.move (h:MapIs eK eV w b m) (e:w'.heap[b]? = w.heap[b]?):MapIs eK eV w' b m:=by
 obtain⟨es,c,h1,h2⟩:=h
 exact⟨es,c,e.trans h1,h2⟩
theorem MapIs.lt (h:MapIs eK eV w b m):b < w.heap.size:=by
 obtain⟨es,c,h1,_⟩:=h
 exact(Array.getElem?_eq_some_iff.1 h1).1
theorem MapIs.isMap (h:MapIs eK eV w b m):∃es c,w.heap[b]? = some (.map es c):=by
 obtain⟨es,c,h1,_⟩:=h
 exact⟨es,c,h1⟩
theorem MapIs.nodup (h:MapIs eK eV w b m):(m.map (·.1)).Nodup:=by
 obtain⟨es,c,_,_,_,_,h1⟩:=h
 exact h1
theorem MapIs.grown {row:Option Nat} (h:MapIs eK eV w b m) (g:w.grownBy w' row) (hr:some b≠row):MapIs eK eV w' b m:=h.move (g.block b h.lt hr)
theorem MapIs.below {B:Nat} (h:MapIs eK eV w b m) (g:Below B w w') (hb:b < B):MapIs eK eV w' b m:=h.move (g.block b hb)
theorem MapIs.made (eK:α→Value) (eV:β→Value) (w:World):MapIs eK eV (w.alloc (.map #[] 0)) w.heap.size ([]:List (α × β)):=
 ⟨#[],0,(MapKept.heap_alloc w _).1,by simp,by simp,by simp,by simp⟩
theorem keys_of {es:Array MapEntry} (h:es.toList.map (fun e=>(e.key,e.val))=m.map (fun p=>(eK p.1,eV p.2))):es.toList.map (·.key)=(m.map (·.1)).map eK:=by
 have:=congrArg (List.map Prod.fst) h
 simpa [List.map_map,Function.comp_def] using this
variable [DecidableEq α]
theorem asc_none {m:List (α × β)} {x:α} : asc m x=none↔x∉m.map (·.1):=by
 induction m with
 | nil=>simp [asc]
 | cons p m ih=>
  by_cases h:p.1=x
  ·simp [asc,h]
  simp [asc,h,ih,Ne.symm h]
theorem asc_at {m:List (α × β)} (hn:(m.map (·.1)).Nodup) {j:Nat} {p:α × β} (h:m[j]? = some p):asc m p.1=some p.2:=by
 induction m generalizing j with
 | nil=>simp at h
 | cons q m ih=>
  simp only [List.map_cons,List.nodup_cons] at hn
  cases j with
  | zero=>simp at h;subst h;simp [asc]
  | succ j=>
   simp at h
   have hm:p.1∈m.map (·.1):=List.mem_map_of_mem (List.mem_of_getElem? h)
   have:q.1≠p.1:=fun e=>hn.1 (e ▸ hm)
   simp [asc,this,ih hn.2 h]
theorem asc_mem {m:List (α × β)} {x:α} {v:β} (h:asc m x=some v):(x,v)∈m:=by
 induction m with
 | nil=>simp [asc] at h
 | cons p m ih=>
  by_cases hp:p.1=x
  ·simp [asc,hp] at h;subst h;subst hp;simp
  simp [asc,hp] at h;exact List.mem_cons_of_mem _ (ih h)
theorem putM_keys {m:List (α × β)} {x y:α} {v:β} : y∈(putM m x v).map (·.1)↔y=x∨y∈m.map (·.1):=by
 unfold putM
 split
 ·rename_i h
  have hx:x∈m.map (·.1):=by
   cases ha:asc m x with
   | none=>rw [ha] at h;cases h
   | some v'=>exact List.mem_map_of_mem (f:=(·.1)) (asc_mem ha)
  have e:(m.map fun p=>if p.1=x then (p.1,v) else p).map (·.1)=m.map (·.1):=by
   rw [List.map_map]
   apply List.map_congr_left
   intro p _
   by_cases hp:p.1=x<;>simp [hp]
  rw [e]
  constructor
  ·exact Or.inr
  rintro (rfl | h)
  ·exact hx
  exact h
 simp [or_comm]
theorem putM_nodup {m:List (α × β)} {x:α} {v:β} (hn:(m.map (·.1)).Nodup):((putM m x v).map (·.1)).Nodup:=by
 unfold putM
 split
 ·have e:(m.map fun p=>if p.1=x then (p.1,v) else p).map (·.1)=m.map (·.1):=by
   rw [List.map_map]
   apply List.map_congr_left
   intro p _
   by_cases hp:p.1=x<;>simp [hp]
  rw [e];exact hn
 rename_i h
 have:asc m x=none:=by
  cases ha:asc m x with
  | none=>rfl
  | some _=>rw [ha] at h;simp at h
 rw [List.map_append,List.nodup_append]
 refine⟨hn,by simp,?_⟩
 intro a ha b hb
 simp at hb
 subst hb
 rintro rfl
 exact asc_none.1 this ha
theorem asc_map {m:List (α × β)} {x y:α} {v:β} : asc (m.map fun p=>if p.1=x then (p.1,v) else p) y=if y=x then (asc m x).map (fun _=>v) else asc m y:=by
 induction m with
 | nil=>simp [asc]
 | cons p m ih=>
  simp only [List.map_cons,asc,ih]
  by_cases hp:p.1=x
  ·by_cases hy : y = x
   ·simp [hp,hy]
   have : ¬ x = y := fun e => hy e.symm
   simp [hp,hy,this]
  by_cases hy : y = x
  ·subst hy;simp [hp]
  by_cases hq:p.1=y<;>simp [hp,hy,hq]
theorem asc_append {m m' : List (α × β)} {y:α} : asc (m ++ m') y=(asc m y).or (asc m' y):=by
 induction m with
 | nil=>simp [asc]
 | cons p m ih=>by_cases h:p.1=y<;>simp [asc,h,ih]
theorem asc_putM {m:List (α × β)} {x y:α} {v:β} : asc (putM m x v) y=if y=x then some v else asc m y:=by
 unfold putM
 split
 ·rename_i h
  rw [asc_map]
  cases ha:asc m x with
  | none=>rw [ha] at h;cases h
  | some _=>rfl
 rename_i h
 have hx:asc m x=none:=by
  cases ha:asc m x with
  | none=>rfl
  | some _=>rw [ha] at h;simp at h
 rw [asc_append]
 by_cases hy:y=x
 ·subst hy;simp [hx,asc]
 have : ¬ x = y := fun e => hy e.symm
 simp [asc,hy,this]
theorem MapIs.run_lookup (K:KeyB P kt eK) (ht:P.underlying t=some (.map kt et)) (h:MapIs eK eV w b m) (x:α) (z:Value) (hz:(zeroValue et).run P w=.ok z w) (ok:Bool) :
 (Instr.lookup t (.map (some b)) (eK x) ok).run P w=.ok (if ok then .tuple #[((asc m x).map eV).getD z,.bool (asc m x).isSome] else ((asc m x).map eV).getD z) w:=by
 obtain⟨es,c,hb,he,_,_,hn⟩:=h
 rcases K.find w x es.toList (m.map (·.1)) (keys_of he) with ⟨h1,h2⟩|⟨j,e,h1,h2,h3⟩
 ·have ha : asc m x = none := asc_none.2 h2
  simp [Instr.lookup,Sem.run_bind,run_underlying ht,MapKept.run_getObj_map hb,K.check,h1,hz,Result.andThen,ha]
 rw [List.getElem?_map] at h3
 cases hm:m[j]? with
 | none=>rw [hm] at h3;cases h3
 | some p=>
  rw [hm] at h3
  simp at h3
  have ha:=asc_at hn hm
  have hv:e.val=eV p.2:=by
   have:=congrArg (fun l=>l[j]?) he
   simp only [List.getElem?_map,h2,hm,Option.map_some,Option.some.injEq,Prod.mk.injEq] at this
   exact this.2
  rw [h3] at ha
  simp [Instr.lookup,Sem.run_bind,run_underlying ht,MapKept.run_getObj_map hb,K.check,h1,Result.andThen,ha,hv]
theorem MapIs.run_update (K:KeyB P kt eK) (ht:P.underlying t=some (.map kt et)) (h:MapIs eK eV w b m) (x:α) (v:β) :
 ∃w',(Instr.mapUpdate t (.map (some b)) (eK x) (eV v)).run P w=.ok () w'∧MapIs eK eV w' b (putM m x v)∧w.grownBy w' (some b)∧w'.heap.size=w.heap.size:=by
 obtain⟨es,c,hb,he,h1',h2',hn⟩:=h
 have gr:∀o:Obj,w.grownBy { w with heap:=w.heap.setIfInBounds b o } (some b):=fun o=>
  ⟨rfl,rfl,rfl,by simp,fun i _ hi=>(heap_set hb).2 i (fun e=>hi (by rw [e]))⟩
 rcases K.find w x es.toList (m.map (·.1)) (keys_of he) with ⟨h1,h2⟩|⟨j,e,h1,h2,h3⟩
 ·have ha : asc m x = none := asc_none.2 h2
  refine⟨{ w with heap:=w.heap.setIfInBounds b (.map (es.push { key:=eK x,val:=eV v,born:=c }) (c+1)) },?_,?_,gr _,by simp⟩
  ·simp [Instr.mapUpdate,Sem.run_bind,run_underlying ht,MapKept.run_getObj_map hb,K.check,h1,Result.andThen,MapKept.run_setObj_map _ hb]
  refine ⟨_, _, (heap_set hb).1, ?_, ?_, ?_, putM_nodup hn⟩
  ·simp [putM,ha,he]
  ·intro y hy
   simp at hy
   rcases hy with hy|rfl
   ·have:=h1' y (by simpa using hy);omega
   simp
  simp only [Array.toList_push, List.map_append, List.map_cons, List.map_nil]
  rw [List.nodup_append]
  refine⟨h2',by simp,?_⟩
  intro a ha' b' hb'
  simp at hb'
  subst hb'
  obtain⟨y,hy,rfl⟩:=List.mem_map.1 ha'
  have:=h1' y hy
  omega
 have hj : es[j]? = some e := by simpa using h2
 rw [List.getElem?_map] at h3
 cases hm:m[j]? with
 | none=>rw [hm] at h3;cases h3
 | some p=>
  rw [hm] at h3
  simp at h3
  have ha:=asc_at hn hm
  rw [h3] at ha
  have hk:e.key=eK x:=by
   have:=congrArg (fun l=>l[j]?) he
   simp only [List.getElem?_map,h2,hm,Option.map_some,Option.some.injEq,Prod.mk.injEq] at this
   rw [this.1,h3]
  refine⟨{ w with heap:=w.heap.setIfInBounds b (.map (es.modify j fun e=>{ e with key:=eK x,val:=eV v }) c) },?_,?_,gr _,by simp⟩
  ·simp [Instr.mapUpdate,Sem.run_bind,run_underlying ht,MapKept.run_getObj_map hb,K.check,h1,hj,hk,K.stays,Result.andThen,MapKept.run_setObj_map _ hb]
  have em : (es.modify j fun e => { e with key := eK x, val := eV v }).toList = es.toList.modify j (fun e => { e with key := eK x, val := eV v }) := by simp
  refine⟨_,_,(heap_set hb).1,?_,?_,?_,putM_nodup hn⟩
  ·rw [em]
   apply List.ext_getElem?
   intro i
   have hi:=congrArg (fun l=>l[i]?) he
   simp only [List.getElem?_map] at hi
   simp only [putM,ha,Option.isSome_some,if_true,List.getElem?_map,List.getElem?_modify]
   by_cases hij:j=i
   ·subst hij
    rw [h2,hm]
    simp [h3]
   cases hmi : m[i]? with
   | none=>simp [hmi] at hi;simp [hi,hij]
   | some q=>
    have hq:q.1≠x:=by
     intro e2
     have g1:(m.map (·.1))[i]? = some x:=by rw [List.getElem?_map,hmi];simp [e2]
     have g2:(m.map (·.1))[j]? = some x:=by rw [List.getElem?_map,hm];simp [h3]
     have lt:i < (m.map (·.1)).length:=(List.getElem?_eq_some_iff.1 g1).1
     exact hij (((List.getElem?_inj lt hn).1 (g1.trans g2.symm)).symm)
    rw [hmi] at hi
    simp [hij,hq]
    simpa using hi
  ·intro y hy
   rw [em] at hy
   obtain⟨i,hi⟩:=List.mem_iff_getElem?.1 hy
   rw [List.getElem?_modify] at hi
   cases hei:es.toList[i]? with
   | none=>rw [hei] at hi;simp at hi
   | some e'=>
    rw [hei] at hi
    have hb':=h1' e' (List.mem_of_getElem? hei)
    by_cases hij:j=i
    ·simp [hij] at hi;rw [←hi];exact hb'
    simp [hij] at hi;rw [←hi];exact hb'
  rw [em]
  have:(es.toList.modify j (fun e=>{ e with key:=eK x,val:=eV v })).map (·.born)=es.toList.map (·.born):=by
   apply List.ext_getElem?
   intro i
   simp only [List.getElem?_map,List.getElem?_modify]
   cases es.toList[i]? with
   | none=>simp
   | some e'=>by_cases hij:j=i<;>simp [hij]
  rw [this];exact h2'
end
section
variable {α β : Type} {eK : α → Value} {eV : β → Value} {w w' : World} {b r : Nat} {m left : List (α × β)} {P : Program} {t kt et : TypeId}
def IterIs (eK:α→Value) (eV:β→Value) (w:World) (r b:Nat) (m left:List (α × β)):Prop:=
 ∃(es:Array MapEntry) (clock:Nat) (seen:Array Nat),w.heap[b]? = some (.map es clock)∧w.heap[r]? = some (.mapIter (some b) clock seen clock)∧
  es.toList.map (fun e=>(e.key,e.val))=m.map (fun p=>(eK p.1,eV p.2))∧(∀x∈es.toList,x.born < clock)∧(es.toList.map (·.born)).Nodup∧
  (leftOf es seen).toList.map (fun e=>(e.key,e.val))=left.map (fun p=>(eK p.1,eV p.2))
theorem IterIs.move (h:IterIs eK eV w r b m left) (e:w'.heap[b]? = w.heap[b]?) (e' : w'.heap[r]? = w.heap[r]?):IterIs eK eV w' r b m left:=by
 obtain⟨es,c,seen,h1,h2,h3⟩:=h
 exact⟨es,c,seen,e.trans h1,e'.trans h2,h3⟩
theorem IterIs.lt (h:IterIs eK eV w r b m left):b < w.heap.size∧r < w.heap.size:=by
 obtain⟨es,c,seen,h1,h2,_⟩:=h
 exact⟨(Array.getElem?_eq_some_iff.1 h1).1,(Array.getElem?_eq_some_iff.1 h2).1⟩
def NoCells (w:World) (k:Nat):Prop:=∀c t f,w.heap[k]?≠some (.cells c t f)
theorem IterIs.nc (h:IterIs eK eV w r b m left):NoCells w r:=by
 obtain⟨es,c,seen,h1,h2,_⟩:=h
 intro c t f h
 rw [h2] at h;cases h
theorem MapIs.nc (h:MapIs eK eV w b m):NoCells w b:=by
 obtain⟨es,c,h1,_⟩:=h
 intro c t f h
 rw [h1] at h;cases h
theorem IterIs.ne (h:IterIs eK eV w r b m left):r≠b:=by
 obtain⟨es,c,seen,h1,h2,_⟩:=h
 rintro rfl
 rw [h1] at h2
 cases h2
theorem IterIs.grown {row:Option Nat} (h:IterIs eK eV w r b m left) (g:w.grownBy w' row) (hr:some b≠row) (hr' : some r≠row):IterIs eK eV w' r b m left:=h.move (g.block b h.lt.1 hr) (g.block r h.lt.2 hr')
variable {ops : Array Oper} {rest : List Oper} {o : Oper} {a : Act} {Q : Exit → Act → World → Prop}
theorem wp_range (hg:o.guard=none) (x:Operand) (t:TypeId) (hop:o.op=Op.range t x) (kt et:TypeId) (ht:P.underlying t=some (.map kt et)) (b:Nat) (hm:a.eval x=.map (some b)) (h:MapIs eK eV w b m) (r:Nat) (hr:w.heap.size=r)
 (hK:∀w',IterIs eK eV w' r b m m→w.grownBy w' none→wpList P ops Q rest (a.put o.dst (.pointer (some ⟨r,0,none⟩))) w') :
 wpList P ops Q (o :: rest) a w:=by
 subst hr
 refine wpList_plain hg fun K' hK'=>?_
 obtain⟨es,c,hb,he,h1,h2,hn⟩:=h
 unfold Oper.wp
 have hrun:(Instr.range t (.map (some b))).run P w=.ok (.pointer (some ⟨w.heap.size,0,none⟩)) (w.alloc (.mapIter (some b) c #[] c)):=by
  simp [Instr.range,Sem.run_bind,run_underlying ht,MapKept.run_getObj_map hb,Result.andThen]
 simp [execOp,hop,hm,hrun,Result.andThen]
 refine hK' _ _ (hK _ ⟨es,c,#[],((MapKept.heap_alloc w _).2 b (Array.getElem?_eq_some_iff.1 hb).1).trans hb,(MapKept.heap_alloc w _).1,he,h1,h2,?_⟩ ⟨rfl,rfl,rfl,by simp,fun k hk _=>(MapKept.heap_alloc w _).2 k hk⟩)
 unfold leftOf
 have hf:es.toList.filter (fun e=>true)=es.toList:=List.filter_eq_self.2 (fun _ _=>rfl)
 simp [hf,he]
theorem filter_erase {e:MapEntry} : ∀(L:List MapEntry) (i:Nat),(L.map (·.born)).Nodup→L[i]? = some e→L.filter (fun x=>!(x.born == e.born))=L.eraseIdx i
 | [],i,_,h=>by simp at h
 | x :: L,0,hn,h=>by
  simp at h
  subst h
  simp only [List.map_cons,List.nodup_cons] at hn
  have:L.filter (fun y=>!(y.born == x.born))=L:=List.filter_eq_self.2 (fun y hy=>by
   have:y.born≠x.born:=fun e=>hn.1 (e ▸ List.mem_map_of_mem hy)
   simp [this])
  simp [this]
 | x :: L,i+1,hn,h=>by
  simp only [List.map_cons,List.nodup_cons] at hn
  simp at h
  have:x.born≠e.born:=fun q=>hn.1 (q ▸ List.mem_map_of_mem (List.mem_of_getElem? h))
  simp [this,filter_erase L i hn.2 h]
theorem perm_erase {γ:Type} : ∀(l:List γ) (i:Nat) (p:γ),l[i]? = some p→l.Perm (p :: l.eraseIdx i)
 | [],i,p,h=>by simp at h
 | x :: l,0,p,h=>by simp at h;subst h;simp
 | x :: l,i+1,p,h=>by
  simp at h
  exact((perm_erase l i p h).cons x).trans (List.Perm.swap p x _)
theorem wp_next (hg:o.guard=none) (it:Operand) (hop:o.op=Op.next it false) (r:Nat) (hit:a.eval it=.pointer (some ⟨r,0,none⟩)) (h:IterIs eK eV w r b m left)
 (hDone:left = []→wpList P ops Q rest (a.put o.dst (.tuple #[.bool false])) w)
 (hMore:∀(p:α × β) (left' : List (α × β)) (w' : World),left.Perm (p :: left')→IterIs eK eV w' r b m left'→w.grownBy w' (some r)→
  (Instr.entry (.pointer (some ⟨r,0,none⟩))).run P w' = .ok (.tuple #[eK p.1,eV p.2]) w'→wpList P ops Q rest (a.put o.dst (.tuple #[.bool true,eK p.1,eV p.2])) w') :
 wpList P ops Q (o :: rest) a w:=by
 refine wpList_plain hg fun K' hK'=>?_
 obtain⟨es,c,seen,hb,hr,he,h1,h2,hl⟩:=h
 unfold Oper.wp
 rcases run_next_at (P:=P) w o.type r b c c seen es c hr hb h1 (Nat.le_refl _) with ⟨h0,hrun⟩|⟨e,hmem,w1,hw1,hrun⟩
 ·have:left = []:=by
   have h3:(leftOf es seen).toList = []:=by simpa using Array.eq_empty_of_size_eq_zero h0
   rw [h3] at hl
   simpa using hl.symm
  simp [execOp,hop,hit,hrun,Result.andThen]
  exact hK' _ _ (hDone this)
 obtain ⟨i, hi⟩ := List.mem_iff_getElem?.1 hmem
 have hpi:=congrArg (fun l=>l[i]?) hl
 simp only [List.getElem?_map,hi,Option.map_some] at hpi
 cases hli:left[i]? with
 | none=>rw [hli] at hpi;cases hpi
 | some p=>
  rw [hli] at hpi
  simp only [Option.map_some,Option.some.injEq,Prod.mk.injEq] at hpi
  have hr1:w1.heap[r]? = some (.mapIter (some b) c seen c):=by rcases hw1 with rfl|rfl<;>exact hr
  have hb1:w1.heap[b]? = some (.map es c):=by rcases hw1 with rfl|rfl<;>exact hb
  have hrb:b≠r:=by rintro rfl;rw [hb] at hr;cases hr
  have hb2:(setBlock w1 r (.mapIter (some b) c (seen.push e.born) c)).heap[b]? = some (.map es c):=((heap_set hr1).2 b hrb).trans hb1
  have hr2:(setBlock w1 r (.mapIter (some b) c (seen.push e.born) c)).heap[r]? = some (.mapIter (some b) c (seen.push e.born) c):=(heap_set hr1).1
  have hee:e∈es.toList:=by
   unfold leftOf at hmem
   simp at hmem ⊢
   exact hmem.1
  have hent:=run_entry_at (P:=P) _ r b c seen es c e hr2 hb2 hee h2
  have heq:(Value.tuple #[.bool true,e.key,e.val])=.tuple #[.bool true,eK p.1,eV p.2]:=by rw [hpi.1,hpi.2]
  have lo:(leftOf es (seen.push e.born)).toList=(leftOf es seen).toList.eraseIdx i:=by
   unfold leftOf at hi ⊢
   simp only [Array.toList_filter] at hi ⊢
   have hnd:((es.toList.filter fun x=>!seen.contains x.born).map (·.born)).Nodup:=(List.filter_sublist.map _).nodup h2
   have g:(es.toList.filter fun x=>!(seen.push e.born).contains x.born)=(es.toList.filter fun x=>!seen.contains x.born).filter fun x=>!(x.born == e.born):=by
    rw [List.filter_filter]
    apply List.filter_congr
    intro x _
    by_cases hx:x.born=e.born<;>simp [hx]
   rw [g]
   exact filter_erase _ i hnd hi
  simp [execOp,hop,hit,hrun,Result.andThen]
  have hK2:=hMore p (left.eraseIdx i) (setBlock w1 r (.mapIter (some b) c (seen.push e.born) c)) (perm_erase left i p hli)
   ⟨es,c,seen.push e.born,hb2,hr2,he,h1,h2,by rw [lo,Go.ChangeMaps.map_eraseIdx,hl,←Go.ChangeMaps.map_eraseIdx]⟩
   (by rcases hw1 with rfl|rfl<;>exact⟨rfl,rfl,rfl,by simp [setBlock],fun k _ hk=>(heap_set hr1).2 k (fun e=>hk (by rw [e]))⟩)
   (by rw [hent,hpi.1,hpi.2])
  rw [hpi.1,hpi.2]
  exact hK' _ _ hK2
theorem wp_lookup [DecidableEq α] (hg:o.guard=none) (x y:Operand) (t:TypeId) (hop:o.op=Op.lookup t x y false) (kt et:TypeId) (ht:P.underlying t=some (.map kt et)) (K:KeyB P kt eK) (b:Nat) (hm:a.eval x=.map (some b))
 (h:MapIs eK eV w b m) (k:α) (hk:a.eval y=eK k) (z:Value) (hz:(zeroValue et).run P w=.ok z w) (hK:wpList P ops Q rest (a.put o.dst (((asc m k).map eV).getD z)) w) :
 wpList P ops Q (o :: rest) a w:=by
 refine wpList_plain hg fun K' hK'=>?_
 unfold Oper.wp
 simp [execOp,hop,hm,hk,h.run_lookup K ht k z hz false,Result.andThen]
 exact hK' _ _ hK
theorem wp_update [DecidableEq α] (hg:o.guard=none) (x y u:Operand) (t:TypeId) (hop:o.op=Op.mapUpdate t x y u) (kt et:TypeId) (ht:P.underlying t=some (.map kt et)) (K:KeyB P kt eK) (b:Nat) (hm:a.eval x=.map (some b))
 (h:MapIs eK eV w b m) (k:α) (hk:a.eval y=eK k) (v:β) (hv:a.eval u=eV v)
 (hK:∀w',MapIs eK eV w' b (putM m k v)→w.grownBy w' (some b)→wpList P ops Q rest (a.put o.dst undef) w') :
 wpList P ops Q (o :: rest) a w:=by
 refine wpList_plain hg fun K' hK'=>?_
 obtain⟨w',hrun,h1,h2,h3⟩:=h.run_update K ht k v
 unfold Oper.wp
 simp [execOp,hop,hm,hk,hv,hrun,Result.andThen]
 exact hK' _ _ (hK w' h1 h2)
theorem step_update [DecidableEq α] {Kc:Act→World→Prop} (hw:Region.wanted o (yielded ops a.tmps)=true) (x y u:Operand) (t:TypeId) (hop:o.op=Op.mapUpdate t x y u) (kt et:TypeId) (ht:P.underlying t=some (.map kt et)) (K:KeyB P kt eK) (b:Nat) (hm:a.eval x=.map (some b))
 (h:MapIs eK eV w b m) (k:α) (hk:a.eval y=eK k) (v:β) (hv:a.eval u=eV v)
 (hK:∀w',MapIs eK eV w' b (putM m k v)→w.grownBy w' (some b)→Kc (a.put o.dst undef) w') :
 if Region.wanted o (yielded ops a.tmps)=true then Oper.wp P o a w Kc Q else Kc (a.put o.dst undef) w:=by
 rw [if_pos hw]
 obtain⟨w',hrun,h1,h2,h3⟩:=h.run_update K ht k v
 unfold Oper.wp
 simp [execOp,hop,hm,hk,hv,hrun,Result.andThen]
 exact hK w' h1 h2
theorem step_run {Kc:Act→World→Prop} {W w1:World} {v:Value} (hw:Region.wanted o (yielded ops a.tmps)=true) (hrun:(execOp a.eval o).run P W=.ok (.value v) w1) (h:Kc (a.put o.dst v) w1) :
 if Region.wanted o (yielded ops a.tmps)=true then Oper.wp P o a W Kc Q else Kc (a.put o.dst undef) W:=by
 rw [if_pos hw]
 unfold Oper.wp
 rw [hrun]
 exact h
theorem step_skip {Kc:Act→World→Prop} {W w1:World} (hw:Region.wanted o (yielded ops a.tmps)=true) (hN:o.dst=none) (hrun:(execOp a.eval o).run P W=.ok .skip w1) (h:Kc a w1) :
 if Region.wanted o (yielded ops a.tmps)=true then Oper.wp P o a W Kc Q else Kc (a.put o.dst undef) W:=by
 rw [if_pos hw]
 unfold Oper.wp
 rw [hrun]
 show Kc (a.put o.dst undef) w1
 rw [hN]
 exact h
end
section
variable {a b c : World} {row : Option Nat} {B : Nat}
theorem nes {a b:Nat} (h:a≠b):some a≠some b:=fun e=>h (Option.some.inj e)
theorem nen {a:Nat} : some a≠none:=fun e=>by cases e
theorem gb_cell {ad:Addr} {v:Value} (g:a.grownBy b row) (h:a.cell? ad=some v) (hr:some ad.block≠row):b.cell? ad=some v:=(World.cell?_of_block (g.block ad.block (World.block_lt_of_cell? a _ h) hr)).trans h
theorem gb_refl (a:World) (row:Option Nat):a.grownBy a row:=⟨rfl,rfl,rfl,Nat.le_refl _,fun _ _ _=>rfl⟩
theorem gb_trans (h:a.grownBy b row) (k:b.grownBy c row):a.grownBy c row:=
 ⟨k.os.trans h.os,k.tape.trans h.tape,k.output.trans h.output,Nat.le_trans h.size k.size,fun i hi hr=>(k.block i (Nat.lt_of_lt_of_le hi h.size) hr).trans (h.block i hi hr)⟩
theorem gb_none (h:a.grownBy b none) (row:Option Nat):a.grownBy b row:=⟨h.os,h.tape,h.output,h.size,fun i hi _=>h.block i hi (by simp)⟩
theorem gb_new {k:Nat} (h:a.grownBy b row) (g:b.grownBy c (some k)) (hk:a.heap.size≤k):a.grownBy c row:=
 ⟨g.os.trans h.os,g.tape.trans h.tape,g.output.trans h.output,Nat.le_trans h.size g.size,fun i hi hr=>(g.block i (Nat.lt_of_lt_of_le hi h.size) (by rintro⟨rfl⟩;omega)).trans (h.block i hi hr)⟩
theorem gb_alloc (h:a.grownBy b row) (o:Obj):a.grownBy (b.alloc o) row:=
 ⟨h.os,h.tape,h.output,Nat.le_trans h.size (by show _≤(b.heap.push o).size;simp),fun i hi hr=>((MapKept.heap_alloc b o).2 i (Nat.lt_of_lt_of_le hi h.size)).trans (h.block i hi hr)⟩
theorem gb_drew (h:a.grownBy b row):a.grownBy b.drew row:=⟨h.os,h.tape,h.output,h.size,h.block⟩
theorem gb_drewN (h:a.grownBy b row) (n:Nat):a.grownBy (b.drewN n) row:=⟨h.os,h.tape,h.output,h.size,h.block⟩
theorem below_gb {w0:World} (h:Below w0.heap.size w0 a) (g:a.grownBy b row) (hr:∀k,row=some k→w0.heap.size≤k):Below w0.heap.size w0 b:=h.grown g h.size hr
theorem size_alloc (w:World) (o:Obj):(w.alloc o).heap.size=w.heap.size+1:=by show (w.heap.push o).size=_;simp
theorem blk_newAt {w:World} {n:Nat} (o:Obj) (h:n=w.heap.size):(w.alloc o).heap[n]? = some o:=by subst h;exact(MapKept.heap_alloc w o).1
theorem blk_old {w:World} {n:Nat} {o:Obj} (h:w.heap[n]? = some o) (o' : Obj):(w.alloc o').heap[n]? = some o:=((MapKept.heap_alloc w o').2 n (Array.getElem?_eq_some_iff.1 h).1).trans h
theorem MapIs.alloc {α β:Type} {eK:α→Value} {eV:β→Value} {w:World} {b:Nat} {m:List (α × β)} (h:MapIs eK eV w b m) (o:Obj):MapIs eK eV (w.alloc o) b m:=h.move ((MapKept.heap_alloc w o).2 b h.lt)
theorem IterIs.alloc {α β:Type} {eK:α→Value} {eV:β→Value} {w:World} {r b:Nat} {m left:List (α × β)} (h:IterIs eK eV w r b m left) (o:Obj):IterIs eK eV (w.alloc o) r b m left:=
 h.move ((MapKept.heap_alloc w o).2 b h.lt.1) ((MapKept.heap_alloc w o).2 r h.lt.2)
theorem MapIs.madeAt {α β:Type} (eK:α→Value) (eV:β→Value) {w:World} {n:Nat} (h:n=w.heap.size):MapIs eK eV (w.alloc (.map #[] 0)) n ([]:List (α × β)):=by subst h;exact MapIs.made eK eV w
end
theorem take_next {α:Type} (d:α) (l:List α) (i:Int) (h0:0≤i) (h:i < l.length):l.take (i+1).toNat=l.take i.toNat ++ [l.getD i.toNat d]:=by
 rw [show (i+1).toNat=i.toNat+1 by omega,List.take_succ_eq_append_getElem (by omega)]
 simp [List.getD,List.getElem?_eq_getElem (show i.toNat < l.length by omega)]
theorem drop_next {α:Type} (d:α) (l:List α) (i:Int) (h0:0≤i) (h:i < l.length):l.drop i.toNat=l.getD i.toNat d :: l.drop (i+1).toNat:=by
 rw [show (i+1).toNat=i.toNat+1 by omega,List.drop_eq_getElem_cons (show i.toNat < l.length by omega)]
 simp [List.getD,List.getElem?_eq_getElem (show i.toNat < l.length by omega)]
end Go.Proofs.Ytjkhdldgmkkhjaa.M
namespace Go.Proofs.Ytjkhdldgmkkhjaa.M
open Go.RowKit Go.MapKept Go.Proofs.YtjkhdldgmkkhjaaW.PrintWords
def ePair (p:Int × Int):Value:=.agg #[.int .i64 p.1,.int .i64 p.2]
def eOne (x:Int):Value:=.int .i64 x
theorem keyPair:KeyB Try.prog 78 ePair:=
 keyB_asked (d:=.struct (Try.prog.fieldsOf 78)) (by kernel_rfl)
  (fun {x y} h=>by
   obtain⟨a,b⟩:=x
   obtain⟨c,d⟩:=y
   simp only [ePair,Value.agg.injEq,List.toArray_inj,Array.mk.injEq,List.cons.injEq,Value.int.injEq,true_and,and_true] at h
   rw [h.1,h.2])
  (fun _ _=>rfl)
  (fun w em x=>checkKey_struct Try.underlying78 (by
   intro f hf _
   simp only [List.mem_cons,List.not_mem_nil,or_false] at hf
   rcases hf with rfl|rfl
   ·exact⟨.int .i64 x.1,by go_simp,run_checkKey Try.underlying3 (by simp [IsKey]) em _⟩
   exact⟨.int .i64 x.2,by go_simp,run_checkKey Try.underlying3 (by simp [IsKey]) em _⟩))
  (fun w x y=>by
   have h:=eqA_of (P:=Try.prog) (d:=9999) (w:=w) (xs:=#[.int .i64 x.1,.int .i64 x.2]) (ys:=#[.int .i64 y.1,.int .i64 y.2]) Try.underlying78 (by kernel_rfl)
    (eqf_cons (by rfl) (by go_simp;rfl) (by go_simp;rfl) (by go_simp;rfl) (eqf_last (by rfl) (by go_simp;rfl) (by go_simp;rfl) (by go_simp;rfl)))
   have e:decide (x=y)=(x.1 == y.1 && x.2 == y.2):=by
    obtain⟨a,b⟩:=x
    obtain⟨c,d⟩:=y
    by_cases h1:a=c<;>by_cases h2:b=d<;>simp [h1,h2]
   rw [e]
   simpa [Op.equal,Op.maxDepth,ePair] using h)
  (fun x=>by
   obtain⟨a,b⟩:=x
   simp [Instr.sameBits,ePair])
end Go.Proofs.Ytjkhdldgmkkhjaa.M
namespace Go.Proofs.Ytjkhdldgmkkhjaa.M
open Go.RowKit Go.Sort
def GD (w w' : World):Prop:=∃q os,w' = grow (w.drewN q) os
theorem GD.refl (w:World):GD w w:=⟨0,#[],by rw [grow_empty];rfl⟩
theorem GD.alloc {w w' : World} (h:GD w w') (o:Obj):GD w (w'.alloc o):=by
 obtain⟨q,os,rfl⟩:=h
 exact⟨q,os ++ #[o],by rw [alloc_eq_grow,grow_grow]⟩
theorem GD.drewN {w w' : World} (h:GD w w') (n:Nat):GD w (w'.drewN n):=by
 obtain⟨q,os,rfl⟩:=h
 refine⟨q+n,os,?_⟩
 simp only [grow,World.drewN,Nat.add_assoc]
theorem GD.drew {w w' : World} (h:GD w w'):GD w w'.drew:=h.drewN 1
theorem GD.trans {a b c:World} (h:GD a b) (k:GD b c):GD a c:=by
 obtain⟨q,os,rfl⟩:=h
 obtain⟨q',os',rfl⟩:=k
 refine⟨q+q',os ++ os',?_⟩
 simp only [grow,World.drewN,Nat.add_assoc,Array.append_assoc]
theorem GD.below {w w' : World} (h:GD w w'):Below w.heap.size w w':=by
 obtain⟨q,os,rfl⟩:=h
 exact⟨rfl,rfl,rfl,by simp [grow,World.drewN],fun k hk=>by simp [grow,World.drewN,Array.getElem?_append,hk]⟩
end Go.Proofs.Ytjkhdldgmkkhjaa.M
namespace Go.Proofs.Ytjkhdldgmkkhjaa.M
open Go.RowKit Go.Sort Go.Shelf Go.Lib
section
variable {α : Type} [Inhabited α] {enc : α → List Value} {k : Nat}
theorem flatK_list (hk:∀x,(enc x).length=k) (d:Array α):(flatK enc k d).toList=d.toList.flatMap enc:=by
 have key:∀(l:List α) (t:Nat),t < l.length*k→(l.flatMap enc)[t]? = some ((enc (l.getD (t / k) default))[t % k]!):=by
  intro l
  induction l with
  | nil=>intro t h;simp at h
  | cons x l ih=>
   intro t h
   simp only [List.flatMap_cons]
   have hk0:0 < k:=by
    rcases Nat.eq_zero_or_pos k with h0|h0
    ·subst h0;simp at h
    exact h0
   by_cases ht:t < k
   ·rw [List.getElem?_append_left (by rw [hk]; exact ht), Nat.div_eq_of_lt ht, Nat.mod_eq_of_lt ht]
    have hl:t < (enc x).length:=by rw [hk];exact ht
    simp [List.getElem?_eq_getElem hl,List.getElem!_eq_getElem?_getD]
   have hge : k ≤ t := by omega
   rw [List.getElem?_append_right (by rw [hk];exact hge),hk,ih (t - k) (by simp [Nat.succ_mul] at h;omega)]
   have h1:t / k=(t - k) / k+1:=by
    rw [←Nat.add_div_right _ hk0,Nat.sub_add_cancel hge]
   have h2:t % k=(t - k) % k:=(Nat.mod_eq_sub_mod hge)
   rw [h1,h2]
   simp
 have hlen:∀l:List α,(l.flatMap enc).length=l.length*k:=by
  intro l
  induction l with
  | nil=>simp
  | cons x l ih=>simp [ih,hk,Nat.succ_mul,Nat.add_comm]
 apply List.ext_getElem?
 intro t
 by_cases ht:t < d.size*k
 ·rw [key d.toList t (by simpa using ht)]
  have h1:t < (flatK enc k d).toList.length:=by simpa using ht
  rw [List.getElem?_eq_getElem h1]
  have h2:=get_flatK enc k d t ht
  rw [getElem!_pos _ t (by simpa using ht)] at h2
  simp only [Array.getElem_toList]
  rw [h2]
  have hd:t / k < d.size:=by
   have hk0:0 < k:=by
    rcases Nat.eq_zero_or_pos k with h0|h0
    ·subst h0;simp at ht
    exact h0
   exact Nat.div_lt_of_lt_mul (by rw [Nat.mul_comm];exact ht)
  rw [getElem!_pos d _ hd]
  simp [List.getD,hd]
 rw [List.getElem?_eq_none (by simpa using ht),List.getElem?_eq_none (by rw [hlen];simpa using ht)]
theorem holds_of_own (hk:∀x,(enc x).length=k) {w:World} {base g n cap:Nat} {e:TypeId} {d:Array α} (hd:d.size=n)
 (h:w.ownsRow base e k (.slice (some ⟨g,0,none⟩) n cap) n (d.toList.flatMap enc)):HoldsK enc k w g 0 d:=by
 rcases h.2 with ⟨h1,_⟩|⟨g',cap',cur,h1,_,hg,_,_,hsz,htake⟩
 ·cases h1
 cases h1
 intro j hj
 simp only [size_flatK] at hj
 have hj2:j < (flatK enc k d).toList.length:=by simpa using hj
 have hcur:cur[j]? = some ((flatK enc k d)[j]!):=by
  have h3:(cur.toList.take (n*k))[j]? = (flatK enc k d).toList[j]?:=by rw [htake,flatK_list hk]
  rw [List.getElem?_take_of_lt (by rw [←hd];exact hj),List.getElem?_eq_getElem hj2] at h3
  rw [←Array.getElem?_toList,h3]
  rw [getElem!_pos _ j (by simpa using hj)]
  simp
 constructor
 ·simp [World.cell?,hg,hcur]
 simp [World.frozen?,hg]
theorem own_sorted (hk:∀x,(enc x).length=k) {w:World} {base g n cap:Nat} {e:TypeId} {xs:List Value} {d' : Array α} (hd:d'.size=n) (m:Nat) (os:Array Obj)
 (h:w.ownsRow base e k (.slice (some ⟨g,0,none⟩) n cap) n xs) :
 (sortWorldK enc k w g 0 m d' os).ownsRow base e k (.slice (some ⟨g,0,none⟩) n cap) n (d'.toList.flatMap enc)∧w.grownBy (sortWorldK enc k w g 0 m d' os) (some g):=by
 have hsize:(putRowK enc k (Sort.ahead w m) g 0 d').heap.size=w.heap.size:=by simp [putRowK,putRow,mapBlock,Sort.ahead]
 have hheap:∀i,i < w.heap.size→(sortWorldK enc k w g 0 m d' os).heap[i]? = (putRowK enc k (Sort.ahead w m) g 0 d').heap[i]?:=fun i hi=>by
  show ((putRowK enc k (Sort.ahead w m) g 0 d').heap ++ os)[i]? = _
  rw [Array.getElem?_append_left (by rw [hsize];exact hi)]
 have hmod:∀i,(putRowK enc k (Sort.ahead w m) g 0 d').heap[i]? = if g=i then (w.heap[i]?).map (onCells (putCells id 0 (flatK enc k d'))) else w.heap[i]?:=fun i=>by
  show (w.heap.modify g (onCells (putCells id 0 (flatK enc k d'))))[i]? = _
  rw [Array.getElem?_modify]
 rcases h.2 with ⟨h1,_⟩|⟨g',cap',cur,h1,hb,hg,hnc,hcm,hsz,htake⟩
 ·cases h1
 cases h1
 have hlt:g < w.heap.size:=(Array.getElem?_eq_some_iff.1 hg).1
 refine⟨⟨?_,.inr ⟨g,cap,putCells id 0 (flatK enc k d') cur,rfl,hb,?_,hnc,hcm,?_,?_⟩⟩,⟨rfl,rfl,rfl,?_,?_⟩⟩
 ·have := congrArg List.length (flatK_list hk d')
  rw [←this];simp [hd]
 ·rw [hheap g hlt,hmod g,if_pos rfl,hg];rfl
 ·simp [putCells,hsz]
 ·rw [← flatK_list hk]
  have hle:n*k≤cur.size:=by rw [hsz];exact Nat.mul_le_mul_right k hnc
  apply List.ext_getElem?
  intro t
  by_cases ht:t < n*k
  ·rw [List.getElem?_take_of_lt ht]
   have h1:t < cur.size:=by omega
   have h2:t < (flatK enc k d').size:=by simpa [hd] using ht
   rw [Array.getElem?_toList,Array.getElem?_toList,Array.getElem?_eq_getElem h2]
   simp only [putCells,Array.getElem?_mapIdx,Array.getElem?_eq_getElem h1,Option.map_some]
   rw [if_pos ⟨Nat.zero_le _,by simpa [hd] using ht⟩]
   simp only [id,Nat.sub_zero]
   rw [getElem!_pos _ t h2]
  rw [List.getElem?_eq_none (by simp;omega),List.getElem?_eq_none (by simp [hd];omega)]
 ·show _ ≤ ((putRowK enc k (Sort.ahead w m) g 0 d').heap ++ os).size
  simp [hsize]
 intro i hi hne
 rw [hheap i hi,hmod i,if_neg (fun e=>hne (by rw [e]))]
end
end Go.Proofs.Ytjkhdldgmkkhjaa.M
namespace Go.Proofs.Ytjkhdldgmkkhjaa.M
def cmpInt (a b:Int):Int:=if a < b then -1 else if a > b then 1 else 0
def cmpList:List Int→List Int→Int
 | [],[]=>0
 | [],_ :: _=>-1
 | _ :: _,[]=>1
 | x :: s,y :: t=>if cmpInt x y=0 then cmpList s t else cmpInt x y
def orInt (a b:Int):Int:=if a=0 then b else a
theorem cmpInt_zero {a b:Int} : cmpInt a b=0↔a=b:=by unfold cmpInt;split<;>(try split)<;>omega
theorem cmpInt_anti (a b : Int) : cmpInt b a = - cmpInt a b := by unfold cmpInt; repeat' split
                                                                  all_goals omega
theorem cmpInt_lt {a b:Int} : cmpInt a b < 0↔a < b:=by unfold cmpInt;split<;>(try split)<;>omega
theorem cmpList_zero:∀{s t:List Int},cmpList s t=0↔s=t
 | [],[]=>by simp [cmpList]
 | [],_ :: _=>by simp [cmpList]
 | _ :: _,[]=>by simp [cmpList]
 | x :: s,y :: t=>by
  unfold cmpList
  by_cases h:cmpInt x y=0
  ·rw [if_pos h,cmpList_zero,cmpInt_zero.1 h];simp
  rw [if_neg h]
  constructor
  ·intro h2;exact absurd h2 h
  intro h2;injection h2 with h3 h4;exact absurd (cmpInt_zero.2 h3) h
theorem cmpList_anti:∀(s t:List Int),cmpList t s = - cmpList s t
 | [],[]=>by simp [cmpList]
 | [],_ :: _=>by simp [cmpList]
 | _ :: _,[]=>by simp [cmpList]
 | x :: s,y :: t=>by
  unfold cmpList
  rw [cmpInt_anti x y]
  by_cases h:cmpInt x y=0
  ·rw [if_pos (by omega),if_pos h,cmpList_anti s t]
  rw [if_neg (by omega),if_neg h]
theorem cmpList_trans:∀{s t u:List Int},cmpList s t < 0→cmpList t u < 0→cmpList s u < 0
 | [],[],_,h,_=>by simp [cmpList] at h
 | [],_ :: _,[],_,h=>by simp [cmpList] at h
 | [],_ :: _,_ :: _,_,_=>by simp [cmpList]
 | _ :: _,[],_,h,_=>by simp [cmpList] at h
 | _ :: _,_ :: _,[],_,h=>by simp [cmpList] at h
 | x :: s,y :: t,z :: u,h1,h2=>by
  unfold cmpList at h1 h2 ⊢
  by_cases hxy:cmpInt x y=0
  ·rw [if_pos hxy] at h1
   have:=cmpInt_zero.1 hxy
   subst this
   by_cases hyz:cmpInt x z=0
   ·rw [if_pos hyz] at h2 ⊢;exact cmpList_trans h1 h2
   rw [if_neg hyz] at h2 ⊢;exact h2
  rw [if_neg hxy] at h1
  by_cases hyz:cmpInt y z=0
  ·have := cmpInt_zero.1 hyz
   subst this
   rw [if_neg hxy];exact h1
  rw [if_neg hyz] at h2
  have a:=cmpInt_lt.1 h1
  have b:=cmpInt_lt.1 h2
  have c:cmpInt x z < 0:=cmpInt_lt.2 (by omega)
  rw [if_neg (by omega)];exact c
theorem orInt_zero {a b:Int} : orInt a b=0↔a=0∧b=0:=by unfold orInt;split<;>simp_all
structure TotalCmp {α:Type} (cmp:α→α→Int):Prop where
 zero:∀{x y},cmp x y=0↔x=y
 anti:∀x y,cmp y x = - cmp x y
 trans:∀{x y z},cmp x y < 0→cmp y z < 0→cmp x z < 0
theorem totalInt:TotalCmp cmpInt:=⟨cmpInt_zero,fun x y=>cmpInt_anti x y,fun h1 h2=>cmpInt_lt.2 (by have:=cmpInt_lt.1 h1;have:=cmpInt_lt.1 h2;omega)⟩
theorem totalList:TotalCmp cmpList:=⟨cmpList_zero,fun x y=>cmpList_anti x y,cmpList_trans⟩
theorem TotalCmp.or {α β γ:Type} {c1:α→α→Int} {c2:β→β→Int} (h1:TotalCmp c1) (h2:TotalCmp c2) (f:γ→α) (g:γ→β) (inj:∀x y,f x=f y→g x=g y→x=y) :
 TotalCmp (fun x y=>orInt (c1 (f x) (f y)) (c2 (g x) (g y))) where
 zero {x y}:=by
  rw [orInt_zero,h1.zero,h2.zero]
  constructor
  ·intro h;exact inj x y h.1 h.2
  rintro rfl;exact⟨rfl,rfl⟩
 anti x y:=by
  simp only [orInt]
  rw [h1.anti (f x) (f y),h2.anti (g x) (g y)]
  by_cases h:c1 (f x) (f y)=0
  ·rw [if_pos (by omega),if_pos h]
  rw [if_neg (by omega),if_neg h]
 trans {x y z} a b:=by
  simp only [orInt] at a b ⊢
  by_cases h:c1 (f x) (f y)=0
  ·rw [if_pos h] at a
   have e:=h1.zero.1 h
   by_cases k:c1 (f y) (f z)=0
   ·rw [if_pos k] at b
    have e2:=h1.zero.1 k
    rw [if_pos (h1.zero.2 (e.trans e2))]
    exact h2.trans a b
   rw [if_neg k] at b
   rw [e,if_neg k];exact b
  rw [if_neg h] at a
  by_cases k:c1 (f y) (f z)=0
  ·have e2 := h1.zero.1 k
   rw [←e2,if_neg h];exact a
  rw [if_neg k] at b
  have:=h1.trans a b
  rw [if_neg (by omega)];exact this
theorem TotalCmp.of {α γ:Type} {c:α→α→Int} (h:TotalCmp c) (f:γ→α) (inj:∀x y,f x=f y→x=y):TotalCmp (fun x y=>c (f x) (f y)):=
 ⟨fun {x y}=>by rw [h.zero];exact⟨inj x y,fun e=>by rw [e]⟩,fun x y=>h.anti _ _,fun a b=>h.trans a b⟩
section
variable {α : Type} {cmp : α → α → Int}
theorem TotalCmp.self (T:TotalCmp cmp) (x:α):cmp x x=0:=T.zero.2 rfl
theorem TotalCmp.unique (T:TotalCmp cmp):∀{l m:List α},l.Pairwise (fun x y=>cmp x y < 0)→m.Pairwise (fun x y=>cmp x y < 0)→(∀x,x∈l↔x∈m)→l=m
 | [],[],_,_,_=>rfl
 | [],y :: m,_,_,h=>by have:=(h y).2 List.mem_cons_self;simp at this
 | x :: l,[],_,_,h=>by have:=(h x).1 List.mem_cons_self;simp at this
 | x :: l,y :: m,hl,hm,h=>by
  obtain⟨h1,h2⟩:=List.pairwise_cons.1 hl
  obtain⟨h3,h4⟩:=List.pairwise_cons.1 hm
  have e:x=y:=by
   rcases List.mem_cons.1 ((h x).1 List.mem_cons_self) with e|e
   ·exact e
   rcases List.mem_cons.1 ((h y).2 List.mem_cons_self) with e2 | e2
   ·exact e2.symm
   have a := h1 y e2
   have b:=h3 x e
   have:=T.anti x y
   omega
  subst e
  have nx:∀{k:List α},(∀z∈k,cmp x z < 0)→x∉k:=fun hk hx=>by have:=hk x hx;have:=T.self x;omega
  have:l=m:=TotalCmp.unique T h2 h4 (fun z=>by
   have hz:=h z
   simp only [List.mem_cons] at hz
   constructor
   ·intro hzl
    rcases hz.1 (.inr hzl) with e|e
    ·subst e;exact absurd hzl (nx h1)
    exact e
   intro hzm
   rcases hz.2 (.inr hzm) with e|e
   ·subst e;exact absurd hzm (nx h3)
   exact e)
  rw [this]
end
section
variable {α : Type} (cmp : α → α → Int)
def insC:List α→α→List α
 | [],x=>[x]
 | y :: l,x=>if cmp x y < 0 then x :: y :: l else if cmp x y=0 then y :: l else y :: insC l x
def onceC (l:List α):List α:=l.foldl (insC cmp) []
end
section
variable {α : Type} {cmp : α → α → Int}
theorem TotalCmp.mem_ins (T:TotalCmp cmp):∀{l:List α} {x y:α},y∈insC cmp l x↔y=x∨y∈l
 | [],x,y=>by simp [insC]
 | z :: l,x,y=>by
  unfold insC
  split
  ·simp
  split
  ·rename_i h
   have:=T.zero.1 h
   subst this
   simp
  simp only [List.mem_cons, TotalCmp.mem_ins T (l := l)]
  constructor
  ·rintro (h | h | h)
   ·exact .inr (.inl h)
   ·exact .inl h
   exact .inr (.inr h)
  rintro (h | h | h)
  ·exact .inr (.inl h)
  ·exact .inl h
  exact .inr (.inr h)
theorem TotalCmp.ins_sorted (T:TotalCmp cmp):∀{l:List α} {x:α},l.Pairwise (fun x y=>cmp x y < 0)→(insC cmp l x).Pairwise (fun x y=>cmp x y < 0)
 | [],x,_=>by simp [insC]
 | z :: l,x,h=>by
  obtain⟨h1,h2⟩:=List.pairwise_cons.1 h
  unfold insC
  split
  ·rename_i hx
   exact List.pairwise_cons.2 ⟨fun y hy=>by
    rcases List.mem_cons.1 hy with rfl|hy
    ·exact hx
    exact T.trans hx (h1 y hy),h⟩
  split
  ·exact h
  rename_i a b
  refine List.pairwise_cons.2 ⟨fun y hy=>?_,TotalCmp.ins_sorted T h2⟩
  rcases T.mem_ins.1 hy with rfl|hy
  ·have:=T.anti y z;omega
  exact h1 y hy
theorem TotalCmp.once_sorted (T:TotalCmp cmp) (l:List α):(onceC cmp l).Pairwise (fun x y=>cmp x y < 0):=by
 have:∀(l acc:List α),acc.Pairwise (fun x y=>cmp x y < 0)→(l.foldl (insC cmp) acc).Pairwise (fun x y=>cmp x y < 0):=by
  intro l
  induction l with
  | nil=>intro acc h;exact h
  | cons x l ih=>intro acc h;exact ih _ (T.ins_sorted h)
 exact this l [] List.Pairwise.nil
theorem TotalCmp.mem_once (T:TotalCmp cmp) {l:List α} {y:α} : y∈onceC cmp l↔y∈l:=by
 have:∀(l acc:List α),y∈l.foldl (insC cmp) acc↔y∈acc∨y∈l:=by
  intro l
  induction l with
  | nil=>intro acc;simp
  | cons x l ih=>
   intro acc
   simp only [List.foldl_cons,ih,T.mem_ins,List.mem_cons]
   constructor
   ·rintro ((h | h) | h)
    ·exact .inr (.inl h)
    ·exact .inl h
    exact .inr (.inr h)
   rintro (h | h | h)
   ·exact .inl (.inr h)
   ·exact .inl (.inl h)
   exact .inr h
 have:=this l []
 simpa [onceC] using this
theorem TotalCmp.swo (T:TotalCmp cmp):Go.Sort.SWO (fun x y=>decide (cmp x y < 0)) where
 irrefl x:=by simp [T.self x]
 trans x y z h1 h2:=by simp at *;exact T.trans h1 h2
 ntrans x y z h1 h2:=by
  simp at *
  have a:=T.anti x y
  have b:=T.anti y z
  have c:=T.anti x z
  by_cases e1:cmp x y=0
  ·rw [T.zero.1 e1];exact h2
  by_cases e2 : cmp y z = 0
  ·rw [←T.zero.1 e2];exact h1
  have := T.trans (x := z) (y := y) (z := x) (by omega) (by omega)
  omega
end
end Go.Proofs.Ytjkhdldgmkkhjaa.M
namespace Go.Proofs.Ytjkhdldgmkkhjaa.M
open Go.RowKit Go.Sort
def ddF {α:Type} (eq:α→α→Bool):α→List α→List α
 | _,[]=>[]
 | p,y :: m=>if eq y p then ddF eq y m else y :: ddF eq y m
def dd {α:Type} (eq:α→α→Bool):List α→List α
 | []=>[]
 | x :: m=>x :: ddF eq x m
theorem ddF_snoc {α:Type} (eq:α→α→Bool):∀(l:List α) (p y:α),ddF eq p (l ++ [y])=ddF eq p l ++ if eq y (l.getLastD p) then [] else [y]
 | [],p,y=>by simp [ddF]
 | z :: m,p,y=>by
  have:=ddF_snoc eq m z y
  simp only [List.cons_append,ddF,this,List.getLastD_cons]
  by_cases h:eq z p<;>simp [h]
theorem dd_next {α:Type} (eq:α→α→Bool) (l:List α) (j:Nat) (h0:0 < j) (h:j < l.length):dd eq (l.take (j+1))=dd eq (l.take j) ++ if eq l[j] (l[j - 1]'(by omega)) then [] else [l[j]]:=by
 obtain⟨i,rfl⟩:∃i,j=i+1:=⟨j - 1,by omega⟩
 rw [←List.take_append_getElem h]
 cases l with
 | nil=>simp at h
 | cons x m=>
  have h2:i < m.length:=by simpa using h
  simp only [List.take_succ_cons,List.cons_append,dd,ddF_snoc,List.getElem_cons_succ,Nat.add_sub_cancel]
  have:(m.take i).getLastD x=(x :: m)[i]'(by simp;omega):=by
   cases i with
   | zero=>simp
   | succ i=>
    have h3:i < m.length:=by omega
    rw [←List.take_append_getElem h3]
    simp only [List.getLastD_concat,List.getElem_cons_succ]
  rw [this]
theorem ddF_sub {α:Type} (eq:α→α→Bool):∀(l:List α) (p:α),(ddF eq p l).Sublist l
 | [],_=>.slnil
 | y :: m,p=>by
  unfold ddF
  split
  ·exact(ddF_sub eq m y).cons _
  exact(ddF_sub eq m y).cons_cons _
theorem dd_sub {α:Type} (eq:α→α→Bool):∀(l:List α),(dd eq l).Sublist l
 | []=>.slnil
 | x :: m=>(ddF_sub eq m x).cons_cons _
theorem dd_one {α:Type} (eq:α→α→Bool) (l:List α) (h:l.length≤1):dd eq l=l:=by
 match l,h with
 | [],_=>rfl
 | [x],_=>rfl
theorem ddF_map {α β:Type} (f:α→β) (eq:β→β→Bool):∀(l:List α) (p:α),(ddF (fun x y=>eq (f x) (f y)) p l).map f=ddF eq (f p) (l.map f)
 | [],_=>rfl
 | y :: m,p=>by
  simp only [ddF,List.map_cons]
  split<;>simp [ddF_map f eq m y]
theorem dd_map {α β:Type} (f:α→β) (eq:β→β→Bool):∀(l:List α),(dd (fun x y=>eq (f x) (f y)) l).map f=dd eq (l.map f)
 | []=>rfl
 | x :: m=>by simp [dd,ddF_map]
section
variable {α : Type} {cmp : α → α → Int}
theorem TotalCmp.ddF_sorted (T:TotalCmp cmp):∀(l:List α) (p:α),(p :: l).Pairwise (fun x y=>¬cmp y x < 0)→(p :: ddF (fun x y=>decide (cmp x y=0)) p l).Pairwise (fun x y=>cmp x y < 0)
 | [],_,_=>by simp [ddF]
 | y :: m,p,h=>by
  obtain⟨h1,h2⟩:=List.pairwise_cons.1 h
  have ih:=TotalCmp.ddF_sorted T m y h2
  unfold ddF
  by_cases e:cmp y p=0
  ·rw [if_pos (by simpa using e)]
   have:=T.zero.1 e
   subst this
   exact ih
  rw [if_neg (by simpa using e)]
  have h3:¬cmp y p < 0:=h1 y (by simp)
  have h4:cmp p y < 0:=by have:=T.anti y p;omega
  refine List.pairwise_cons.2 ⟨fun z hz=>?_,ih⟩
  rcases List.mem_cons.1 hz with rfl|hz
  ·exact h4
  exact T.trans h4 ((List.pairwise_cons.1 ih).1 z hz)
theorem TotalCmp.ddF_mem (T:TotalCmp cmp):∀(l:List α) (p z:α),z∈p :: ddF (fun x y=>decide (cmp x y=0)) p l↔z∈p :: l
 | [],_,_=>by simp [ddF]
 | y :: m,p,z=>by
  have ih:=TotalCmp.ddF_mem T m y z
  unfold ddF
  by_cases e:cmp y p=0
  ·rw [if_pos (by simpa using e)]
   have:=T.zero.1 e
   subst this
   rw [ih]
   simp
  rw [if_neg (by simpa using e),List.mem_cons,ih,List.mem_cons (a:=z) (b:=p)]
theorem TotalCmp.dd_once (T:TotalCmp cmp) {l m:List α} (h:l.Pairwise (fun x y=>¬cmp y x < 0)) (hm:∀x,x∈l↔x∈m):dd (fun x y=>decide (cmp x y=0)) l=onceC cmp m:=by
 refine T.unique ?_ (T.once_sorted m) (fun x=>?_)
 ·cases l with
  | nil=>exact List.Pairwise.nil
  | cons x l=>exact T.ddF_sorted l x h
 rw [T.mem_once, ← hm x]
 cases l with
 | nil=>simp [dd]
 | cons y l=>exact T.ddF_mem l y x
end
theorem take_set_next {α:Type} (l:List α) (k:Nat) (x:α) (h:k < l.length):(l.set k x).take (k+1)=l.take k ++ [x]:=by
 apply List.ext_getElem?
 intro t
 rw [List.getElem?_take,List.getElem?_append,List.getElem?_set,List.getElem?_take]
 simp only [List.length_take]
 repeat' split
 all_goals (first|rfl|omega|skip)
 all_goals (first|(have e:t - min k l.length=0:=by omega);rw [e];rfl|(rw [List.getElem?_eq_none (by simp;omega)])|skip)
section
variable {α : Type} {enc : α → List Value}
theorem flat_len (hk:∀x,(enc x).length=2):∀(l:List α),(l.flatMap enc).length=l.length*2
 | []=>rfl
 | x :: l=>by simp [flat_len hk l,hk];omega
theorem flat_take (hk:∀x,(enc x).length=2):∀(l:List α) (i:Nat),(l.flatMap enc).take (i*2)=(l.take i).flatMap enc
 | [],_=>by simp
 | x :: l,0=>by simp
 | x :: l,i+1=>by
  rw [List.take_succ_cons,List.flatMap_cons,List.flatMap_cons,List.take_append,hk,show (i+1)*2 - 2=i*2 by omega,flat_take hk l i,List.take_of_length_le (by rw [hk];omega)]
theorem flat_get (hk:∀x,(enc x).length=2):∀(l:List α) (i:Nat) (h:i < l.length) (a b:Value),enc l[i] = [a,b]→(l.flatMap enc)[i*2]? = some a∧(l.flatMap enc)[i*2+1]? = some b
 | x :: l,0,_,a,b,e=>by
  simp only [List.getElem_cons_zero] at e
  simp [e]
 | x :: l,i+1,h,a,b,e=>by
  have ih:=flat_get hk l i (by simpa using h) a b (by simpa using e)
  rw [List.flatMap_cons,List.getElem?_append_right (by rw [hk];omega),List.getElem?_append_right (by rw [hk];omega),hk,show (i+1)*2 - 2=i*2 by omega,show (i+1)*2+1 - 2=i*2+1 by omega]
  exact ih
theorem flat_set (hk:∀x,(enc x).length=2):∀(l:List α) (i:Nat) (p:α) (a b:Value),enc p = [a,b]→((l.set i p).flatMap enc)=((l.flatMap enc).set (i*2) a).set (i*2+1) b
 | [],_,_,_,_,_=>by simp
 | x :: l,0,p,a,b,e=>by
  have h:=hk x
  match hx:enc x,h with
  | [u,v],_=>simp [e,hx]
 | x :: l,i+1,p,a,b,e=>by
  have ih:=flat_set hk l i p a b e
  rw [List.set_cons_succ,List.flatMap_cons,ih,List.flatMap_cons,List.set_append_right _ _ (by rw [hk];omega),List.set_append_right _ _ (by rw [hk];omega),hk,show (i+1)*2 - 2=i*2 by omega,show (i+1)*2+1 - 2=i*2+1 by omega]
def Has2 (enc:α→List Value) (w:World) (g:Nat) (e:TypeId) (cap:Nat) (rows:List α):Prop:=∃cur,w.heap[g]? = some (.cells cur e (0,0))∧cur.size=cap*2∧rows.length≤cap∧cur.toList.take (rows.length*2)=rows.flatMap enc
variable {w w' : World} {g cap : Nat} {e : TypeId} {rows : List α}
theorem Has2.of_own {base n:Nat} (hn:n=rows.length) (h:w.ownsRow base e 2 (.slice (some ⟨g,0,none⟩) n cap) n (rows.flatMap enc)):Has2 enc w g e cap rows∧base≤g∧cap≤maxLen:=by
 subst hn
 rcases h.2 with ⟨h1,_⟩|⟨g',c,cur,h1,h2,h3,h4,h5,h6,h7⟩
 ·cases h1
 cases h1;exact⟨⟨cur,h3,h6,h4,h7⟩,h2,h5⟩
theorem Has2.own (hk:∀x,(enc x).length=2) (h:Has2 enc w g e cap rows) {base:Nat} (hb:base≤g) (hc:cap≤maxLen):w.ownsRow base e 2 (.slice (some ⟨g,0,none⟩) rows.length cap) rows.length (rows.flatMap enc):=by
 obtain⟨cur,h1,h2,h3,h4⟩:=h
 exact⟨flat_len hk rows,.inr ⟨g,cap,cur,rfl,hb,h1,h3,hc,h2,h4⟩⟩
theorem Has2.lt (h:Has2 enc w g e cap rows):g < w.heap.size:=by
 obtain⟨cur,h1,_⟩:=h
 exact(Array.getElem?_eq_some_iff.1 h1).1
theorem Has2.move (h:Has2 enc w g e cap rows) (hw:w'.heap[g]? = w.heap[g]?):Has2 enc w' g e cap rows:=by
 obtain⟨cur,h1,h2⟩:=h
 exact⟨cur,hw.trans h1,h2⟩
theorem Has2.take (hk:∀x,(enc x).length=2) (h:Has2 enc w g e cap rows) (k:Nat):Has2 enc w g e cap (rows.take k):=by
 obtain⟨cur,h1,h2,h3,h4⟩:=h
 refine⟨cur,h1,h2,by simp;omega,?_⟩
 rw [←flat_take hk,←h4,List.take_take,List.length_take]
 congr 1
 omega
theorem Has2.cell (hk:∀x,(enc x).length=2) (h:Has2 enc w g e cap rows) (i:Nat) (hi:i < rows.length) {a b:Value} (he:enc rows[i] = [a,b]):w.cell? ⟨g,i*2,none⟩=some a∧w.cell? ⟨g,i*2+1,none⟩=some b:=by
 obtain⟨cur,h1,h2,h3,h4⟩:=h
 obtain⟨e1,e2⟩:=flat_get hk rows i hi a b he
 rw [←h4,List.getElem?_take_of_lt (by omega),Array.getElem?_toList] at e1 e2
 simp [World.cell?,h1,e1,e2]
theorem Has2.frozen (h:Has2 enc w g e cap rows) (o:Nat):w.frozen? ⟨g,o,none⟩=false:=by
 obtain⟨cur,h1,_⟩:=h
 simp [World.frozen?,h1]
theorem Has2.has (h:Has2 enc w g e cap rows) (o:Nat) (ho:o < cap*2):(w.cell? ⟨g,o,none⟩).isSome=true:=by
 obtain⟨cur,h1,h2,_⟩:=h
 simp [World.cell?,h1,h2,ho]
theorem Has2.set (hk:∀x,(enc x).length=2) (h:Has2 enc w g e cap rows) (i:Nat) (hi:i < rows.length) (p:α) {a b:Value} (he:enc p = [a,b]):Has2 enc ((w.setCell ⟨g,i*2,none⟩ a).setCell ⟨g,i*2+1,none⟩ b) g e cap (rows.set i p):=by
 obtain⟨cur,h1,h2,h3,h4⟩:=h
 refine⟨(cur.setIfInBounds (i*2) a).setIfInBounds (i*2+1) b,?_,by simp [h2],by simpa using h3,?_⟩
 ·rw [setCell_eq_setRow w g _ cur e (0, 0) a h1, setCell_eq_setRow _ g _ _ e (0, 0) b (setRow_heap w g cur _ e (0, 0) h1)]
  exact setRow_heap _ g _ _ e (0,0) (setRow_heap w g cur _ e (0,0) h1)
 rw [List.length_set, flat_set hk rows i p a b he, ← h4]
 apply List.ext_getElem?
 intro t
 simp only [List.getElem?_set,List.getElem?_take,Array.toList_setIfInBounds,List.length_set,List.length_take,Array.length_toList]
 repeat' split
 all_goals (first|rfl|omega)
theorem setCells_heap:∀(vs:List Value) (o:Nat) (w:World) (cur:Array Value),w.heap[g]? = some (.cells cur e (0,0))→∃cur',(w.setCells g o vs).heap[g]? = some (.cells cur' e (0,0))∧cur'.size=cur.size∧∀t,t < o→cur'[t]? = cur[t]?
 | [],_,_,cur,h=>⟨cur,h,rfl,fun _ _=>rfl⟩
 | v :: r,o,w,cur,h=>by
  rw [World.setCells,setCell_eq_setRow w g o cur e (0,0) v h]
  obtain⟨cur',h1,h2,h3⟩:=setCells_heap r (o+1) _ _ (setRow_heap w g cur (cur.setIfInBounds o v) e (0,0) h)
  refine⟨cur',h1,by simpa using h2,fun t ht=>?_⟩
  rw [h3 t (by omega),Array.getElem?_setIfInBounds_ne (by omega)]
theorem setCells_other:∀(vs:List Value) (o:Nat) (w:World) (k:Nat),k≠g→(w.setCells g o vs).heap[k]? = w.heap[k]?
 | [],_,_,_,_=>rfl
 | v :: r,o,w,k,h=>by
  rw [World.setCells,setCells_other r _ _ k h]
  simp [World.setCell,Array.getElem?_modify,Ne.symm h]
theorem setCells_same:∀(vs:List Value) (o:Nat) (w:World),(w.setCells g o vs).os=w.os∧(w.setCells g o vs).tape=w.tape∧(w.setCells g o vs).output=w.output∧(w.setCells g o vs).heap.size=w.heap.size
 | [],_,_=>⟨rfl,rfl,rfl,rfl⟩
 | v :: r,o,w=>by
  obtain⟨h1,h2,h3,h4⟩:=setCells_same r (o+1) (w.setCell ⟨g,o,none⟩ v)
  rw [World.setCells]
  exact⟨h1.trans rfl,h2.trans rfl,h3.trans rfl,h4.trans (by simp [World.setCell])⟩
theorem gb_setCells (vs:List Value) (o:Nat) (w:World):w.grownBy (w.setCells g o vs) (some g):=by
 obtain⟨h1,h2,h3,h4⟩:=setCells_same (g:=g) vs o w
 exact⟨h1,h2,h3,by omega,fun k _ hk=>setCells_other vs o w k (fun e=>hk (by rw [e]))⟩
theorem Has2.cut (hk:∀x,(enc x).length=2) (h:Has2 enc w g e cap rows) (k:Nat) (vs:List Value):Has2 enc (w.setCells g (k*2) vs) g e cap (rows.take k):=by
 obtain⟨cur,h1,h2,h3,h4⟩:=h.take hk k
 obtain⟨cur',h5,h6,h7⟩:=setCells_heap vs (k*2) w cur h1
 refine⟨cur',h5,h6.trans h2,h3,?_⟩
 rw [←h4]
 apply List.ext_getElem?
 intro t
 by_cases ht:t < (rows.take k).length*2
 ·rw [List.getElem?_take_of_lt ht,List.getElem?_take_of_lt ht,Array.getElem?_toList,Array.getElem?_toList,h7 t (by simp at ht;omega)]
 rw [List.getElem?_take,List.getElem?_take,if_neg ht,if_neg ht]
theorem run_clear2 {P:Program} (w:World) (t e:TypeId) (z a b:Value) (ht:P.underlying t=some (.slice e)) (hv:∀w,(zeroValue e).run P w=.ok z w) (hz:z.cells=#[a,b]) (ha:a.oneCell' = true) (hb:b.oneCell' = true) (g o n c:Nat) (hn:0 < n)
 (hc:∀j,j < n*2→(w.cell? ⟨g,o+j,none⟩).isSome=true) (hf:∀j,j < n*2→w.frozen? ⟨g,o+j,none⟩=false) :
 ∃vs,∀ty,(Builtin.clear_ #[t] ty #[.slice (some ⟨g,o,none⟩) n c]).run P w=.ok (.tuple #[]) (w.setCells g o vs):=by
 have hl:(Builtin.zeroCells z.cells n).toList.length=n*2:=by simp [Builtin.zeroCells,hz]
 refine⟨(Builtin.zeroCells z.cells n).toList,fun ty=>?_⟩
 have hst:=run_storeCells_cells (P:=P) g o (Builtin.zeroCells z.cells n).toList 0 w (fun j hj=>by simpa using hc j (by omega)) (fun j hj=>by simpa using hf j (by omega)) (by
  intro v hv'
  simp only [Builtin.zeroCells,hz,Array.toList_map,List.mem_map] at hv'
  obtain⟨i,_,rfl⟩:=hv'
  have:i % 2=0∨i % 2=1:=by omega
  rcases this with h|h<;>simp [h,ha,hb])
 simp only [Nat.add_zero] at hst
 obtain⟨m,rfl⟩:∃m,n=m+1:=⟨n - 1,by omega⟩
 simp [Builtin.clear_,run_underlying ht,hv,hst]
end
end Go.Proofs.Ytjkhdldgmkkhjaa.M
