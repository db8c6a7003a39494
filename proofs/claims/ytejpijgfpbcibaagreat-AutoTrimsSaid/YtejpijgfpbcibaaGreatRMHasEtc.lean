/- Words and walks of this claim: MHas, UTy, GRule, MInts, SAInts, MStep, UOutR, UGoT, MCount, UMat, MTk. -/
import Derived.Test.YtejpijgfpbcibaaGreatRMAll
import Derived.Test.YtejpijgfpbcibaaGreatRP0Etc
import Derived.Shelf.SlSortCmp.NoneTotal
import Derived.BigQuiet
import Derived.Test.YtejpijgfpbcibaaGreatRLOpenEtc
import Derived.Test.YtejpijgfpbcibaaGreatRWEqStructEtc
import Derived.Test.YtejpijgfpbcibaaGreatRPAutoWays
set_option linter.unusedVariables false
set_option linter.unusedSimpArgs false
set_option linter.unnecessarySimpa false
section
namespace Go.Proofs.YtejpijgfpbcibaaGreat.M
open Go.RowKit Go.Sort Go.Shelf Go.Lib
section
variable {α : Type} {enc : α → List Value} {K : Nat}
theorem flatN_len (hk:∀x,(enc x).length=K):∀(l:List α),(l.flatMap enc).length=l.length*K
 | []=>by simp
 | x :: l=>by simp [flatN_len hk l,hk,Nat.succ_mul];omega
theorem flatN_take (hk:∀x,(enc x).length=K):∀(l:List α) (i:Nat),(l.flatMap enc).take (i*K)=(l.take i).flatMap enc
 | [],_=>by simp
 | x :: l,0=>by simp
 | x :: l,i+1=>by
  rw [List.take_succ_cons,List.flatMap_cons,List.flatMap_cons,List.take_append,hk,show (i+1)*K - K=i*K by rw [Nat.succ_mul];omega,flatN_take hk l i,List.take_of_length_le (by rw [hk,Nat.succ_mul];omega)]
theorem flatN_get (hk:∀x,(enc x).length=K):∀(l:List α) (i:Nat) (h:i < l.length) (j:Nat) (v:Value),(enc l[i])[j]? = some v→(l.flatMap enc)[i*K+j]? = some v
 | x :: l,0,_,j,v,e=>by
  simp only [List.getElem_cons_zero] at e
  have hj:=(List.getElem?_eq_some_iff.1 e).1
  rw [List.flatMap_cons,List.getElem?_append_left (by omega),Nat.zero_mul,Nat.zero_add]
  exact e
 | x :: l,i+1,h,j,v,e=>by
  have ih:=flatN_get hk l i (by simpa using h) j v (by simpa using e)
  rw [List.flatMap_cons,List.getElem?_append_right (by rw [hk,Nat.succ_mul];omega),hk,show (i+1)*K+j - K=i*K+j by rw [Nat.succ_mul];omega]
  exact ih
theorem flatN_set (hk:∀x,(enc x).length=K):∀(l:List α) (i:Nat) (h:i < l.length) (p:α) (t:Nat),((l.set i p).flatMap enc)[t]? = if i*K≤t∧t < i*K+K then (enc p)[t - i*K]? else (l.flatMap enc)[t]?
 | x :: l,0,_,p,t=>by
  rw [List.set_cons_zero,List.flatMap_cons,List.flatMap_cons]
  by_cases ht:t < K
  ·rw [if_pos ⟨by omega, by omega⟩, List.getElem?_append_left (by rw [hk]; exact ht)]
   simp
  rw [if_neg (by omega),List.getElem?_append_right (by rw [hk];omega),List.getElem?_append_right (by rw [hk];omega),hk,hk]
 | x :: l,i+1,h,p,t=>by
  have ih:=flatN_set hk l i (by simpa using h) p
  rw [List.set_cons_succ,List.flatMap_cons,List.flatMap_cons]
  by_cases ht:t < K
  ·rw [if_neg (by rw [Nat.succ_mul];omega),List.getElem?_append_left (by rw [hk];exact ht),List.getElem?_append_left (by rw [hk];exact ht)]
  rw [List.getElem?_append_right (by rw [hk]; omega), List.getElem?_append_right (by rw [hk]; omega), hk, ih (t - K)]
  have e:(i+1)*K=i*K+K:=Nat.succ_mul i K
  by_cases hc:i*K≤t - K∧t - K < i*K+K
  ·rw [if_pos hc,if_pos (by omega),e,show t - K - i*K=t - (i*K+K) by omega]
  rw [if_neg hc,if_neg (by omega)]
def HasN (enc:α→List Value) (K:Nat) (w:World) (g:Nat) (e:TypeId) (cap:Nat) (rows:List α):Prop:=∃cur,w.heap[g]? = some (.cells cur e (0,0))∧cur.size=cap*K∧rows.length≤cap∧cur.toList.take (rows.length*K)=rows.flatMap enc
variable {w w' : World} {g cap : Nat} {e : TypeId} {rows : List α}
theorem HasN.of_own {base n:Nat} (hn:n=rows.length) (h:w.ownsRow base e K (.slice (some ⟨g,0,none⟩) n cap) n (rows.flatMap enc)):HasN enc K w g e cap rows∧base≤g∧cap≤maxLen:=by
 subst hn
 rcases h.2 with ⟨h1,_⟩|⟨g',c,cur,h1,h2,h3,h4,h5,h6,h7⟩
 ·cases h1
 cases h1;exact⟨⟨cur,h3,h6,h4,h7⟩,h2,h5⟩
theorem HasN.own (hk:∀x,(enc x).length=K) (h:HasN enc K w g e cap rows) {base:Nat} (hb:base≤g) (hc:cap≤maxLen):w.ownsRow base e K (.slice (some ⟨g,0,none⟩) rows.length cap) rows.length (rows.flatMap enc):=by
 obtain⟨cur,h1,h2,h3,h4⟩:=h
 exact⟨flatN_len hk rows,.inr ⟨g,cap,cur,rfl,hb,h1,h3,hc,h2,h4⟩⟩
theorem HasN.lt (h:HasN enc K w g e cap rows):g < w.heap.size:=by
 obtain⟨cur,h1,_⟩:=h
 exact(Array.getElem?_eq_some_iff.1 h1).1
theorem HasN.move (h:HasN enc K w g e cap rows) (hw:w'.heap[g]? = w.heap[g]?):HasN enc K w' g e cap rows:=by
 obtain⟨cur,h1,h2⟩:=h
 exact⟨cur,hw.trans h1,h2⟩
theorem HasN.take (hk:∀x,(enc x).length=K) (h:HasN enc K w g e cap rows) (k:Nat):HasN enc K w g e cap (rows.take k):=by
 obtain⟨cur,h1,h2,h3,h4⟩:=h
 refine⟨cur,h1,h2,by simp;omega,?_⟩
 rw [←flatN_take hk,←h4,List.take_take,List.length_take]
 congr 1
 rw [←Nat.mul_min_mul_right]
theorem HasN.cell (hk:∀x,(enc x).length=K) (h:HasN enc K w g e cap rows) (i:Nat) (hi:i < rows.length) (j:Nat) (v:Value) (he:(enc rows[i])[j]? = some v):w.cell? ⟨g,i*K+j,none⟩=some v:=by
 obtain⟨cur,h1,h2,h3,h4⟩:=h
 have e1:=flatN_get hk rows i hi j v he
 have hj:=(List.getElem?_eq_some_iff.1 he).1
 rw [hk] at hj
 have hle:i*K+K≤rows.length*K:=by rw [←Nat.succ_mul];exact Nat.mul_le_mul_right K hi
 rw [←h4,List.getElem?_take_of_lt (by omega),Array.getElem?_toList] at e1
 simp [World.cell?,h1,e1]
theorem HasN.frozen (h:HasN enc K w g e cap rows) (o:Nat):w.frozen? ⟨g,o,none⟩=false:=by
 obtain⟨cur,h1,_⟩:=h
 simp [World.frozen?,h1]
theorem HasN.has (h:HasN enc K w g e cap rows) (o:Nat) (ho:o < cap*K):(w.cell? ⟨g,o,none⟩).isSome=true:=by
 obtain⟨cur,h1,h2,_⟩:=h
 simp [World.cell?,h1,h2,ho]
theorem setCells_get:∀(vs:List Value) (o:Nat) (w:World) (cur:Array Value),w.heap[g]? = some (.cells cur e (0,0))→∃cur',(w.setCells g o vs).heap[g]? = some (.cells cur' e (0,0))∧cur'.size=cur.size∧∀t,t < cur.size→cur'[t]? = if o≤t∧t < o+vs.length then vs[t - o]? else cur[t]?
 | [],o,_,cur,h=>⟨cur,h,rfl,fun t _=>by rw [if_neg (by simp)]⟩
 | v :: r,o,w,cur,h=>by
  rw [World.setCells,setCell_eq_setRow w g o cur e (0,0) v h]
  obtain⟨cur',h1,h2,h3⟩:=setCells_get r (o+1) _ _ (setRow_heap w g cur (cur.setIfInBounds o v) e (0,0) h)
  refine⟨cur',h1,by simpa using h2,fun t ht=>?_⟩
  rw [h3 t (by simpa using ht)]
  by_cases h4:o+1≤t∧t < o+1+r.length
  ·rw [if_pos h4,if_pos (by simp;omega),show t - o=(t - (o+1))+1 by omega,List.getElem?_cons_succ]
  rw [if_neg h4]
  by_cases h5:t=o
  ·subst h5
   rw [if_pos (by simp),Nat.sub_self,List.getElem?_cons_zero,Array.getElem?_setIfInBounds_self_of_lt ht]
  rw [if_neg (by simp;omega),Array.getElem?_setIfInBounds_ne (by omega)]
theorem HasN.set (hk:∀x,(enc x).length=K) (h:HasN enc K w g e cap rows) (i:Nat) (hi:i < rows.length) (p:α):HasN enc K (w.setCells g (i*K) (enc p)) g e cap (rows.set i p):=by
 obtain⟨cur,h1,h2,h3,h4⟩:=h
 obtain⟨cur',h5,h6,h7⟩:=setCells_get (enc p) (i*K) w cur h1
 have hle:i*K+K≤rows.length*K:=by rw [←Nat.succ_mul];exact Nat.mul_le_mul_right K hi
 have hcap:rows.length*K≤cap*K:=Nat.mul_le_mul_right K h3
 refine⟨cur',h5,h6.trans h2,by simpa using h3,?_⟩
 apply List.ext_getElem?
 intro t
 rw [List.length_set,flatN_set hk rows i hi p t,←h4]
 by_cases ht:t < rows.length*K
 ·rw [List.getElem?_take_of_lt ht, List.getElem?_take_of_lt ht, Array.getElem?_toList (xs := cur'), h7 t (by omega), hk]
  split
  ·rfl
  rw [Array.getElem?_toList]
 rw [if_neg (by omega),List.getElem?_take,if_neg ht,List.getElem?_take,if_neg ht]
theorem HasN.cut (hk:∀x,(enc x).length=K) (h:HasN enc K w g e cap rows) (k:Nat) (vs:List Value):HasN enc K (w.setCells g (k*K) vs) g e cap (rows.take k):=by
 obtain⟨cur,h1,h2,h3,h4⟩:=h.take hk k
 obtain⟨cur',h5,h6,h7⟩:=setCells_heap vs (k*K) w cur h1
 refine⟨cur',h5,h6.trans h2,h3,?_⟩
 rw [←h4]
 apply List.ext_getElem?
 intro t
 have hle:(rows.take k).length*K≤k*K:=Nat.mul_le_mul_right K (by simp;omega)
 by_cases ht:t < (rows.take k).length*K
 ·rw [List.getElem?_take_of_lt ht,List.getElem?_take_of_lt ht,Array.getElem?_toList,Array.getElem?_toList,h7 t (by omega)]
 rw [List.getElem?_take,List.getElem?_take,if_neg ht,if_neg ht]
theorem run_clearN {P:Program} (w:World) (t e:TypeId) (z:Value) (ht:P.underlying t=some (.slice e)) (hv:∀w,(zeroValue e).run P w=.ok z w) (hz:z.cells.size=K) (hK:0 < K) (h1:∀v∈z.cells.toList,v.oneCell' = true) (g o n c:Nat) (hn:0 < n)
 (hc:∀j,j < n*K→(w.cell? ⟨g,o+j,none⟩).isSome=true) (hf:∀j,j < n*K→w.frozen? ⟨g,o+j,none⟩=false) :
 ∃vs,∀ty,(Builtin.clear_ #[t] ty #[.slice (some ⟨g,o,none⟩) n c]).run P w=.ok (.tuple #[]) (w.setCells g o vs):=by
 have hl:(Builtin.zeroCells z.cells n).toList.length=n*K:=by simp [Builtin.zeroCells,hz]
 refine⟨(Builtin.zeroCells z.cells n).toList,fun ty=>?_⟩
 have hst:=run_storeCells_cells (P:=P) g o (Builtin.zeroCells z.cells n).toList 0 w (fun j hj=>by simpa using hc j (by omega)) (fun j hj=>by simpa using hf j (by omega)) (by
  intro v hv'
  simp only [Builtin.zeroCells,Array.toList_map,List.mem_map] at hv'
  obtain⟨i,_,rfl⟩:=hv'
  have hi:i % z.cells.size < z.cells.size:=Nat.mod_lt _ (by omega)
  rw [getElem!_pos z.cells _ hi]
  exact h1 _ (by simp))
 simp only [Nat.add_zero] at hst
 obtain⟨m,rfl⟩:∃m,n=m+1:=⟨n - 1,by omega⟩
 simp [Builtin.clear_,run_underlying ht,hv,hst]
end
end Go.Proofs.YtejpijgfpbcibaaGreat.M
end
section
namespace Go.Proofs.YtejpijgfpbcibaaGreat.P
open Go.RowKit Go.Proofs.YtejpijgfpbcibaaGreatW.PrintWords Go.Proofs.YtejpijgfpbcibaaGreatW.PrintLast Go.Proofs.YtejpijgfpbcibaaGreatW.PrintMore Go.Proofs.YtejpijgfpbcibaaGreat.M
theorem or_anti (a b:Int):orInt (-a) (-b) = -(orInt a b):=by unfold orInt;by_cases h:a=0<;>simp [h]
theorem or_lt {a b:Int} : orInt a b < 0↔a < 0∨(a=0∧b < 0):=by unfold orInt;by_cases h:a=0<;>simp [h]
theorem or_trans {α:Type} {c:α→α→Int} {x y z:α} {p q r:Int} (ht:∀{x y z},c x y < 0→c y z < 0→c x z < 0) (h0:∀{x y},c x y=0↔x=y) (hr:p < 0→q < 0→r < 0):orInt (c x y) p < 0→orInt (c y z) q < 0→orInt (c x z) r < 0:=by
 rw [or_lt,or_lt,or_lt]
 rintro(h1|⟨h1,h1'⟩) (h2|⟨h2,h2'⟩)
 ·exact .inl (ht h1 h2)
 ·rw [h0] at h2;subst h2;exact .inl h1
 ·rw [h0] at h1;subst h1;exact .inl h2
 rw [h0] at h1 h2;subst h1;subst h2;exact .inr ⟨h0.2 rfl,hr h1' h2'⟩
abbrev TOpen:=S36
def cmpOpen (x y:TOpen):Int:=(orInt (cmpInt x.f0 y.f0) (orInt (cmpInt x.f1 y.f1) (orInt (cmpInt x.f2 y.f2) (cmpInt x.f3 y.f3))))
theorem totalOpen:TotalCmp cmpOpen:=by
 have h1:=totalInt
 have e:cmpOpen=fun x y=>(orInt (cmpInt x.f0 y.f0) (orInt (cmpInt x.f1 y.f1) (orInt (cmpInt x.f2 y.f2) (cmpInt x.f3 y.f3)))):=rfl
 constructor
 ·intro x y
  cases x;cases y
  simp only [cmpOpen,orInt_zero,cmpInt_zero]
  constructor
  ·rintro ⟨h0_, h1_, h2_, h3_⟩
   simp_all
  intro h
  injection h with h0_ h1_ h2_ h3_
  simp_all
 ·intro x y
  simp only [cmpOpen]
  rw [cmpInt_anti x.f0 y.f0,cmpInt_anti x.f1 y.f1,cmpInt_anti x.f2 y.f2,cmpInt_anti x.f3 y.f3]
  simp only [or_anti]
 intro x y z
 simp only [cmpOpen]
 exact or_trans totalInt.trans cmpInt_zero (or_trans totalInt.trans cmpInt_zero (or_trans totalInt.trans cmpInt_zero (totalInt.trans)))
abbrev TClose:=S38
def cmpClose (x y:TClose):Int:=(orInt (cmpInt x.f0 y.f0) (orInt (cmpInt x.f1 y.f1) (orInt (cmpInt x.f2 y.f2) (cmpInt x.f3 y.f3))))
theorem totalClose:TotalCmp cmpClose:=by
 have h1:=totalInt
 have e:cmpClose=fun x y=>(orInt (cmpInt x.f0 y.f0) (orInt (cmpInt x.f1 y.f1) (orInt (cmpInt x.f2 y.f2) (cmpInt x.f3 y.f3)))):=rfl
 constructor
 ·intro x y
  cases x;cases y
  simp only [cmpClose,orInt_zero,cmpInt_zero]
  constructor
  ·rintro ⟨h0_, h1_, h2_, h3_⟩
   simp_all
  intro h
  injection h with h0_ h1_ h2_ h3_
  simp_all
 ·intro x y
  simp only [cmpClose]
  rw [cmpInt_anti x.f0 y.f0,cmpInt_anti x.f1 y.f1,cmpInt_anti x.f2 y.f2,cmpInt_anti x.f3 y.f3]
  simp only [or_anti]
 intro x y z
 simp only [cmpClose]
 exact or_trans totalInt.trans cmpInt_zero (or_trans totalInt.trans cmpInt_zero (or_trans totalInt.trans cmpInt_zero (totalInt.trans)))
abbrev TInner:=S40
def cmpInner (x y:TInner):Int:=(orInt (cmpInt x.f0 y.f0) (orInt (cmpInt x.f1 y.f1) (cmpInt x.f2 y.f2)))
theorem totalInner:TotalCmp cmpInner:=by
 have h1:=totalInt
 have e:cmpInner=fun x y=>(orInt (cmpInt x.f0 y.f0) (orInt (cmpInt x.f1 y.f1) (cmpInt x.f2 y.f2))):=rfl
 constructor
 ·intro x y
  cases x;cases y
  simp only [cmpInner,orInt_zero,cmpInt_zero]
  constructor
  ·rintro ⟨h0_, h1_, h2_⟩
   simp_all
  intro h
  injection h with h0_ h1_ h2_
  simp_all
 ·intro x y
  simp only [cmpInner]
  rw [cmpInt_anti x.f0 y.f0,cmpInt_anti x.f1 y.f1,cmpInt_anti x.f2 y.f2]
  simp only [or_anti]
 intro x y z
 simp only [cmpInner]
 exact or_trans totalInt.trans cmpInt_zero (or_trans totalInt.trans cmpInt_zero (totalInt.trans))
end Go.Proofs.YtejpijgfpbcibaaGreat.P
end
section
namespace Go.Proofs.YtejpijgfpbcibaaGreat.P
open Go.RowKit Go.Proofs.YtejpijgfpbcibaaGreatW.PrintWords Go.Proofs.YtejpijgfpbcibaaGreatW.PrintLast Go.Proofs.YtejpijgfpbcibaaGreatW.PrintMore Go.Proofs.YtejpijgfpbcibaaGreat.M
theorem compare_f (a b:Int):cmp_Compare_int.f a b=some (cmpInt a b):=by
 simp only [cmp_Compare_int.f,cmp_isNaN_int.f,Option.bind_some,bne_self_eq_false,Bool.false_eq_true,if_false,cmpInt]
 split
 ·rfl
 split<;>rfl
theorem or_f3 (a b c:Int):cmp_Or_int.f 4 [a,b,c]=some (orInt a (orInt b c)):=by
 have w1:wrap64 1=1:=by unfold wrap64;omega
 have w2:wrap64 2=2:=by unfold wrap64;omega
 have w3:wrap64 3=3:=by unfold wrap64;omega
 by_cases ha:a=0
 ·by_cases hb : b = 0
  ·by_cases hc : c = 0
   ·subst ha;subst hb;subst hc;simp [cmp_Or_int.f,cmp_Or_int.l0,orInt,rd,w1,w2,w3]
   subst ha;subst hb;simp [cmp_Or_int.f,cmp_Or_int.l0,orInt,rd,hc,w1,w2,w3]
  subst ha;simp [cmp_Or_int.f,cmp_Or_int.l0,orInt,rd,hb,w1,w2,w3]
 simp [cmp_Or_int.f,cmp_Or_int.l0,orInt,rd,ha]
theorem or_f4 (a b c d:Int):cmp_Or_int.f 5 [a,b,c,d]=some (orInt a (orInt b (orInt c d))):=by
 have w1:wrap64 1=1:=by unfold wrap64;omega
 have w2:wrap64 2=2:=by unfold wrap64;omega
 have w3:wrap64 3=3:=by unfold wrap64;omega
 have w4:wrap64 4=4:=by unfold wrap64;omega
 by_cases ha:a=0
 ·by_cases hb : b = 0
  ·by_cases hc : c = 0
   ·by_cases hd : d = 0
    ·subst ha;subst hb;subst hc;subst hd;simp [cmp_Or_int.f,cmp_Or_int.l0,orInt,rd,w1,w2,w3,w4]
    subst ha;subst hb;subst hc;simp [cmp_Or_int.f,cmp_Or_int.l0,orInt,rd,hd,w1,w2,w3,w4]
   subst ha;subst hb;simp [cmp_Or_int.f,cmp_Or_int.l0,orInt,rd,hc,w1,w2,w3,w4]
  subst ha;simp [cmp_Or_int.f,cmp_Or_int.l0,orInt,rd,hb,w1,w2,w3,w4]
 simp [cmp_Or_int.f,cmp_Or_int.l0,orInt,rd,ha]
theorem reads_block {w:World} {g:Nat} {xs:List Int} (h:w.heap[g]? = some (.cells (xs.map (Value.int .i64)).toArray 3 (0,0))) (hl:xs.length≤1000000000):Kd.C (Kd.int .i64) w (some ⟨g,0,none⟩) xs.length xs:=by
 have ho:w.ownsRow 0 3 1 (.slice (some ⟨g,0,none⟩) xs.length xs.length) xs.length (encs (Value.int .i64) xs):=by
  refine⟨by simp [encs],.inr ⟨g,xs.length,_,rfl,Nat.zero_le _,h,Nat.le_refl _,by unfold maxLen;omega,by simp,?_⟩⟩
  exact List.take_of_length_le (by simp)
 exact(Kd.R_reads' (Kd.R_of_own (ok:=fun _=>True) (h1:=fun _=>rfl) ho (fun _ _=>trivial))).2.2
theorem row_block {w:World} {base e size n cap:Nat} {ad:Addr} {xs:List Value} (h:w.ownsRow base e size (.slice (some ad) n cap) n xs):∃g cur,ad=⟨g,0,none⟩∧base≤g∧w.heap[g]? = some (.cells cur e (0,0))∧n≤cap∧cap≤maxLen∧cur.size=cap*size∧cur.toList.take (n*size)=xs:=by
 rcases h.2 with ⟨h1,_⟩|⟨g,c,cur,h1,h2,h3,h4,h5,h6,h7⟩
 ·cases h1
 cases h1;exact⟨g,cur,rfl,h2,h3,h4,h5,h6,h7⟩
end Go.Proofs.YtejpijgfpbcibaaGreat.P
end
section
namespace Go.Proofs.YtejpijgfpbcibaaGreat.P
open Go.RowKit Go.Proofs.YtejpijgfpbcibaaGreatW.PrintWords Go.Proofs.YtejpijgfpbcibaaGreatW.PrintLast Go.Proofs.YtejpijgfpbcibaaGreatW.PrintMore Go.Proofs.YtejpijgfpbcibaaGreat.M
theorem int_at {w:World} {A:Option Addr} {n:Nat} {xs:List Int} (h:Kd.C (Kd.int .i64) w A n xs) (i:Nat) (hi:i < xs.length):∃ad,A=some ad∧w.cell? (ad.add i)=some (.int .i64 xs[i]):=by
 have hn:n=xs.length:=by have:=h.1;omega
 obtain⟨ad,e,hc⟩:=Kd.at_int h (i:Int) (by omega) (by omega)
 rw [Int.toNat_natCast] at hc
 refine⟨ad,e,hc.trans ?_⟩
 congr 2
 unfold rd
 rw [Int.toNat_natCast,List.getD_eq_getElem?_getD,List.getElem?_eq_getElem hi]
 rfl
theorem infoInt:(Tryz.prog.info? 3).map (fun i=>(i.zero,i.size,i.bytes))=some (some (.int .i64 0),1,8):=by kernel_rfl
end Go.Proofs.YtejpijgfpbcibaaGreat.P
end
section
namespace Go.Proofs.YtejpijgfpbcibaaGreat.P
open Go.RowKit Go.Proofs.YtejpijgfpbcibaaGreatW.PrintWords Go.Proofs.YtejpijgfpbcibaaGreatW.PrintLast Go.Proofs.YtejpijgfpbcibaaGreatW.PrintMore Go.Proofs.YtejpijgfpbcibaaGreat.M
set_option maxHeartbeats 2000000 in
set_option maxRecDepth 100000 in
theorem clone_int_calls (A:Option Addr) (c:Nat) (xs:List Int) (w:World) (hr:Kd.C (Kd.int .i64) w A xs.length xs) (hl:xs.length≤1000000000) :
 Calls Tryz.prog 56 #[.slice A xs.length c] w fun e w'=>∃v' : Value,e=.returned v'∧(Kd.int .i64).R 3 w' w.heap.size (fun _=>True) v' xs∧Below w.heap.size w w':=by
 have q22:∀(w:World) (a:Option Addr) (n c n' c' : Nat),(binOp .eql 22 (.slice a n c) (.slice none n' c')).run Tryz.prog w=.ok (.bool a.isNone) w:=fun w a n c n' c'=>Lib.run_eql_slice_nil w _ _ a n c n' c' Tryz.underlying22
 cases A with
 | none=>
  have hx:xs = []:=by
   rcases Nat.eq_zero_or_pos xs.length with h|h
   ·exact List.length_eq_zero_iff.1 h
   obtain ⟨ad, e, _⟩ := hr.2.2 h
   cases e
  subst hx
  clear hr hl
  go_enter Tryz.func56,Tryz.ntmps56
  go_wp2
  go_ret
  exact⟨_,rfl,Kd.R_nil _ _ _ _ _,Below.refl _ _⟩
 | some ad=>
  have HR:=Aside0.mk hr
  have HL:=Aside0.mk hl
  clear hr hl
  go_enter Tryz.func56,Tryz.ntmps56
  go_wp2_with (at_builtin;go_loud (refine Kd.R_append_row (Value.int .i64) 0 (w0:=w) w.heap.size rfl (.tmp 5) (.tmp 6) 22 3 (.int .i64 0) 8 rfl Tryz.underlying22 infoInt rfl (by decide) _ [] xs (some ad) xs.length c (fun _=>True) rfl rfl (fun _ _=>trivial) (Kd.R_of_own (World.ownsRow_made w #[] 0 (Nat.le_refl _) (Nat.zero_le _) rfl) (fun _ _=>trivial)) (Kd.C_below HR.out (below_alloc (Below.refl _ _) _)) (below_alloc (Below.refl _ _) _) ?qb ?ql ?_))
  case qb=>rw [size_alloc];omega
  case ql=>have:=HL.out;simp;omega
  intro v1 w1 hr1 hb1 hg1 hat1
  go_wp2
  go_ret
  exact⟨v1,rfl,hr1,hb1⟩
open Go.Sort Go.Shelf Go.Lib
theorem holds1 {w:World} {base g n cap:Nat} {e:TypeId} {d:Array Int} (hd:d.size=n) (h:w.ownsRow base e 1 (.slice (some ⟨g,0,none⟩) n cap) n (d.toList.map (Value.int .i64))):Holds (Value.int .i64) w g 0 d:=by
 rcases h.2 with ⟨h1,_⟩|⟨g',cap',cur,h1,_,hg,_,_,hsz,htake⟩
 ·cases h1
 cases h1
 intro j hj
 have hcur:cur[j]? = some (.int .i64 d[j]!):=by
  have h3:(cur.toList.take (n*1))[j]? = (d.toList.map (Value.int .i64))[j]?:=by rw [htake]
  rw [List.getElem?_take_of_lt (by omega),List.getElem?_map,Array.getElem?_toList,Array.getElem?_toList,Array.getElem?_eq_getElem hj] at h3
  rw [h3,getElem!_pos d j hj]
  rfl
 constructor
 ·simp [World.cell?,hg,hcur]
 simp [World.frozen?,hg]
theorem own_put1 {w:World} {base g n cap:Nat} {e:TypeId} {xs:List Value} {D:Array Int} (hD:D.size=n) (m:Nat) (os:Array Obj) (h:w.ownsRow base e 1 (.slice (some ⟨g,0,none⟩) n cap) n xs) :
 (grow (putRow (Value.int .i64) (Sort.ahead w m) g 0 D) os).ownsRow base e 1 (.slice (some ⟨g,0,none⟩) n cap) n (D.toList.map (Value.int .i64))∧w.grownBy (grow (putRow (Value.int .i64) (Sort.ahead w m) g 0 D) os) (some g):=by
 have hsize:(putRow (Value.int .i64) (Sort.ahead w m) g 0 D).heap.size=w.heap.size:=by simp [putRow,mapBlock,Sort.ahead]
 have hheap:∀i,i < w.heap.size→(grow (putRow (Value.int .i64) (Sort.ahead w m) g 0 D) os).heap[i]? = (putRow (Value.int .i64) (Sort.ahead w m) g 0 D).heap[i]?:=fun i hi=>by
  show ((putRow (Value.int .i64) (Sort.ahead w m) g 0 D).heap ++ os)[i]? = _
  rw [Array.getElem?_append_left (by rw [hsize];exact hi)]
 have hmod:∀i,(putRow (Value.int .i64) (Sort.ahead w m) g 0 D).heap[i]? = if g=i then (w.heap[i]?).map (onCells (putCells (Value.int .i64) 0 D)) else w.heap[i]?:=fun i=>by
  show (w.heap.modify g (onCells (putCells (Value.int .i64) 0 D)))[i]? = _
  rw [Array.getElem?_modify]
 rcases h.2 with ⟨h1,_⟩|⟨g',cap',cur,h1,hb,hg,hnc,hcm,hsz,htake⟩
 ·cases h1
 cases h1
 have hlt:g < w.heap.size:=(Array.getElem?_eq_some_iff.1 hg).1
 refine⟨⟨by simp [hD],.inr ⟨g,cap,putCells (Value.int .i64) 0 D cur,rfl,hb,?_,hnc,hcm,?_,?_⟩⟩,⟨rfl,rfl,rfl,?_,?_⟩⟩
 ·rw [hheap g hlt,hmod g,if_pos rfl,hg];rfl
 ·simp [putCells,hsz]
 ·apply List.ext_getElem?
  intro t
  by_cases ht:t < n
  ·rw [List.getElem?_take_of_lt (by omega)]
   have h1:t < cur.size:=by omega
   have h2:t < D.size:=by omega
   rw [Array.getElem?_toList,List.getElem?_map,Array.getElem?_toList,Array.getElem?_eq_getElem h2]
   simp only [putCells,Array.getElem?_mapIdx,Array.getElem?_eq_getElem h1,Option.map_some]
   rw [if_pos ⟨Nat.zero_le _,by omega⟩]
   simp only [Nat.sub_zero]
   rw [getElem!_pos _ t h2]
  rw [List.getElem?_eq_none (by simp;omega),List.getElem?_eq_none (by simp [hD];omega)]
 ·show _ ≤ ((putRow (Value.int .i64) (Sort.ahead w m) g 0 D).heap ++ os).size
  simp [hsize]
 intro i hi hne
 rw [hheap i hi,hmod i,if_neg (fun e=>hne (by rw [e]))]
theorem R_ints {w:World} {base:Nat} {ok:Nat→Prop} {v:Value} {xs:List Int} (h:Kd.R (Kd.int .i64) 3 w base ok v xs):w.ownsRow base 3 1 v xs.length (xs.map (Value.int .i64)):=by
 obtain⟨_,inner,ho,hl,hr⟩:=h
 have e:inner=xs.map (Value.int .i64):=by
  apply List.ext_getElem?
  intro t
  by_cases ht:t < xs.length
  ·have := hr t _ (List.getElem?_eq_getElem ht)
   have h2:(inner.drop (t*1)).take 1 = [.int .i64 xs[t]]:=this
   have h3:=congrArg (fun l:List Value=>l[0]?) h2
   simp only [List.getElem?_take,List.getElem?_drop] at h3
   rw [List.getElem?_map,List.getElem?_eq_getElem ht]
   simpa using h3
  rw [List.getElem?_eq_none (by have:inner.length=xs.length*1:=hl;omega),List.getElem?_eq_none (by simp;omega)]
 rw [e] at ho
 exact ho
theorem ints_R {w:World} {base:Nat} {v:Value} {xs:List Int} (h:w.ownsRow base 3 1 v xs.length (xs.map (Value.int .i64))):Kd.R (Kd.int .i64) 3 w base (fun k=>base≤k) v xs:=
 Kd.R_of_own h (fun k hk=>own_base h k hk)
theorem compact_once:∀(d:List Int) (m:Nat),m≤d.length→compactUpTo d.toArray m=dd (fun x y=>decide (cmpInt x y=0)) (d.take m)
 | d,0,_=>by simp [compactUpTo,dd]
 | d,m+1,h=>by
  rw [compactUpTo_succ,compact_once d m (by omega)]
  have e:∀j,j < d.length→d.toArray[j]! = d[j]!:=fun j hj=>by simp
  by_cases h0:m=0
  ·subst h0
   cases d with
   | nil=>simp at h
   | cons x d=>simp [keeps,dd,ddF]
  rw [dd_next _ d m (by omega) (by omega)]
  congr 1
  have e1:d.toArray[m]! = d[m]'(by omega):=getElem!_pos d.toArray m (by simp;omega)
  have e2:d.toArray[m - 1]! = d[m - 1]'(by omega):=getElem!_pos d.toArray (m - 1) (by simp;omega)
  unfold keeps
  rw [e1,e2]
  by_cases c:d[m]'(by omega)=d[m - 1]'(by omega)
  ·rw [if_neg (by simp [h0,c]),if_pos (by simp [cmpInt_zero,c])]
  rw [if_pos (by simp [c]),if_neg (by simp [cmpInt_zero,c])]
def auto_ints.f (l0:List Int):Option (List Int):=if l0.length≤1000000000 then some (onceC cmpInt l0) else none
theorem sort_ints (w:World) (base:Nat) (v:Value) (es:List Int) (hl:es.length≤1000000000) (ho:w.ownsRow base 3 1 v es.length (es.map (Value.int .i64))) :
 Calls Tryz.prog 57 #[v] w fun e w'=>e=.returned (.tuple #[])∧w'.ownsRow base 3 1 v es.length ((es.mergeSort fun x y=>decide (x≤y)).map (Value.int .i64))∧w.grownBy w' v.ownBlock:=by
 rcases ho.2 with ⟨h1,h2⟩|⟨g,cap,cur,h1,_,hg,_⟩
 ·subst h1
  have he:=List.length_eq_zero_iff.1 h2
  subst he
  refine(AnyM.slices_Sort_int_none Tryz.sortInt none 0 w).mono ?_
  rintro e w' ⟨rfl,rfl⟩
  exact⟨rfl,by simpa using ho,gb_refl _ _⟩
 subst h1
 have hH:Holds (Value.int .i64) w g 0 es.toArray:=holds1 (n:=es.length) (cap:=cap) (base:=base) (e:=3) (by simp) (by simpa using ho)
 refine(AnyM.slices_Sort_int Tryz.sortInt g 0 cap es w hH (Array.getElem?_eq_some_iff.1 hg).1 (by omega)).mono ?_
 rintro e w' ⟨rfl,n,os,rfl⟩
 obtain⟨o1,o2⟩:=own_put1 (D:=(es.mergeSort fun x y=>decide (x≤y)).toArray) (by simp) n os ho
 exact⟨rfl,by simpa using o1,o2⟩
set_option maxHeartbeats 1000000 in
theorem compact_ints_nil (w:World) :
 Calls Tryz.prog 59 #[.slice none 0 0] w fun e w'=>e=.returned (.slice none 0 0)∧w' = w:=by
 go_enter Tryz.func59,Tryz.ntmps59
 go_wp2
 go_ret
 exact⟨rfl,rfl⟩
theorem compact_ints (w:World) (base:Nat) (v:Value) (es:List Int) (hl:es.length≤1000000000) (ho:w.ownsRow base 3 1 v es.length (es.map (Value.int .i64))) :
 Calls Tryz.prog 59 #[v] w fun e w'=>∃A c,e=.returned (.slice A (dd (fun x y=>decide (cmpInt x y=0)) es).length c)∧(dd (fun x y=>decide (cmpInt x y=0)) es).length≤c∧c≤maxLen∧
  Kd.R (Kd.int .i64) 3 w' base (fun k=>base≤k) (.slice A (dd (fun x y=>decide (cmpInt x y=0)) es).length c) (dd (fun x y=>decide (cmpInt x y=0)) es)∧w.grownBy w' v.ownBlock:=by
 rcases ho.2 with ⟨h1,h2⟩|⟨g,cap,cur,h1,hb,hg,hnc,hcm,_⟩
 ·subst h1
  have he:=List.length_eq_zero_iff.1 h2
  subst he
  refine(compact_ints_nil w).mono ?_
  rintro e w' ⟨rfl,rfl⟩
  exact⟨none,0,rfl,Nat.le_refl _,Nat.zero_le _,Kd.R_nil _ _ _ _ _,gb_refl _ _⟩
 subst h1
 have hH:Holds (Value.int .i64) w g 0 es.toArray:=holds1 (n:=es.length) (cap:=cap) (base:=base) (e:=3) (by simp) (by simpa using ho)
 have hcon:=AnyE.slices_Compact Tryz.compactInt (Value.int .i64) (fun _=>rfl) (EqlAt.intD _ _ _) (NeqAt.intD _ _ _) 0 Tryz.zeroValue3 g 0 cap es.toArray w hH (by simp;omega) (by simpa using hnc)
 rw [show compactUpTo es.toArray es.toArray.size=dd (fun x y=>decide (cmpInt x y=0)) es by
  rw [show es.toArray.size=es.length by simp,compact_once es es.length (Nat.le_refl _),List.take_length]] at hcon
 have hsub:=(dd_sub (fun x y=>decide (cmpInt x y=0)) es).length_le
 generalize dd (fun x y=>decide (cmpInt x y=0)) es=ds at hcon hsub ⊢
 rw [show es.toArray.size=es.length by simp] at hcon
 refine hcon.mono ?_
 rintro e w' ⟨rfl,q,rfl⟩
 obtain⟨o1,o2⟩:=own_put1 (D:=(ds ++ List.replicate (es.length - ds.length) 0).toArray) (by simp;omega) q #[] ho
 rw [grow_empty] at o1 o2
 refine⟨some ⟨g,0,none⟩,cap,rfl,by omega,hcm,?_,o2⟩
 have hl2:(ds ++ List.replicate (es.length - ds.length) (0:Int)).length=es.length:=by simp;omega
 have hR:=ints_R (xs:=ds ++ List.replicate (es.length - ds.length) 0) (v:=.slice (some ⟨g,0,none⟩) es.length cap) (by rw [hl2];simpa using o1)
 have hT:=Kd.R_take hR (m:=ds.length) (by rw [hl2];exact hsub)
 rw [List.take_left'  rfl] at hT
 exact hT
set_option maxHeartbeats 1000000 in
theorem clip_ints (A:Option Addr) (n c:Nat) (w:World) (h:n≤c) (hc:c≤maxLen) :
 Calls Tryz.prog 58 #[.slice A n c] w fun e w'=>e=.returned (.slice A n n)∧w' = w:=by
 have t1:=eq_true (show (n:Int)≤(c:Int) by omega)
 have t2:=eq_true h
 have t3:=eq_true (show (0:Int)≤(n:Int) by omega)
 clear h hc
 cases A with
 | none=>
  go_enter Tryz.func58,Tryz.ntmps58
  go_wp2
  go_ret
  exact⟨rfl,rfl⟩
 | some ad=>
  go_enter Tryz.func58,Tryz.ntmps58
  go_wp2
  go_ret
  exact⟨rfl,rfl⟩
theorem dd_ints {es:List Int} : dd (fun x y=>decide (cmpInt x y=0)) (es.mergeSort fun x y=>decide (x≤y))=onceC cmpInt es:=by
 refine totalInt.dd_once ?_ (fun x=>(List.mergeSort_perm es _).mem_iff)
 have h:=List.pairwise_mergeSort (le:=fun x y:Int=>decide (x≤y)) (fun a b c h1 h2=>by simp only [decide_eq_true_eq] at *;omega) (fun a b=>by simp only [Bool.or_eq_true,decide_eq_true_eq];omega) es
 exact h.imp (fun {a b} hab hlt=>by
  have:=cmpInt_lt.1 hlt
  simp only [decide_eq_true_eq] at hab
  omega)
set_option maxHeartbeats 4000000 in
set_option maxRecDepth 100000 in
theorem ints_own (A:Option Addr) (c:Nat) (l:List Int) (w:World) (hr:Kd.C (Kd.int .i64) w A l.length l) (hl:l.length≤1000000000) :
 Calls Tryz.prog 42 #[.slice A l.length c] w fun e w'=>∃A' c',e=.returned (.slice A' (onceC cmpInt l).length (onceC cmpInt l).length)∧Kd.R (Kd.int .i64) 3 w' w.heap.size (fun k=>w.heap.size≤k) (.slice A' (onceC cmpInt l).length c') (onceC cmpInt l)∧Below w.heap.size w w':=by
 have HR:=Aside0.mk hr
 have HL:=Aside0.mk hl
 clear hr hl
 go_enter Tryz.func42,Tryz.ntmps42
 go_wp2_with (first
  | (go_at_call 56;go_loud (refine(clone_int_calls A c l w HR.out HL.out).mono ?_;rintro e w1 ⟨v1,rfl,hr1,hb1⟩;have Hr1:=Aside0.mk (R_ints hr1);have Hb1:=Aside0.mk hb1;clear hr1 hb1))
  | (go_at_call 57;go_loud (refine(sort_ints w1 w.heap.size v1 l HL.out Hr1.out).mono ?_;rintro e w2 ⟨rfl,hr2,hg2⟩;have Hr2:=Aside0.mk hr2;have Hg2:=Aside0.mk hg2;clear hr2 hg2))
  | (go_at_call 59;go_loud (refine(compact_ints w2 w.heap.size v1 (l.mergeSort fun x y=>decide (x≤y)) (by rw [List.length_mergeSort];exact HL.out) (by rw [List.length_mergeSort];exact Hr2.out)).mono ?_;rintro e w3 ⟨A3,c3,rfl,hn3,hc3,hr3,hg3⟩;rw [dd_ints] at hn3 hr3 ⊢;have Hn3:=Aside0.mk (And.intro hn3 hc3);have Hr3:=Aside0.mk hr3;have Hg3:=Aside0.mk hg3;clear hn3 hc3 hr3 hg3))
  | (go_at_call 58;go_loud (refine(clip_ints A3 _ c3 w3 Hn3.out.1 Hn3.out.2).mono ?_;rintro e w4 ⟨rfl,rfl⟩)))
 go_ret
 have hb:∀k,v1.ownBlock=some k→w.heap.size≤k:=fun k hk=>own_base Hr1.out k hk
 exact⟨A3,c3,rfl,Hr3.out,below_gb (below_gb Hb1.out Hg2.out hb) Hg3.out hb⟩
theorem auto_ints.calls (A0:Option Addr) (c0:Nat) (l0:List Int) (r:List Int) (w:World) (hr0:Kd.C (Kd.int .i64) w A0 l0.length l0) (hc0:l0.length≤c0) (h:auto_ints.f l0=some r) :
 Calls Tryz.prog 42 #[.slice A0 l0.length c0] w fun e w'=>∃v0_:Value,e=.returned v0_∧Kd.V (Kd.int .i64) 3 w' w.heap.size (fun k_=>w.heap.size≤k_) v0_ r∧Below w.heap.size w w':=by
 unfold auto_ints.f at h
 split at h
 case isFalse=>cases h
 rename_i hl
 obtain rfl:=Option.some.inj h
 refine(ints_own A0 c0 l0 w hr0 hl).mono ?_
 rintro e w' ⟨A',c',rfl,hr,hb⟩
 exact⟨_,rfl,Kd.V_mk (Nat.le_refl _) (Kd.R_F hr),hb⟩
end Go.Proofs.YtejpijgfpbcibaaGreat.P
end
section
namespace Go.Proofs.YtejpijgfpbcibaaGreat.M
open Go.RowKit Go.Proofs.YtejpijgfpbcibaaGreatW.PrintLast
def pm (a b:Nat):Array Bool:=(List.replicate a true ++ List.replicate b false).toArray
section
variable {P : Program} {ops : Array Oper} {Q : Exit → Act → World → Prop} {md : Region.Mode} {S : World → Prop} {ds : List Nat}
variable {k m : Nat} {N : Option Tmp} {oi : Oper} {v : Value} {fuel : Nat} {a : Act} {w : World} {l l' : Array Bool}
theorem pn_ (hi:ops[k]? = some oi) (hN:oi.dst=N) (hc:anyB md ops (pm k (m+1)) (pm (k+1) m) k=true) (hQ:∀c a w,Q (.panic c) (a.put oi.dst v) w→Q (.panic c) a w) (hy:Yields P ops oi v a) {a' : Act} (ha:a.put N v=a')
 (h:wpAnyLast P md ops Q S ds fuel (pm (k+1) m) a' w):wpAnyLast P md ops Q S ds (fuel+1) (pm k (m+1)) a w:=pure_ (pm (k+1) m) hi hN hc hQ hy ha h
theorem tn_ (hi:ops[k]? = some oi) (hN:oi.dst=N) (hc:takeB md ops ds (pm k (m+1)) (pm (k+1) m) k=true) (hQ:∀c a w,Q (.panic c) (a.put oi.dst v) w→Q (.panic c) a w) (hy:YieldsIf P ops S oi v a) (hS:S w) {a' : Act} (ha:a.put N v=a')
 (h:wpAnyLast P md ops Q S ds fuel (pm (k+1) m) a' w):wpAnyLast P md ops Q S ds (fuel+1) (pm k (m+1)) a w:=take_ (pm (k+1) m) hi hN hc hQ hy hS ha h
theorem re_ (l' : Array Bool) (he:l=l') (h:wpAnyLast P md ops Q S ds fuel l' a w):wpAnyLast P md ops Q S ds fuel l a w:=by subst he;exact h
theorem po_ (i:Nat) (hi:ops[i]? = some oi) (hN:oi.dst=N) (hc:anyB md ops l (l.setIfInBounds i true) i=true) (hQ:∀c a w,Q (.panic c) (a.put oi.dst v) w→Q (.panic c) a w) (hy:Yields P ops oi v a) {a' : Act} (ha:a.put N v=a')
 (h:wpAnyLast P md ops Q S ds fuel (l.setIfInBounds i true) a' w):wpAnyLast P md ops Q S ds (fuel+1) l a w:=pure_ _ hi hN hc hQ hy ha h
theorem to_ (i:Nat) (hi:ops[i]? = some oi) (hN:oi.dst=N) (hc:takeB md ops ds l (l.setIfInBounds i true) i=true) (hQ:∀c a w,Q (.panic c) (a.put oi.dst v) w→Q (.panic c) a w) (hy:YieldsIf P ops S oi v a) (hS:S w) {a' : Act} (ha:a.put N v=a')
 (h:wpAnyLast P md ops Q S ds fuel (l.setIfInBounds i true) a' w):wpAnyLast P md ops Q S ds (fuel+1) l a w:=take_ _ hi hN hc hQ hy hS ha h
end
end Go.Proofs.YtejpijgfpbcibaaGreat.M
end
section
namespace Go.Proofs.YtejpijgfpbcibaaGreat.P
open Go.RowKit Go.Proofs.YtejpijgfpbcibaaGreatW.PrintWords Go.Proofs.YtejpijgfpbcibaaGreatW.PrintLast Go.Proofs.YtejpijgfpbcibaaGreatW.PrintMore Go.Proofs.YtejpijgfpbcibaaGreat.M
structure OutR (w wO:World) (go:Nat) (N G:Value) (v2 v3 v4 v5 v6:Value) (r2 r3:List Int) (r4:List TOpen) (r5:List TClose) (r6:List TInner):Prop where
 b:Below wO.heap.size wO w
 gin:wO.heap.size≤go
 t:w.heap[go]? = some (.cells #[N,G,v2,v3,v4,v5,v6] 30 (0,0))
 r2:Kd.R (Kd.int .i64) 3 w wO.heap.size (fun k=>some k=v2.ownBlock) v2 r2
 r3:Kd.R (Kd.int .i64) 3 w wO.heap.size (fun k=>some k=v3.ownBlock) v3 r3
 r4:Kd.R k36 36 w wO.heap.size (fun k=>some k=v4.ownBlock) v4 r4
 r5:Kd.R k38 38 w wO.heap.size (fun k=>some k=v5.ownBlock) v5 r5
 r6:Kd.R k40 40 w wO.heap.size (fun k=>some k=v6.ownBlock) v6 r6
 ne:∀k,some k=v2.ownBlock→some k≠v3.ownBlock
section
variable {w w' wO : World} {go : Nat} {N G v2 v3 v4 v5 v6 v' : Value} {r2 r3 : List Int} {r4 : List TOpen} {r5 : List TClose} {r6 : List TInner}
theorem OutR.below (h:OutR w wO go N G v2 v3 v4 v5 v6 r2 r3 r4 r5 r6) (hb:Below w.heap.size w w'):OutR w' wO go N G v2 v3 v4 v5 v6 r2 r3 r4 r5 r6:=
 ⟨below_then h.b h.b.size hb,h.gin,blk_below h.t hb,Kd.R_below h.r2 hb,Kd.R_below h.r3 hb,Kd.R_below h.r4 hb,Kd.R_below h.r5 hb,Kd.R_below h.r6 hb,h.ne⟩
theorem OutR.made (hb:Below wO.heap.size wO w) (hg:wO.heap.size≤go) (ht:w.heap[go]? = some (.cells #[N,G,.slice none 0 0,.slice none 0 0,.slice none 0 0,.slice none 0 0,.slice none 0 0] 30 (0,0))):OutR w wO go N G (.slice none 0 0) (.slice none 0 0) (.slice none 0 0) (.slice none 0 0) (.slice none 0 0) [] [] [] [] []:=
 ⟨hb,hg,ht,Kd.R_nil _ _ _ _ _,Kd.R_nil _ _ _ _ _,Kd.R_nil _ _ _ _ _,Kd.R_nil _ _ _ _ _,Kd.R_nil _ _ _ _ _,fun k h=>by cases h⟩
theorem OutR.app2 {p:Int} {ok:Nat→Prop} (h:OutR w wO go N G v2 v3 v4 v5 v6 r2 r3 r4 r5 r6) (hr:Kd.R (Kd.int .i64) 3 w' wO.heap.size ok v' (r2 ++ [p])) (hb:Below wO.heap.size wO w') (hg:w.grownBy w' v2.ownBlock) (hat:v'.ownBlock=v2.ownBlock∨∃b,v'.ownBlock=some b∧w.heap.size≤b):OutR (w'.setCell ⟨go,2,none⟩ v') wO go N G v' v3 v4 v5 v6 (r2 ++ [p]) r3 r4 r5 r6:=
 ⟨hb.setCell h.gin _,h.gin,blk_put (blk_grown h.t hg (Kd.R_ne h.r2 h.t (by decide))) 2 v' rfl,Kd.R_far (Kd.R_tight rfl hr) (fun k hk e=>Kd.R_ne hr (blk_grown h.t hg (Kd.R_ne h.r2 h.t (by decide))) (by decide) (by rw [←hk];exact congrArg some e.symm)) _,(let hz:=Kd.R_grown h.r3 hg (fun k hk e=>h.ne k e hk);Kd.R_far hz (fun k hk e=>Kd.R_ne hz (blk_grown h.t hg (Kd.R_ne h.r2 h.t (by decide))) (by decide) (by rw [←hk];exact congrArg some e.symm)) _),(let hz:=Kd.R_over' h.r4 (Kd.R_typed h.r2) (by intro q hq;rcases List.mem_cons.1 hq with rfl|hq;decide;cases hq) hg;Kd.R_far hz (fun k hk e=>Kd.R_ne hz (blk_grown h.t hg (Kd.R_ne h.r2 h.t (by decide))) (by decide) (by rw [←hk];exact congrArg some e.symm)) _),(let hz:=Kd.R_over' h.r5 (Kd.R_typed h.r2) (by intro q hq;rcases List.mem_cons.1 hq with rfl|hq;decide;cases hq) hg;Kd.R_far hz (fun k hk e=>Kd.R_ne hz (blk_grown h.t hg (Kd.R_ne h.r2 h.t (by decide))) (by decide) (by rw [←hk];exact congrArg some e.symm)) _),(let hz:=Kd.R_over' h.r6 (Kd.R_typed h.r2) (by intro q hq;rcases List.mem_cons.1 hq with rfl|hq;decide;cases hq) hg;Kd.R_far hz (fun k hk e=>Kd.R_ne hz (blk_grown h.t hg (Kd.R_ne h.r2 h.t (by decide))) (by decide) (by rw [←hk];exact congrArg some e.symm)) _),fun k hk e=>by
  rcases hat with ha|⟨b,ha,hb2⟩
  ·exact h.ne k (by rw [←ha];exact hk) e
  rw [ha] at hk
  cases hk
  have:=Kd.R_lt h.r3 k e.symm
  omega⟩
theorem OutR.app3 {p:Int} {ok:Nat→Prop} (h:OutR w wO go N G v2 v3 v4 v5 v6 r2 r3 r4 r5 r6) (hr:Kd.R (Kd.int .i64) 3 w' wO.heap.size ok v' (r3 ++ [p])) (hb:Below wO.heap.size wO w') (hg:w.grownBy w' v3.ownBlock) (hat:v'.ownBlock=v3.ownBlock∨∃b,v'.ownBlock=some b∧w.heap.size≤b):OutR (w'.setCell ⟨go,3,none⟩ v') wO go N G v2 v' v4 v5 v6 r2 (r3 ++ [p]) r4 r5 r6:=
 ⟨hb.setCell h.gin _,h.gin,blk_put (blk_grown h.t hg (Kd.R_ne h.r3 h.t (by decide))) 3 v' rfl,(let hz:=Kd.R_grown h.r2 hg (fun k hk e=>h.ne k hk e);Kd.R_far hz (fun k hk e=>Kd.R_ne hz (blk_grown h.t hg (Kd.R_ne h.r3 h.t (by decide))) (by decide) (by rw [←hk];exact congrArg some e.symm)) _),Kd.R_far (Kd.R_tight rfl hr) (fun k hk e=>Kd.R_ne hr (blk_grown h.t hg (Kd.R_ne h.r3 h.t (by decide))) (by decide) (by rw [←hk];exact congrArg some e.symm)) _,(let hz:=Kd.R_over' h.r4 (Kd.R_typed h.r3) (by intro q hq;rcases List.mem_cons.1 hq with rfl|hq;decide;cases hq) hg;Kd.R_far hz (fun k hk e=>Kd.R_ne hz (blk_grown h.t hg (Kd.R_ne h.r3 h.t (by decide))) (by decide) (by rw [←hk];exact congrArg some e.symm)) _),(let hz:=Kd.R_over' h.r5 (Kd.R_typed h.r3) (by intro q hq;rcases List.mem_cons.1 hq with rfl|hq;decide;cases hq) hg;Kd.R_far hz (fun k hk e=>Kd.R_ne hz (blk_grown h.t hg (Kd.R_ne h.r3 h.t (by decide))) (by decide) (by rw [←hk];exact congrArg some e.symm)) _),(let hz:=Kd.R_over' h.r6 (Kd.R_typed h.r3) (by intro q hq;rcases List.mem_cons.1 hq with rfl|hq;decide;cases hq) hg;Kd.R_far hz (fun k hk e=>Kd.R_ne hz (blk_grown h.t hg (Kd.R_ne h.r3 h.t (by decide))) (by decide) (by rw [←hk];exact congrArg some e.symm)) _),fun k e hk=>by
  rcases hat with ha|⟨b,ha,hb2⟩
  ·exact h.ne k e (by rw [←ha];exact hk)
  rw [ha] at hk
  cases hk
  have:=Kd.R_lt h.r2 k e.symm
  omega⟩
theorem OutR.app4 {p:TOpen} {ok:Nat→Prop} (h:OutR w wO go N G v2 v3 v4 v5 v6 r2 r3 r4 r5 r6) (hr:Kd.R k36 36 w' wO.heap.size ok v' (r4 ++ [p])) (hb:Below wO.heap.size wO w') (hg:w.grownBy w' v4.ownBlock) (hat:v'.ownBlock=v4.ownBlock∨∃b,v'.ownBlock=some b∧w.heap.size≤b):OutR (w'.setCell ⟨go,4,none⟩ v') wO go N G v2 v3 v' v5 v6 r2 r3 (r4 ++ [p]) r5 r6:=
 ⟨hb.setCell h.gin _,h.gin,blk_put (blk_grown h.t hg (Kd.R_ne h.r4 h.t (by decide))) 4 v' rfl,(let hz:=Kd.R_over' h.r2 (Kd.R_typed h.r4) (by intro q hq;rcases List.mem_cons.1 hq with rfl|hq;decide;cases hq) hg;Kd.R_far hz (fun k hk e=>Kd.R_ne hz (blk_grown h.t hg (Kd.R_ne h.r4 h.t (by decide))) (by decide) (by rw [←hk];exact congrArg some e.symm)) _),(let hz:=Kd.R_over' h.r3 (Kd.R_typed h.r4) (by intro q hq;rcases List.mem_cons.1 hq with rfl|hq;decide;cases hq) hg;Kd.R_far hz (fun k hk e=>Kd.R_ne hz (blk_grown h.t hg (Kd.R_ne h.r4 h.t (by decide))) (by decide) (by rw [←hk];exact congrArg some e.symm)) _),Kd.R_far (Kd.R_tight rfl hr) (fun k hk e=>Kd.R_ne hr (blk_grown h.t hg (Kd.R_ne h.r4 h.t (by decide))) (by decide) (by rw [←hk];exact congrArg some e.symm)) _,(let hz:=Kd.R_over' h.r5 (Kd.R_typed h.r4) (by intro q hq;rcases List.mem_cons.1 hq with rfl|hq;decide;cases hq) hg;Kd.R_far hz (fun k hk e=>Kd.R_ne hz (blk_grown h.t hg (Kd.R_ne h.r4 h.t (by decide))) (by decide) (by rw [←hk];exact congrArg some e.symm)) _),(let hz:=Kd.R_over' h.r6 (Kd.R_typed h.r4) (by intro q hq;rcases List.mem_cons.1 hq with rfl|hq;decide;cases hq) hg;Kd.R_far hz (fun k hk e=>Kd.R_ne hz (blk_grown h.t hg (Kd.R_ne h.r4 h.t (by decide))) (by decide) (by rw [←hk];exact congrArg some e.symm)) _),h.ne⟩
theorem OutR.app5 {p:TClose} {ok:Nat→Prop} (h:OutR w wO go N G v2 v3 v4 v5 v6 r2 r3 r4 r5 r6) (hr:Kd.R k38 38 w' wO.heap.size ok v' (r5 ++ [p])) (hb:Below wO.heap.size wO w') (hg:w.grownBy w' v5.ownBlock) (hat:v'.ownBlock=v5.ownBlock∨∃b,v'.ownBlock=some b∧w.heap.size≤b):OutR (w'.setCell ⟨go,5,none⟩ v') wO go N G v2 v3 v4 v' v6 r2 r3 r4 (r5 ++ [p]) r6:=
 ⟨hb.setCell h.gin _,h.gin,blk_put (blk_grown h.t hg (Kd.R_ne h.r5 h.t (by decide))) 5 v' rfl,(let hz:=Kd.R_over' h.r2 (Kd.R_typed h.r5) (by intro q hq;rcases List.mem_cons.1 hq with rfl|hq;decide;cases hq) hg;Kd.R_far hz (fun k hk e=>Kd.R_ne hz (blk_grown h.t hg (Kd.R_ne h.r5 h.t (by decide))) (by decide) (by rw [←hk];exact congrArg some e.symm)) _),(let hz:=Kd.R_over' h.r3 (Kd.R_typed h.r5) (by intro q hq;rcases List.mem_cons.1 hq with rfl|hq;decide;cases hq) hg;Kd.R_far hz (fun k hk e=>Kd.R_ne hz (blk_grown h.t hg (Kd.R_ne h.r5 h.t (by decide))) (by decide) (by rw [←hk];exact congrArg some e.symm)) _),(let hz:=Kd.R_over' h.r4 (Kd.R_typed h.r5) (by intro q hq;rcases List.mem_cons.1 hq with rfl|hq;decide;cases hq) hg;Kd.R_far hz (fun k hk e=>Kd.R_ne hz (blk_grown h.t hg (Kd.R_ne h.r5 h.t (by decide))) (by decide) (by rw [←hk];exact congrArg some e.symm)) _),Kd.R_far (Kd.R_tight rfl hr) (fun k hk e=>Kd.R_ne hr (blk_grown h.t hg (Kd.R_ne h.r5 h.t (by decide))) (by decide) (by rw [←hk];exact congrArg some e.symm)) _,(let hz:=Kd.R_over' h.r6 (Kd.R_typed h.r5) (by intro q hq;rcases List.mem_cons.1 hq with rfl|hq;decide;cases hq) hg;Kd.R_far hz (fun k hk e=>Kd.R_ne hz (blk_grown h.t hg (Kd.R_ne h.r5 h.t (by decide))) (by decide) (by rw [←hk];exact congrArg some e.symm)) _),h.ne⟩
theorem OutR.app6 {p:TInner} {ok:Nat→Prop} (h:OutR w wO go N G v2 v3 v4 v5 v6 r2 r3 r4 r5 r6) (hr:Kd.R k40 40 w' wO.heap.size ok v' (r6 ++ [p])) (hb:Below wO.heap.size wO w') (hg:w.grownBy w' v6.ownBlock) (hat:v'.ownBlock=v6.ownBlock∨∃b,v'.ownBlock=some b∧w.heap.size≤b):OutR (w'.setCell ⟨go,6,none⟩ v') wO go N G v2 v3 v4 v5 v' r2 r3 r4 r5 (r6 ++ [p]):=
 ⟨hb.setCell h.gin _,h.gin,blk_put (blk_grown h.t hg (Kd.R_ne h.r6 h.t (by decide))) 6 v' rfl,(let hz:=Kd.R_over' h.r2 (Kd.R_typed h.r6) (by intro q hq;rcases List.mem_cons.1 hq with rfl|hq;decide;cases hq) hg;Kd.R_far hz (fun k hk e=>Kd.R_ne hz (blk_grown h.t hg (Kd.R_ne h.r6 h.t (by decide))) (by decide) (by rw [←hk];exact congrArg some e.symm)) _),(let hz:=Kd.R_over' h.r3 (Kd.R_typed h.r6) (by intro q hq;rcases List.mem_cons.1 hq with rfl|hq;decide;cases hq) hg;Kd.R_far hz (fun k hk e=>Kd.R_ne hz (blk_grown h.t hg (Kd.R_ne h.r6 h.t (by decide))) (by decide) (by rw [←hk];exact congrArg some e.symm)) _),(let hz:=Kd.R_over' h.r4 (Kd.R_typed h.r6) (by intro q hq;rcases List.mem_cons.1 hq with rfl|hq;decide;cases hq) hg;Kd.R_far hz (fun k hk e=>Kd.R_ne hz (blk_grown h.t hg (Kd.R_ne h.r6 h.t (by decide))) (by decide) (by rw [←hk];exact congrArg some e.symm)) _),(let hz:=Kd.R_over' h.r5 (Kd.R_typed h.r6) (by intro q hq;rcases List.mem_cons.1 hq with rfl|hq;decide;cases hq) hg;Kd.R_far hz (fun k hk e=>Kd.R_ne hz (blk_grown h.t hg (Kd.R_ne h.r6 h.t (by decide))) (by decide) (by rw [←hk];exact congrArg some e.symm)) _),Kd.R_far (Kd.R_tight rfl hr) (fun k hk e=>Kd.R_ne hr (blk_grown h.t hg (Kd.R_ne h.r6 h.t (by decide))) (by decide) (by rw [←hk];exact congrArg some e.symm)) _,h.ne⟩
end
structure OutV (w:World) (B:Nat) (v2 v3 v4 v5 v6:Value) (r2 r3:List Int) (r4:List TOpen) (r5:List TClose) (r6:List TInner):Prop where
 r2:Kd.R (Kd.int .i64) 3 w B (fun k=>some k=v2.ownBlock) v2 r2
 r3:Kd.R (Kd.int .i64) 3 w B (fun k=>some k=v3.ownBlock) v3 r3
 r4:Kd.R k36 36 w B (fun k=>some k=v4.ownBlock) v4 r4
 r5:Kd.R k38 38 w B (fun k=>some k=v5.ownBlock) v5 r5
 r6:Kd.R k40 40 w B (fun k=>some k=v6.ownBlock) v6 r6
 ne:∀k,some k=v2.ownBlock→some k≠v3.ownBlock
section
variable {w w' wO : World} {go B B' : Nat} {N G v2 v3 v4 v5 v6 : Value} {r2 r3 : List Int} {r4 : List TOpen} {r5 : List TClose} {r6 : List TInner}
theorem OutV.of_R (h:OutR w wO go N G v2 v3 v4 v5 v6 r2 r3 r4 r5 r6):OutV w wO.heap.size v2 v3 v4 v5 v6 r2 r3 r4 r5 r6:=⟨h.r2,h.r3,h.r4,h.r5,h.r6,h.ne⟩
theorem OutV.set (h:OutV w B v2 v3 v4 v5 v6 r2 r3 r4 r5 r6) {p:Addr} (hp:p.block < B) (u:Value):OutV (w.setCell p u) B v2 v3 v4 v5 v6 r2 r3 r4 r5 r6:=
 ⟨Kd.R_far h.r2 (fun k hk e=>by have:=Kd.R_base h.r2 k hk.symm;omega) _,Kd.R_far h.r3 (fun k hk e=>by have:=Kd.R_base h.r3 k hk.symm;omega) _,Kd.R_far h.r4 (fun k hk e=>by have:=Kd.R_base h.r4 k hk.symm;omega) _,Kd.R_far h.r5 (fun k hk e=>by have:=Kd.R_base h.r5 k hk.symm;omega) _,Kd.R_far h.r6 (fun k hk e=>by have:=Kd.R_base h.r6 k hk.symm;omega) _,h.ne⟩
theorem OutV.lower (h:OutV w B v2 v3 v4 v5 v6 r2 r3 r4 r5 r6) (hb:B'≤B):OutV w B' v2 v3 v4 v5 v6 r2 r3 r4 r5 r6:=⟨Kd.R_lower h.r2 hb,Kd.R_lower h.r3 hb,Kd.R_lower h.r4 hb,Kd.R_lower h.r5 hb,Kd.R_lower h.r6 hb,h.ne⟩
theorem OutV.below (h:OutV w B v2 v3 v4 v5 v6 r2 r3 r4 r5 r6) (hb:Below w.heap.size w w'):OutV w' B v2 v3 v4 v5 v6 r2 r3 r4 r5 r6:=⟨Kd.R_below h.r2 hb,Kd.R_below h.r3 hb,Kd.R_below h.r4 hb,Kd.R_below h.r5 hb,Kd.R_below h.r6 hb,h.ne⟩
end
theorem below_setCells7g {w w1:World} {v0 v1 v2 v3 v4 v5 v6:Value} {g:Nat} (h:Below w.heap.size w w1) (hg:w.heap.size≤g):Below w.heap.size w (((((((w1.setCell ⟨g,0,none⟩ v0).setCell ⟨g,1,none⟩ v1).setCell ⟨g,2,none⟩ v2).setCell ⟨g,3,none⟩ v3).setCell ⟨g,4,none⟩ v4).setCell ⟨g,5,none⟩ v5).setCell ⟨g,6,none⟩ v6):=
 ((((((h.setCell hg _).setCell hg _).setCell hg _).setCell hg _).setCell hg _).setCell hg _).setCell hg _
end Go.Proofs.YtejpijgfpbcibaaGreat.P
end
section
namespace Go.Proofs.YtejpijgfpbcibaaGreat.P
open Go.RowKit Go.Proofs.YtejpijgfpbcibaaGreatW.PrintWords Go.Proofs.YtejpijgfpbcibaaGreatW.PrintLast Go.Proofs.YtejpijgfpbcibaaGreatW.PrintMore Go.Proofs.YtejpijgfpbcibaaGreat.M
abbrev Row:=List (Int × Int)
abbrev TSym:=S51
def nOpen (os:List TOpen) (k:Int) (row:Row):Row:=row.flatMap fun p=>os.filterMap fun r=>if r.f0=p.2∧r.f1=k then some (r.f2,r.f2) else none
def nClose (cs:List TClose) (k:Int) (row:Row):Row:=row.flatMap fun p=>cs.filterMap fun r=>if r.f0=p.2∧r.f1=k∧r.f2=0 then some (p.1,r.f3) else none
def nInner (is:List TInner) (k:Int) (row:Row):Row:=row.flatMap fun p=>is.filterMap fun r=>if r.f0=p.2∧r.f1=k then some (p.1,r.f2) else none
def nBack (os:List TOpen) (cs:List TClose) (k by_:Int) (under row:Row):Row:=
 under.flatMap fun p=>(os.filter fun o=>decide (o.f0=p.2∧o.f1=by_)).flatMap fun o=>cs.filterMap fun c=>if c.f1=k∧c.f2=o.f3∧(o.f2,c.f0)∈row then some (p.1,c.f3) else none
def goT (l:List TSym) (os:List TOpen) (cs:List TClose) (is:List TInner):List Int→Row→Int→List (Row × Int)→Option Row
 | [],row,_,_=>some row
 | k :: w,row,by_,under=>
  if 0≤k∧k < l.length then
   if (rd_T51 l k).f1=1 then goT l os cs is w (nOpen os k row) k ((row,by_) :: under)
   else if (rd_T51 l k).f1=2 then
    match under with
    | []=>goT l os cs is w (nClose cs k row) by_ []
    | u :: under=>goT l os cs is w (nBack os cs k by_ u.1 row) u.2 under
   else goT l os cs is w (nInner is k row) by_ under
  else none
theorem goT_open {l:List TSym} {os:List TOpen} {cs:List TClose} {is:List TInner} {k:Int} {w:List Int} {row:Row} {by_:Int} {under:List (Row × Int)} (h:0≤k∧k < l.length) (hk:(rd_T51 l k).f1=1) :
 goT l os cs is (k :: w) row by_ under=goT l os cs is w (nOpen os k row) k ((row,by_) :: under):=by rw [goT.eq_def];simp only [];rw [if_pos h,if_pos hk]
theorem goT_close0 {l:List TSym} {os:List TOpen} {cs:List TClose} {is:List TInner} {k:Int} {w:List Int} {row:Row} {by_:Int} (h:0≤k∧k < l.length) (hk:(rd_T51 l k).f1=2) :
 goT l os cs is (k :: w) row by_ []=goT l os cs is w (nClose cs k row) by_ []:=by rw [goT.eq_def];simp only [];rw [if_pos h,if_neg (by omega),if_pos hk]
theorem goT_close {l:List TSym} {os:List TOpen} {cs:List TClose} {is:List TInner} {k:Int} {w:List Int} {row:Row} {by_:Int} {u:Row × Int} {under:List (Row × Int)} (h:0≤k∧k < l.length) (hk:(rd_T51 l k).f1=2) :
 goT l os cs is (k :: w) row by_ (u :: under)=goT l os cs is w (nBack os cs k by_ u.1 row) u.2 under:=by rw [goT.eq_def];simp only [];rw [if_pos h,if_neg (by omega),if_pos hk]
theorem goT_inner {l:List TSym} {os:List TOpen} {cs:List TClose} {is:List TInner} {k:Int} {w:List Int} {row:Row} {by_:Int} {under:List (Row × Int)} (h:0≤k∧k < l.length) (hk:(rd_T51 l k).f1≠1) (hk2:(rd_T51 l k).f1≠2) :
 goT l os cs is (k :: w) row by_ under=goT l os cs is w (nInner is k row) by_ under:=by rw [goT.eq_def];simp only [];rw [if_pos h,if_neg hk,if_neg hk2]
def takesB (l:List TSym) (init final:List Int) (os:List TOpen) (cs:List TClose) (is:List TInner) (w:List Int):Bool:=
 match goT l os cs is w (init.map fun s=>(s,s)) 0 [] with
 | none=>false
 | some row=>row.any fun p=>final.contains p.2
end Go.Proofs.YtejpijgfpbcibaaGreat.P
end
section
namespace Go.Proofs.YtejpijgfpbcibaaGreat.M
open Go.RowKit Go.MapKept
open Go.ChangeMaps (setBlock)
theorem findIdx_born {l:List MapEntry} (hn:(l.map (·.born)).Nodup) {j:Nat} {e0:MapEntry} (h:l[j]? = some e0):l.findIdx? (fun e=>((e.born:Nat):Int) == ((e0.born:Nat):Int))=some j:=by
 induction l generalizing j with
 | nil=>simp at h
 | cons a r ih=>
  simp only [List.map_cons,List.nodup_cons] at hn
  cases j with
  | zero=>
   simp only [List.getElem?_cons_zero,Option.some.injEq] at h
   subst h
   simp [List.findIdx?_cons]
  | succ j=>
   simp only [List.getElem?_cons_succ] at h
   have hne:a.born≠e0.born:=fun e1=>hn.1 (List.mem_map.2 ⟨e0,List.mem_of_getElem? h,e1.symm⟩)
   have hb:(((a.born:Nat):Int) == ((e0.born:Nat):Int))=false:=by
    simp only [beq_eq_false_iff_ne,ne_eq,Int.natCast_inj]
    exact hne
   rw [List.findIdx?_cons,hb]
   simp [ih hn.2 h]
section
variable {α β : Type} {eK : α → Value} {eV : β → Value} {w w' : World} {b : Nat} {m : List (α × β)} {P : Program} {t kt et : TypeId}
theorem MapIs.run_entry [DecidableEq α] (K:KeyB P kt eK) (ht:P.underlying t=some (.map kt et)) (h:MapIs eK eV w b m) (x:α) (z0:β) (z:Value) (hzz:z=eV z0) (hz:∀u:World,(zeroValue et).run P u=.ok z u) :
 ∃(st:Nat) (w1:World),(Instr.mapEntry t (.map (some b)) (eK x)).run P w=.ok (.tuple #[((asc m x).map eV).getD z,goInt st]) w1∧w.grownBy w1 (some b)∧
  (∃m1:List (α × β),MapIs eK eV w1 b m1∧(asc m1 x).getD z0=(asc m x).getD z0)∧
  ∀v:β,∃w',(Instr.entryStore t (.map (some b)) (goInt st) (eV v)).run P w1=.ok () w'∧MapIs eK eV w' b (putM m x v)∧w.grownBy w' (some b):=by
 obtain⟨es,c,hb,he,h1',h2',hn⟩:=id h
 have gr:∀o:Obj,w.grownBy { w with heap:=w.heap.setIfInBounds b o } (some b):=fun o=>
  ⟨rfl,rfl,rfl,by simp,fun i _ hi=>(heap_set hb).2 i (fun e=>hi (by rw [e]))⟩
 rcases K.find w x es.toList (m.map (·.1)) (keys_of he) with ⟨h1,h2⟩|⟨j,e,h1,h2,h3⟩
 ·have ha : asc m x = none := asc_none.2 h2
  refine⟨c,{ w with heap:=w.heap.setIfInBounds b (.map (es.push { key:=eK x,val:=z,born:=c }) (c+1)) },?_,gr _,?_,fun v=>?_⟩
  ·simp [Instr.mapEntry,Sem.run_bind,run_underlying ht,MapKept.run_getObj_map hb,K.check,h1,hz,Result.andThen,MapKept.run_setObj_map _ hb,ha]
  ·obtain ⟨w', g1, g2, g3, _⟩ := h.run_update K ht x z0
   simp [Instr.mapUpdate,Sem.run_bind,run_underlying ht,MapKept.run_getObj_map hb,K.check,h1,Result.andThen,MapKept.run_setObj_map _ hb] at g1
   refine⟨putM m x z0,?_,?_⟩
   ·rw [hzz, g1]
    exact g2
   rw [asc_putM, if_pos rfl, ha]
   rfl
  obtain ⟨w', g1, g2, g3, _⟩ := h.run_update K ht x v
  refine⟨w',?_,g2,g3⟩
  have hidx:(es.push ⟨eK x,z,c⟩).findIdx? (fun e=>((e.born:Nat):Int) == ((c:Nat):Int))=some es.size:=by
   have hh:∀(xs:Array MapEntry) (p:MapEntry→Bool),xs.findIdx? p=xs.toList.findIdx? p:=fun xs p=>by cases xs;simp
   rw [hh]
   have:=findIdx_born (l:=(es.push ⟨eK x,z,c⟩).toList) (j:=es.size) (e0:=⟨eK x,z,c⟩) (by
    simp only [Array.toList_push,List.map_append,List.map_cons,List.map_nil]
    refine List.nodup_append.2 ⟨h2',by simp,fun a ha c' hc e1=>?_⟩
    simp only [List.mem_singleton] at hc
    obtain⟨y,hy,rfl⟩:=List.mem_map.1 ha
    have:=h1' y hy
    omega) (by simp)
   exact this
  have hmod:(es.push ⟨eK x,z,c⟩).modify es.size (fun e=>{ e with val:=eV v })=es.push ⟨eK x,eV v,c⟩:=by
   have ml:∀(f:MapEntry→MapEntry) (a:MapEntry) (l:List MapEntry),(l ++ [a]).modify l.length f=l ++ [f a]:=fun f a l=>by
    induction l with
    | nil=>rfl
    | cons b r ih=>simp [List.modify_succ_cons,ih]
   apply Array.ext'
   rw [Array.toList_modify,Array.toList_push,Array.toList_push,←Array.length_toList,ml]
  have hb1:({ w with heap:=w.heap.setIfInBounds b (.map (es.push { key:=eK x,val:=z,born:=c }) (c+1)) } : World).heap[b]? = some (.map (es.push { key:=eK x,val:=z,born:=c }) (c+1)):=(heap_set hb).1
  simp [Instr.mapUpdate,Sem.run_bind,run_underlying ht,MapKept.run_getObj_map hb,K.check,h1,Result.andThen,MapKept.run_setObj_map _ hb] at g1
  rw [←g1]
  simp [Instr.entryStore,MapKept.run_getObj_map hb1,asInt,asIntOf,goInt,hidx,hmod,MapKept.run_setObj_map _ hb1,Result.andThen]
 have hj : es[j]? = some e := by simpa using h2
 have h3':=h3
 rw [List.getElem?_map] at h3
 cases hm:m[j]? with
 | none=>rw [hm] at h3;cases h3
 | some p=>
  rw [hm] at h3
  simp at h3
  have ha:=asc_at hn hm
  rw [h3] at ha
  have hkv:e.key=eK x∧e.val=eV p.2:=by
   have:=congrArg (fun l=>l[j]?) he
   simp only [List.getElem?_map,h2,hm,Option.map_some,Option.some.injEq,Prod.mk.injEq] at this
   rw [this.1,h3]
   exact⟨rfl,this.2⟩
  have hsame:es.modify j (fun e=>{ e with key:=eK x })=es:=by
   apply Array.ext'
   rw [Array.toList_modify]
   apply List.ext_getElem?
   intro i
   rw [List.getElem?_modify]
   by_cases hij:j=i
   ·subst hij
    simp only [h2,if_true,Option.map_some]
    rw [←hkv.1]
    rfl
   simp [hij]
  refine⟨e.born,{ w with heap:=w.heap.setIfInBounds b (.map es c) },?_,gr _,⟨m,⟨es,c,(heap_set hb).1,he,h1',h2',hn⟩,rfl⟩,fun v=>?_⟩
  ·simp [Instr.mapEntry,Sem.run_bind,run_underlying ht,MapKept.run_getObj_map hb,K.check,h1,hj,hkv.1,hkv.2,K.stays,hsame,Result.andThen,MapKept.run_setObj_map _ hb,ha]
  obtain ⟨w', g1, g2, g3, _⟩ := h.run_update K ht x v
  refine⟨w',?_,g2,g3⟩
  have hidx:es.findIdx? (fun y=>((y.born:Nat):Int) == ((e.born:Nat):Int))=some j:=by
   have hh:∀(xs:Array MapEntry) (p:MapEntry→Bool),xs.findIdx? p=xs.toList.findIdx? p:=fun xs p=>by cases xs;simp
   rw [hh]
   exact findIdx_born h2' h2
  have hmod:es.modify j (fun e'=>{ e' with val:=eV v })=es.modify j (fun e'=>{ e' with key:=eK x,val:=eV v }):=by
   apply Array.ext'
   rw [Array.toList_modify,Array.toList_modify]
   apply List.ext_getElem?
   intro i
   rw [List.getElem?_modify,List.getElem?_modify]
   by_cases hij:j=i
   ·subst hij
    simp only [h2,if_true,Option.map_some]
    rw [←hkv.1]
    rfl
   simp [hij]
  have hb1:({ w with heap:=w.heap.setIfInBounds b (.map es c) } : World).heap[b]? = some (.map es c):=(heap_set hb).1
  simp [Instr.mapUpdate,Sem.run_bind,run_underlying ht,MapKept.run_getObj_map hb,K.check,h1,hj,hkv.1,K.stays,Result.andThen,MapKept.run_setObj_map _ hb] at g1
  rw [←g1]
  simp [Instr.entryStore,MapKept.run_getObj_map hb1,asInt,asIntOf,goInt,hidx,hmod,MapKept.run_setObj_map _ hb1,Result.andThen]
theorem MapIs.looked [DecidableEq α] (K:KeyB P kt eK) (ht:P.underlying t=some (.map kt et)) (h:MapIs eK eV w b m) (x:α) (z:β) (hz:(zeroValue et).run P w=.ok (eV z) w) :
 (Instr.lookup t (.map (some b)) (eK x) false).run P w=.ok (eV ((asc m x).getD z)) w:=by
 have e:((asc m x).map eV).getD (eV z)=eV ((asc m x).getD z):=by cases asc m x<;>rfl
 have:=h.run_lookup K ht x (eV z) hz false
 rw [e] at this
 exact this
variable {ops : Array Oper} {o : Oper} {a : Act} {Q : Exit → Act → World → Prop}
theorem step_entry [DecidableEq α] {Kc:Act→World→Prop} (hw:Region.wanted o (yielded ops a.tmps)=true) (x y:Operand) (t:TypeId) (hop:o.op=Op.mapEntry t x y) (kt et:TypeId) (ht:P.underlying t=some (.map kt et)) (K:KeyB P kt eK) (b:Nat) (hm:a.eval x=.map (some b)) (h:MapIs eK eV w b m) (k:α) (hk:a.eval y=eK k) (z:β) (hz:∀u:World,(zeroValue et).run P u=.ok (eV z) u)
 (hK:∀(st:Int) (w1:World),w.grownBy w1 (some b)→(∃m1:List (α × β),MapIs eK eV w1 b m1∧(asc m1 k).getD z=(asc m k).getD z)→(∀v:β,∃w',(Instr.entryStore t (.map (some b)) (.int .i64 st) (eV v)).run P w1=.ok () w'∧MapIs eK eV w' b (putM m k v)∧w.grownBy w' (some b))→Kc (a.put o.dst (.tuple #[eV ((asc m k).getD z),.int .i64 st])) w1) :
 if Region.wanted o (yielded ops a.tmps)=true then Oper.wp P o a w Kc Q else Kc (a.put o.dst undef) w:=by
 rw [if_pos hw]
 have e:((asc m k).map eV).getD (eV z)=eV ((asc m k).getD z):=by cases asc m k<;>rfl
 obtain⟨st,w1,h1,h2,h4,h3⟩:=h.run_entry K ht k z (eV z) rfl hz
 rw [e] at h1
 unfold Oper.wp
 simp [execOp,hop,hm,hk,h1,Result.andThen,goInt]
 exact hK st w1 h2 h4 h3
theorem run_storeOp {w1:World} {u st:Value} (x y z:Operand) (hop:o.op=Op.entryStore t x y z) (mv:Value) (hx:a.eval x=mv) (hy:a.eval y=st) (hz:a.eval z=u) (h:(Instr.entryStore t mv st u).run P w=.ok () w1) :
 (execOp a.eval o).run P w=.ok .skip w1:=by
 simp [execOp,hop,hx,hy,hz,h,Result.andThen]
end
end Go.Proofs.YtejpijgfpbcibaaGreat.M
namespace Go.Proofs.YtejpijgfpbcibaaGreat.P
open Go.RowKit Go.Proofs.YtejpijgfpbcibaaGreatW.PrintWords Go.Proofs.YtejpijgfpbcibaaGreatW.PrintLast Go.Proofs.YtejpijgfpbcibaaGreatW.PrintMore Go.Proofs.YtejpijgfpbcibaaGreat.M
abbrev TWay:Type:=S72
def eWay (x:TWay):Value:=.agg #[.int .i64 x.f0,.int .i64 x.f1,.int .i64 x.f2]
instance decWay:DecidableEq TWay:=fun a b=>decidable_of_iff (a.f0=b.f0∧a.f1=b.f1∧a.f2=b.f2) ⟨fun h=>by cases a;cases b;simp only at h;rw [h.1,h.2.1,h.2.2],fun h=>by rw [h];exact⟨rfl,rfl,rfl⟩⟩
theorem keyWay:KeyB Tryz.prog 72 eWay:=
 keyB_asked (enc:=eWay) (d:=.struct (Tryz.prog.fieldsOf 72)) (by kernel_rfl)
  (fun {x y} h=>by
   obtain⟨a,b,c⟩:=x
   obtain⟨d,e,f⟩:=y
   simp only [eWay,Value.agg.injEq,List.toArray_inj,Array.mk.injEq,List.cons.injEq,Value.int.injEq,true_and,and_true] at h
   rw [h.1,h.2.1,h.2.2])
  (fun _ _=>rfl)
  (fun w em x=>checkKey_struct Tryz.underlying72 (by
   intro f hf _
   simp only [List.mem_cons,List.not_mem_nil,or_false] at hf
   rcases hf with rfl|rfl|rfl
   ·exact⟨.int .i64 x.f0,by go_simp,Go.MapKept.run_checkKey Tryz.underlying3 (by simp [Go.MapKept.IsKey]) em _⟩
   ·exact⟨.int .i64 x.f1,by go_simp,Go.MapKept.run_checkKey Tryz.underlying3 (by simp [Go.MapKept.IsKey]) em _⟩
   exact⟨.int .i64 x.f2,by go_simp,Go.MapKept.run_checkKey Tryz.underlying3 (by simp [Go.MapKept.IsKey]) em _⟩))
  (fun w x y=>by
   have h:=eqA_of (P:=Tryz.prog) (d:=9999) (w:=w) (xs:=#[.int .i64 x.f0,.int .i64 x.f1,.int .i64 x.f2]) (ys:=#[.int .i64 y.f0,.int .i64 y.f1,.int .i64 y.f2]) Tryz.underlying72 (by kernel_rfl)
    (eqf_cons (by rfl) (by go_simp;rfl) (by go_simp;rfl) (by go_simp;rfl) (eqf_cons (by rfl) (by go_simp;rfl) (by go_simp;rfl) (by go_simp;rfl) (eqf_last (by rfl) (by go_simp;rfl) (by go_simp;rfl) (by go_simp;rfl))))
   have e:decide (x=y)=(x.f0 == y.f0 && (x.f1 == y.f1 && x.f2 == y.f2)):=by
    obtain⟨a,b,c⟩:=x
    obtain⟨d,e,f⟩:=y
    by_cases h1:a=d<;>by_cases h2:b=e<;>by_cases h3:c=f<;>simp [h1,h2,h3]
   rw [e]
   simpa [Op.equal,Op.maxDepth,eWay] using h)
  (fun x=>by simp [eWay,Instr.sameBits])
theorem asc_ones {α:Type} [DecidableEq α] (l:List α) (x:α):asc (l.map fun y=>(y,(1:Int))) x=if x∈l then some 1 else none:=by
 induction l with
 | nil=>simp [asc]
 | cons y l ih=>
  simp only [List.map_cons,asc,ih]
  by_cases h:y=x
  ·simp [h]
  simp [h,Ne.symm h]
theorem putM_ones {α:Type} [DecidableEq α] {l:List α} {x:α} (h:x∉l):putM (l.map fun y=>(y,(1:Int))) x 1=(l ++ [x]).map fun y=>(y,(1:Int)):=by
 unfold putM
 rw [asc_ones,if_neg h]
 simp
theorem nodup_no {α:Type} {l:List α} {i:Nat} {x:α} (h:l[i]? = some x) (hm:x∈l.take i):¬l.Nodup:=fun hn=>by
 obtain⟨j,hj,e⟩:=List.mem_take_iff_getElem.1 hm
 obtain⟨hi,e2⟩:=List.getElem?_eq_some_iff.1 h
 have:=(List.getElem_inj (h₀:=hi) hn).1 (e2.trans e.symm)
 omega
def wayO (x:S36):TWay:=⟨x.f0,x.f1,0⟩
def wayC (x:S38):TWay:=⟨x.f0,x.f1,x.f2⟩
def wayI (x:S40):TWay:=⟨x.f0,x.f1,0⟩
def waysL (o:List S36) (c:List S38) (p:List S40):List TWay:=o.map wayO ++ (c.map wayC ++ p.map wayI)
theorem drop_read {α:Type} {l:List α} {i:Int} (z:α) (h0:0≤i) (h1:i < l.length):l.drop i.toNat=l.getD i.toNat z :: l.drop (i+1).toNat:=by
 have:i.toNat < l.length:=by omega
 rw [show (i+1).toNat=i.toNat+1 by omega,List.drop_eq_getElem_cons this,List.getD_eq_getElem?_getD,List.getElem?_eq_getElem this]
 rfl
theorem drop_all {α:Type} {l:List α} {i:Int} (h1:¬i < l.length):l.drop i.toNat = []:=List.drop_eq_nil_of_le (by omega)
theorem ways_l2 (p:List S40) (hp:p.length≤1000000000):∀(d:Nat) (i:Int) (acc:List TWay) (k:Nat),0≤i→p.length - i≤d→d < k→acc.length+d≤4000000000→
 auto_ways.l2 k acc p (p.length:Int) i=some (acc ++ (p.drop i.toNat).map wayI):=by
 intro d
 induction d with
 | zero=>
  intro i acc k h0 h1 h2 h3
  obtain⟨k,rfl⟩:∃e,k=e+1:=⟨k - 1,by omega⟩
  unfold auto_ways.l2
  rw [if_neg (by omega),drop_all (by omega)]
  simp
 | succ d ih=>
  intro i acc k h0 h1 h2 h3
  obtain⟨k,rfl⟩:∃e,k=e+1:=⟨k - 1,by omega⟩
  unfold auto_ways.l2
  by_cases c:i < (p.length:Int)
  ·rw [if_pos c, if_pos h0, if_pos c, if_pos (by omega), show wrap64 (i + 1) = i + 1 by unfold wrap64; omega, ih (i + 1) _ k (by omega) (by omega) (by omega) (by simp; omega), drop_read z40 h0 c]
   simp [wayI,rd_T40]
  rw [if_neg c, drop_all c]
  simp
theorem ways_l1 (a0 a1:Int) (a2 a3:List Int) (a4:List S36) (q:List S38) (p:List S40) (hq:q.length≤1000000000) (hp:p.length≤1000000000):∀(d:Nat) (i:Int) (acc:List TWay) (k:Nat),0≤i→q.length - i≤d→d+p.length+1 < k→acc.length+d+p.length≤4000000000→
 auto_ways.l1 k acc q (q.length:Int) i a0 a1 a2 a3 a4 q p=some (acc ++ ((q.drop i.toNat).map wayC ++ p.map wayI)):=by
 intro d
 induction d with
 | zero=>
  intro i acc k h0 h1 h2 h3
  obtain⟨k,rfl⟩:∃e,k=e+1:=⟨k - 1,by omega⟩
  unfold auto_ways.l1
  rw [if_neg (by omega),drop_all (by omega),ways_l2 p hp p.length 0 acc k (by omega) (by omega) (by omega) (by omega)]
  simp
 | succ d ih=>
  intro i acc k h0 h1 h2 h3
  obtain⟨k,rfl⟩:∃e,k=e+1:=⟨k - 1,by omega⟩
  unfold auto_ways.l1
  by_cases c:i < (q.length:Int)
  ·rw [if_pos c, if_pos h0, if_pos c, if_pos (by omega), show wrap64 (i + 1) = i + 1 by unfold wrap64; omega, ih (i + 1) _ k (by omega) (by omega) (by omega) (by simp; omega), drop_read z38 h0 c]
   simp [wayC,rd_T38]
  rw [if_neg c, drop_all c, ways_l2 p hp p.length 0 acc k (by omega) (by omega) (by omega) (by omega)]
  simp
theorem ways_l0 (a0 a1:Int) (a2 a3:List Int) (o:List S36) (q:List S38) (p:List S40) (ho:o.length≤1000000000) (hq:q.length≤1000000000) (hp:p.length≤1000000000):∀(d:Nat) (i:Int) (acc:List TWay) (k:Nat),0≤i→o.length - i≤d→d+q.length+p.length+2 < k→acc.length+d+q.length+p.length≤4000000000→
 auto_ways.l0 k acc o (o.length:Int) i a0 a1 a2 a3 o q p=some (acc ++ ((o.drop i.toNat).map wayO ++ (q.map wayC ++ p.map wayI))):=by
 intro d
 induction d with
 | zero=>
  intro i acc k h0 h1 h2 h3
  obtain⟨k,rfl⟩:∃e,k=e+1:=⟨k - 1,by omega⟩
  unfold auto_ways.l0
  rw [if_neg (by omega),drop_all (by omega),ways_l1 a0 a1 a2 a3 o q p hq hp q.length 0 acc k (by omega) (by omega) (by omega) (by omega)]
  simp
 | succ d ih=>
  intro i acc k h0 h1 h2 h3
  obtain⟨k,rfl⟩:∃e,k=e+1:=⟨k - 1,by omega⟩
  unfold auto_ways.l0
  by_cases c:i < (o.length:Int)
  ·rw [if_pos c, if_pos h0, if_pos c, if_pos (by omega), show wrap64 (i + 1) = i + 1 by unfold wrap64; omega, ih (i + 1) _ k (by omega) (by omega) (by omega) (by simp; omega), drop_read z36 h0 c]
   simp [wayO,rd_T36]
  rw [if_neg c, drop_all c, ways_l1 a0 a1 a2 a3 o q p hq hp q.length 0 acc k (by omega) (by omega) (by omega) (by omega)]
  simp
theorem ways_f (a0 a1:Int) (a2 a3:List Int) (o:List S36) (q:List S38) (p:List S40) (ho:o.length≤1000000000) (hq:q.length≤1000000000) (hp:p.length≤1000000000) :
 auto_ways.f (o.length+q.length+p.length+3) a0 a1 a2 a3 o q p=some (waysL o q p):=by
 unfold auto_ways.f waysL
 rw [ways_l0 a0 a1 a2 a3 o q p ho hq hp o.length 0 [] _ (by omega) (by omega) (by omega) (by simp;omega)]
 simp
end Go.Proofs.YtejpijgfpbcibaaGreat.P
end
section
namespace Go.Proofs.YtejpijgfpbcibaaGreat.P
open Go.RowKit Go.Proofs.YtejpijgfpbcibaaGreatW.PrintWords Go.Proofs.YtejpijgfpbcibaaGreatW.PrintLast Go.Proofs.YtejpijgfpbcibaaGreatW.PrintMore Go.Proofs.YtejpijgfpbcibaaGreat.M
def inN (n x:Int):Prop:=0≤x∧x < n
def In (n:Int) (row:Row):Prop:=∀p∈row,inN n p.1∧inN n p.2
structure Mat (n:Int) (M:List Bool) (row:Row):Prop where
 l:M.length=(n*n).toNat
 m:∀x y,inN n x→inN n y→(rdOf false M (x*n+y)=true↔(x,y)∈row)
theorem ix_in {n x y:Int} (hn:n≤200) (hx:inN n x) (hy:inN n y):0≤x*n+y∧x*n+y < n*n∧0≤x*n∧x*n≤40000:=by
 obtain⟨x0,x1⟩:=hx
 obtain⟨y0,y1⟩:=hy
 have h0:0≤x*n:=Int.mul_nonneg x0 (by omega)
 have h1:x*n≤(n - 1)*n:=Int.mul_le_mul_of_nonneg_right (by omega) (by omega)
 have h2:(n - 1)*n=n*n - n:=by rw [Int.sub_mul,Int.one_mul]
 have h3:n*n≤200*n:=Int.mul_le_mul_of_nonneg_right hn (by omega)
 omega
theorem nn_in {n:Int} (h1:1≤n) (hn:n≤200):1≤n*n∧n*n≤40000∧wrap64 (n*n)=n*n:=by
 have h2:=ix_in hn (x:=n - 1) (y:=n - 1) ⟨by omega,by omega⟩ ⟨by omega,by omega⟩
 have h3:n*n≤200*n:=Int.mul_le_mul_of_nonneg_right hn (by omega)
 refine⟨by omega,by omega,?_⟩
 unfold wrap64
 omega
theorem ix_wrap {n x y:Int} (hn:n≤200) (hx:inN n x) (hy:inN n y):wrap64 (x*n)=x*n∧wrap64 (x*n+y)=x*n+y:=by
 obtain⟨h0,h1,h2,h3⟩:=ix_in hn hx hy
 have:=hy.1
 have:=hy.2
 constructor
 ·unfold wrap64;omega
 unfold wrap64;omega
theorem ix_inj {n x y x' y' : Int} (hy:inN n y) (hy' : inN n y') (h:x*n+y=x' * n+y'):x=x'∧y=y':=by
 have h1:=hy.1
 have h2:=hy.2
 have h3:=hy'.1
 have h4:=hy'.2
 have e:y=y':=by
  have a:=congrArg (· % n) h
  simp only [Int.mul_add_emod_self_right] at a
  rwa [Int.emod_eq_of_lt h1 h2,Int.emod_eq_of_lt h3 h4] at a
 refine⟨?_,e⟩
 subst e
 have a:x*n=x' * n:=by omega
 exact Int.eq_of_mul_eq_mul_right (by omega) a
theorem Mat.zero (n:Int):Mat n (List.replicate (n*n).toNat false) []:=by
 refine⟨List.length_replicate,fun x y hx hy=>?_⟩
 unfold rdOf
 rw [List.getD_eq_getElem?_getD,List.getElem?_replicate]
 split<;>simp
theorem Mat.push {n:Int} {M:List Bool} {row:Row} (h:Mat n M row) (hn:n≤200) {x y:Int} (hx:inN n x) (hy:inN n y):Mat n (M.set (x*n+y).toNat true) (row ++ [(x,y)]):=by
 refine⟨by rw [List.length_set];exact h.l,fun x' y' hx' hy'=>?_⟩
 have h1:=ix_in hn hx hy
 have h2:=ix_in hn hx' hy'
 unfold rdOf
 rw [List.getD_eq_getElem?_getD,List.getElem?_set]
 by_cases e:(x*n+y).toNat=(x' * n+y').toNat
 ·obtain ⟨rfl, rfl⟩ := ix_inj hy hy' (show x * n + y = x' * n + y' by omega)
  rw [if_pos rfl,if_pos (by rw [h.l];omega)]
  simp
 rw [if_neg e]
 have h3:=h.m x' y' hx' hy'
 unfold rdOf at h3
 rw [List.getD_eq_getElem?_getD] at h3
 rw [h3,List.mem_append]
 constructor
 ·exact .inl
 rintro (h4 | h4)
 ·exact h4
 simp only [List.mem_singleton, Prod.mk.injEq] at h4
 obtain⟨rfl,rfl⟩:=h4
 exact absurd rfl e
theorem Mat.congr {n:Int} {M:List Bool} {row row' : Row} (h:Mat n M row) (e:∀p,p∈row↔p∈row'):Mat n M row':=
 ⟨h.l,fun x y hx hy=>(h.m x y hx hy).trans (e _)⟩
def oneL (row:Row) (d:Int→Int) (frm dst:Int) (p:Nat):Row:=(List.range p).filterMap fun (q:Nat)=>if ((q:Int),frm)∈row then some (d q,dst) else none
theorem oneL_next (row:Row) (d:Int→Int) (frm dst:Int) (p:Nat):oneL row d frm dst (p+1)=oneL row d frm dst p ++ (if ((p:Int),frm)∈row then [(d p,dst)] else []):=by
 unfold oneL
 rw [List.range_succ,List.filterMap_append]
 congr 1
 by_cases h:((p:Int),frm)∈row<;>simp [h]
theorem mem_oneL {row:Row} {d:Int→Int} {frm dst:Int} {n:Int} (hr:In n row) {x:Int × Int} : x∈oneL row d frm dst n.toNat↔∃q,(q,frm)∈row∧x=(d q,dst):=by
 unfold oneL
 simp only [List.mem_filterMap,List.mem_range]
 constructor
 ·rintro ⟨q, _, h⟩
  split at h
  ·rename_i hq
   exact⟨q,hq,(Option.some.inj h).symm⟩
  cases h
 rintro ⟨q, hq, rfl⟩
 have h:=(hr _ hq).1
 have e:((q.toNat:Nat):Int)=q:=Int.toNat_of_nonneg h.1
 refine⟨q.toNat,by have h2:q < n:=h.2;have h1:0≤q:=h.1;omega,?_⟩
 rw [e,if_pos hq]
def tO (n:Int) (k:Int) (row:Row) (r:TOpen):Row:=if r.f1=k then oneL row (fun _=>r.f2) r.f0 r.f2 n.toNat else []
def tC (n:Int) (k:Int) (row:Row) (r:TClose):Row:=if r.f1=k∧r.f2=0 then oneL row (fun p=>p) r.f0 r.f3 n.toNat else []
def tN (n:Int) (k:Int) (row:Row) (r:TInner):Row:=if r.f1=k then oneL row (fun p=>p) r.f0 r.f2 n.toNat else []
theorem mem_tO {n k:Int} {row:Row} (hr:In n row) (os:List TOpen) (x:Int × Int):x∈os.flatMap (tO n k row)↔x∈nOpen os k row:=by
 simp only [nOpen,List.mem_flatMap,List.mem_filterMap]
 constructor
 ·rintro ⟨r, hr1, h⟩
  unfold tO at h
  split at h
  ·rename_i hk
   obtain⟨q,hq,rfl⟩:=(mem_oneL hr).1 h
   exact⟨_,hq,r,hr1,by rw [if_pos ⟨rfl,hk⟩]⟩
  cases h
 rintro ⟨p, hp, r, hr1, h⟩
 split at h
 ·rename_i hk
  refine⟨r,hr1,?_⟩
  unfold tO
  rw [if_pos hk.2]
  exact(mem_oneL hr).2 ⟨p.1,by rw [hk.1];exact hp,(Option.some.inj h).symm⟩
 cases h
theorem mem_tC {n k:Int} {row:Row} (hr:In n row) (cs:List TClose) (x:Int × Int):x∈cs.flatMap (tC n k row)↔x∈nClose cs k row:=by
 simp only [nClose,List.mem_flatMap,List.mem_filterMap]
 constructor
 ·rintro ⟨r, hr1, h⟩
  unfold tC at h
  split at h
  ·rename_i hk
   obtain⟨q,hq,rfl⟩:=(mem_oneL hr).1 h
   exact⟨_,hq,r,hr1,by rw [if_pos ⟨rfl,hk.1,hk.2⟩]⟩
  cases h
 rintro ⟨p, hp, r, hr1, h⟩
 split at h
 ·rename_i hk
  refine⟨r,hr1,?_⟩
  unfold tC
  rw [if_pos ⟨hk.2.1,hk.2.2⟩]
  exact(mem_oneL hr).2 ⟨p.1,by rw [hk.1];exact hp,(Option.some.inj h).symm⟩
 cases h
theorem mem_tN {n k:Int} {row:Row} (hr:In n row) (is:List TInner) (x:Int × Int):x∈is.flatMap (tN n k row)↔x∈nInner is k row:=by
 simp only [nInner,List.mem_flatMap,List.mem_filterMap]
 constructor
 ·rintro ⟨r, hr1, h⟩
  unfold tN at h
  split at h
  ·rename_i hk
   obtain⟨q,hq,rfl⟩:=(mem_oneL hr).1 h
   exact⟨_,hq,r,hr1,by rw [if_pos ⟨rfl,hk⟩]⟩
  cases h
 rintro ⟨p, hp, r, hr1, h⟩
 split at h
 ·rename_i hk
  refine⟨r,hr1,?_⟩
  unfold tN
  rw [if_pos hk.2]
  exact(mem_oneL hr).2 ⟨p.1,by rw [hk.1];exact hp,(Option.some.inj h).symm⟩
 cases h
structure Ins (n:Int) (init final:List Int) (os:List TOpen) (cs:List TClose) (is:List TInner):Prop where
 i:∀s∈init,inN n s
 f:∀s∈final,inN n s
 o:∀r∈os,inN n r.f0∧inN n r.f2
 c:∀r∈cs,inN n r.f0∧inN n r.f3
 p:∀r∈is,inN n r.f0∧inN n r.f2
section
variable {n : Int} {init final : List Int} {os : List TOpen} {cs : List TClose} {is : List TInner} {k by_ : Int} {row under : Row}
theorem in_init (h:Ins n init final os cs is):In n (init.map fun s=>(s,s)):=by
 intro p hp
 obtain⟨s,hs,rfl⟩:=List.mem_map.1 hp
 exact⟨h.i s hs,h.i s hs⟩
theorem in_open (h:Ins n init final os cs is):In n (nOpen os k row):=by
 intro p hp
 simp only [nOpen,List.mem_flatMap,List.mem_filterMap] at hp
 obtain⟨q,_,r,hr,e⟩:=hp
 split at e
 ·cases e;exact⟨(h.o r hr).2,(h.o r hr).2⟩
 cases e
theorem in_close (h:Ins n init final os cs is) (hr:In n row):In n (nClose cs k row):=by
 intro p hp
 simp only [nClose,List.mem_flatMap,List.mem_filterMap] at hp
 obtain⟨q,hq,r,hr1,e⟩:=hp
 split at e
 ·cases e;exact⟨(hr q hq).1,(h.c r hr1).2⟩
 cases e
theorem in_inner (h:Ins n init final os cs is) (hr:In n row):In n (nInner is k row):=by
 intro p hp
 simp only [nInner,List.mem_flatMap,List.mem_filterMap] at hp
 obtain⟨q,hq,r,hr1,e⟩:=hp
 split at e
 ·cases e;exact⟨(hr q hq).1,(h.p r hr1).2⟩
 cases e
theorem in_back (h:Ins n init final os cs is) (hu:In n under):In n (nBack os cs k by_ under row):=by
 intro p hp
 simp only [nBack,List.mem_flatMap,List.mem_filterMap] at hp
 obtain⟨q,hq,o,_,r,hr1,e⟩:=hp
 split at e
 ·cases e;exact⟨(hu q hq).1,(h.c r hr1).2⟩
 cases e
end
end Go.Proofs.YtejpijgfpbcibaaGreat.P
end
section
namespace Go.Proofs.YtejpijgfpbcibaaGreat.P
open Go.RowKit Go.Proofs.YtejpijgfpbcibaaGreatW.PrintWords Go.Proofs.YtejpijgfpbcibaaGreatW.PrintLast Go.Proofs.YtejpijgfpbcibaaGreatW.PrintMore Go.Proofs.YtejpijgfpbcibaaGreat.M
abbrev TLv:=(Nat × Nat) × Int
def kLv (n2:Nat):Kd TLv:=Kd.pair (Kd.scalar (fun x:Nat × Nat=>Value.slice (some ⟨x.1,0,none⟩) n2 x.2) (fun _=>rfl)) (Kd.int .i64)
abbrev BV (n2 b c:Nat):Value:=.slice (some ⟨b,0,none⟩) n2 c
def BR (B:Nat) (w:World) (n2 b c:Nat) (M:List Bool):Prop:=Kd.R Kd.bool 4 w B (fun k=>some k=(BV n2 b c).ownBlock) (BV n2 b c) M
def LB (n2 b c:Nat) (by_:Int):Obj:=.cells #[BV n2 b c,.int .i64 by_] 86 (0,0)
def Lvs (B:Nat) (w:World) (n2:Nat) (n:Int):List TLv→List (Row × Int)→Prop
 | [],[]=>True
 | u :: us,v :: vs=>(∃M,BR B w n2 u.1.1 u.1.2 M∧Mat n M v.1)∧In n v.1∧u.2=v.2∧Lvs B w n2 n us vs
 | _,_=>False
theorem Lvs.imp {B:Nat} {w w' : World} {n2:Nat} {n:Int} (h:∀b c M,BR B w n2 b c M→BR B w' n2 b c M):∀(us:List TLv) (vs:List (Row × Int)),Lvs B w n2 n us vs→Lvs B w' n2 n us vs
 | [],[],_=>trivial
 | u :: us,v :: vs,⟨⟨M,h1,h2⟩,h3,h4,h5⟩=>⟨⟨M,h _ _ _ h1,h2⟩,h3,h4,Lvs.imp h us vs h5⟩
 | [],_ :: _,h=>h.elim
 | _ :: _,[],h=>h.elim
theorem Lvs.len {B:Nat} {w:World} {n2:Nat} {n:Int} : ∀(us:List TLv) (vs:List (Row × Int)),Lvs B w n2 n us vs→us.length=vs.length
 | [],[],_=>rfl
 | u :: us,v :: vs,⟨_,_,_,h5⟩=>by rw [List.length_cons,List.length_cons,Lvs.len us vs h5]
 | [],_ :: _,h=>h.elim
 | _ :: _,[],h=>h.elim
theorem BR.below {B:Nat} {w w' : World} {n2 b c:Nat} {M:List Bool} (h:BR B w n2 b c M) (hb:Below w.heap.size w w'):BR B w' n2 b c M:=Kd.R_below h hb
theorem BR.far {B:Nat} {w:World} {n2 b c:Nat} {M:List Bool} (h:BR B w n2 b c M) {g t:Nat} {cs:Array Value} (ht:w.heap[g]? = some (.cells cs t (0,0))) (hd:(4:Nat)≠t) (q:Nat) (u:Value):BR B (w.setCell ⟨g,q,none⟩ u) n2 b c M:=
 Kd.R_far h (fun k hk e=>Kd.R_ne h ht hd (by rw [←hk];exact congrArg some e.symm)) u
theorem BR.over {B:Nat} {w w' : World} {n2 b c:Nat} {M:List Bool} (h:BR B w n2 b c M) {e' : Nat} {v:Value} (hty:∀k,v.ownBlock=some k→∃cells,w.heap[k]? = some (.cells cells e' (0,0))) (hd:(4:Nat)≠e') (hg:w.grownBy w' v.ownBlock):BR B w' n2 b c M:=
 Kd.R_over' h hty (by intro q hq;rcases List.mem_cons.1 hq with rfl|hq;exact hd;cases hq) hg
theorem BR.lower {B B' : Nat} {w:World} {n2 b c:Nat} {M:List Bool} (h:BR B w n2 b c M) (hb:B'≤B):BR B' w n2 b c M:=Kd.R_lower h hb
theorem BR.C {B:Nat} {w:World} {n2 b c:Nat} {M:List Bool} (h:BR B w n2 b c M):Kd.C Kd.bool w (some ⟨b,0,none⟩) n2 M∧n2≤c∧n2=M.length:=by
 obtain⟨h1,h2,h3⟩:=Kd.R_reads' h
 exact⟨by rw [h1];exact h3,by omega,h1⟩
structure TkR (wO w:World) (ga gn n2:Nat) (n:Int) (AG:Array Value) (b c:Nat) (row:Row) (by_:Int) (U:Value) (us:List TLv) (under:List (Row × Int)):Prop where
 bw:Below wO.heap.size wO w
 a:w.heap[ga]? = some (.cells AG 30 (0,0))
 t:w.heap[gn]? = some (LB n2 b c by_)
 ha:wO.heap.size≤ga
 hn:wO.heap.size≤gn
 r:∃M,BR wO.heap.size w n2 b c M∧Mat n M row
 i:In n row
 u:(kLv n2).R 86 w wO.heap.size (fun k=>some k=U.ownBlock) U us
 ne:some gn≠U.ownBlock
 l:Lvs wO.heap.size w n2 n us.reverse under
section
variable {ga gn n2 b c m cc : Nat} {A : Option Addr} {wO w w' : World} {n : Int} {AG : Array Value} {row : Row} {by_ : Int} {U : Value} {us : List TLv} {under : List (Row × Int)}
theorem TkR.below (h:TkR wO w ga gn n2 n AG b c row by_ U us under) (hb:Below w.heap.size w w'):TkR wO w' ga gn n2 n AG b c row by_ U us under:=
 ⟨below_then h.bw h.bw.size hb,blk_below h.a hb,blk_below h.t hb,h.ha,h.hn,(let ⟨M,h1,h2⟩:=h.r;⟨M,h1.below hb,h2⟩),h.i,Kd.R_below h.u hb,h.ne,Lvs.imp (fun _ _ _ h1=>h1.below hb) _ _ h.l⟩
theorem TkR.far (h:TkR wO w ga gn n2 n AG b c row by_ U us under) {g:Nat} {cs:Array Value} (ht:w.heap[g]? = some (.cells cs 86 (0,0))) (hg:wO.heap.size≤g) (hn:g≠gn) (hu:some g≠U.ownBlock) (q:Nat) (u:Value):TkR wO (w.setCell ⟨g,q,none⟩ u) ga gn n2 n AG b c row by_ U us under:=
 ⟨h.bw.setCell hg _,blk_far h.a (show ga≠g from fun e=>by
  have h1:=h.a
  rw [e,ht] at h1
  cases h1) _,blk_far h.t (Ne.symm hn) _,h.ha,h.hn,(let ⟨M,h1,h2⟩:=h.r;⟨M,h1.far ht (by decide) _ _,h2⟩),h.i,Kd.R_far h.u (fun k hk e=>hu (by rw [←hk];exact congrArg some e.symm)) _,h.ne,Lvs.imp (fun _ _ _ h1=>h1.far ht (by decide) _ _) _ _ h.l⟩
theorem TkR.next (h:TkR wO w ga gn n2 n AG b c row by_ U us under) {b' c' : Nat} {row' : Row} {by' : Int} {M' : List Bool} (hr:BR wO.heap.size w n2 b' c' M') (hm:Mat n M' row') (hi:In n row') :
 TkR wO ((w.setCell ⟨gn,0,none⟩ (BV n2 b' c')).setCell ⟨gn,1,none⟩ (.int .i64 by')) ga gn n2 n AG b' c' row' by' U us under:=by
 have ht1:=blk_put h.t 0 (BV n2 b' c') rfl
 have hga:ga≠gn:=fun e=>by
  have h1:=h.a
  rw [e,h.t] at h1
  cases h1
 have nu:∀k,some k=U.ownBlock→k≠gn:=fun k hk e=>h.ne (by rw [←hk];exact congrArg some e.symm)
 exact⟨(h.bw.setCell h.hn _).setCell h.hn _,blk_far (blk_far h.a hga _) hga _,blk_put ht1 1 _ rfl,h.ha,h.hn,⟨M',(hr.far h.t (by decide) _ _).far ht1 (by decide) _ _,hm⟩,hi,Kd.R_far (p:=⟨gn,1,none⟩) (Kd.R_far (p:=⟨gn,0,none⟩) h.u nu _) nu _,h.ne,Lvs.imp (fun _ _ _ h1=>(h1.far h.t (by decide) _ _).far ht1 (by decide) _ _) _ _ h.l⟩
theorem TkR.app (h:TkR wO w ga gn n2 n AG b c row by_ U us under) {U' : Value} {ok:Nat→Prop} (hr:(kLv n2).R 86 w' wO.heap.size ok U' (us ++ [((b,c),by_)])) (hb:Below wO.heap.size wO w') (hg:w.grownBy w' U.ownBlock) (hat:U'.ownBlock=U.ownBlock∨∃k,U'.ownBlock=some k∧w.heap.size≤k) :
 TkR wO w' ga gn n2 n AG b c row by_ U' (us ++ [((b,c),by_)]) ((row,by_) :: under):=by
 have hty:=Kd.R_typed h.u
 obtain⟨M,h1,h2⟩:=h.r
 have h1':=h1.over hty (by decide) hg
 refine⟨hb,blk_grown h.a hg (Kd.R_ne h.u h.a (by decide)),blk_grown h.t hg h.ne,h.ha,h.hn,⟨M,h1',h2⟩,h.i,Kd.R_tight rfl hr,?_,?_⟩
 ·rcases hat with e | ⟨k, e, hk⟩
  ·rw [e];exact h.ne
  rw [e]
  intro e2
  have:=blk_lt h.t
  cases e2
  omega
 rw [List.reverse_append]
 exact⟨⟨M,h1',h2⟩,h.i,rfl,Lvs.imp (fun _ _ _ h1=>h1.over hty (by decide) hg) _ _ h.l⟩
theorem TkR.pop (h:TkR wO w ga gn n2 n AG b c row by_ (.slice A m cc) us under) {u:TLv} {us' : List TLv} {v:Row × Int} {under' : List (Row × Int)} (hu:us=us' ++ [u]) (hv:under=v :: under') {m' : Nat} (hm:m' + 1=m) :
 TkR wO w ga gn n2 n AG b c row by_ (.slice A m' cc) us' under':=by
 subst hu hv
 have hl:=h.l
 rw [List.reverse_append] at hl
 have hl2:Lvs wO.heap.size w n2 n us'.reverse under':=hl.2.2.2
 have r:=Kd.R_take h.u (m:=m') (by have:=(Kd.R_reads' h.u).1;simp at this ⊢;omega)
 have e:(us' ++ [u]).take m' = us':=by
  have:=(Kd.R_reads' h.u).1
  simp at this
  rw [show m' = us'.length by omega]
  simp
 rw [e] at r
 replace r:=Kd.R_tight rfl r
 exact⟨h.bw,h.a,h.t,h.ha,h.hn,h.r,h.i,r,(by cases A<;>exact h.ne),hl2⟩
end
structure NxR (wo w:World) (n2 bx cx gx:Nat) (by_:Int) (M:List Bool):Prop where
 b:Below wo.heap.size wo w
 r:BR wo.heap.size w n2 bx cx M
 g:w.heap[gx]? = some (LB n2 bx cx by_)
 hg:wo.heap.size≤gx
section
variable {wo w w' : World} {n2 bx cx gx : Nat} {by_ : Int} {M : List Bool}
theorem NxR.below (h:NxR wo w n2 bx cx gx by_ M) (hb:Below w.heap.size w w'):NxR wo w' n2 bx cx gx by_ M:=⟨below_then h.b h.b.size hb,h.r.below hb,blk_below h.g hb,h.hg⟩
theorem NxR.put (h:NxR wo w n2 bx cx gx by_ M) (z:Int):NxR wo (w.setCell ⟨bx,z.toNat,none⟩ (.bool true)) n2 bx cx gx by_ (M.set z.toNat true):=
 ⟨h.b.setCell (Kd.R_base h.r bx rfl) _,Kd.R_putn h.r z true,blk_far h.g (show gx≠bx from fun e=>Kd.R_ne h.r h.g (by decide) (congrArg some e)) _,h.hg⟩
end
structure NewR (wo w:World) (n2 bx cx gx:Nat):Prop where
 b:Below wo.heap.size wo w
 r:BR wo.heap.size w n2 bx cx (List.replicate n2 false)
 g:w.heap[gx]? = some (.cells #[.slice none 0 0,.int .i64 0] 86 (0,0))
 hg:wo.heap.size≤gx
theorem NxR.born {wo w:World} {n2 bx cx gx:Nat} (h:NewR wo w n2 bx cx gx) (by_:Int):NxR wo ((w.setCell ⟨gx,0,none⟩ (BV n2 bx cx)).setCell ⟨gx,1,none⟩ (.int .i64 by_)) n2 bx cx gx by_ (List.replicate n2 false):=by
 have ht1:=blk_put h.g 0 (BV n2 bx cx) rfl
 exact⟨(h.b.setCell h.hg _).setCell h.hg _,(h.r.far h.g (by decide) _ _).far ht1 (by decide) _ _,blk_put ht1 1 _ rfl,h.hg⟩
theorem goT_no {l:List TSym} {os:List TOpen} {cs:List TClose} {is:List TInner} {k:Int} {w:List Int} {row:Row} {by_:Int} {under:List (Row × Int)} (h:¬(0≤k∧k < l.length)):goT l os cs is (k :: w) row by_ under=none:=by
 cases under<;>(rw [goT.eq_def];simp only [];rw [if_neg h])
theorem drop_cons {α:Type} {l:List α} {i:Nat} (h:i < l.length):l.drop i=l[i] :: l.drop (i+1):=List.drop_eq_getElem_cons h
theorem fl_next {α:Type} (f:α→Row) (l:List α) (i:Nat) (h:i < l.length):(l.take (i+1)).flatMap f=(l.take i).flatMap f ++ f l[i]:=by
 rw [List.take_add_one,List.getElem?_eq_getElem h,List.flatMap_append]
 simp
def onP (t:Bool) (row:Row) (d:Int→Int) (frm dst:Int) (p:Nat):Row:=if t=true then oneL row d frm dst p else []
theorem NxR.back {wo w w' : World} {n2 bx cx gx b3 c3:Nat} {by_ by3:Int} {M M3:List Bool} (h:NxR wo w n2 bx cx gx by_ M) (hb:Below w.heap.size w w') (hr:BR w.heap.size w' n2 b3 c3 M3):NxR wo ((w'.setCell ⟨gx,0,none⟩ (BV n2 b3 c3)).setCell ⟨gx,1,none⟩ (.int .i64 by3)) n2 b3 c3 gx by3 M3:=by
 have hg:=blk_below h.g hb
 have ht1:=blk_put hg 0 (BV n2 b3 c3) rfl
 exact⟨((below_then h.b h.b.size hb).setCell h.hg _).setCell h.hg _,((hr.lower h.b.size).far hg (by decide) _ _).far ht1 (by decide) _ _,blk_put ht1 1 _ rfl,h.hg⟩
theorem kLv_mkM (n2:Nat) (w:World) (B:Nat) (ok:Nat→Prop) (b c:Nat) (by_:Int):(kLv n2).M w B ok ((b,c),by_) [BV n2 b c,.int .i64 by_]:=⟨_,_,rfl,rfl,rfl⟩
theorem at_lv {n2:Nat} {w:World} {A:Option Addr} {n:Nat} {xs:List TLv} (h:Kd.C (kLv n2) w A n xs) (i:Nat) (u:TLv) (hu:xs[i]? = some u) (hi:i < n) :
 ∃ad,A=some ad∧w.cell? (ad.add (i*2))=some (BV n2 u.1.1 u.1.2)∧w.cell? ⟨(ad.add (i*2)).block,(ad.add (i*2)).off+1,none⟩=some (.int .i64 u.2):=by
 obtain⟨ad,c,e,_,hK,hc0⟩:=Kd.C_get h ((0,0),0) (i:Int) (by omega) (by omega)
 rw [Int.toNat_natCast] at hK hc0
 have e2:xs.getD i ((0,0),0)=u:=by rw [List.getD_eq_getElem?_getD,hu];rfl
 rw [e2] at hK
 have hc:∀j u,c[j]? = some u→w.cell? (ad.add (i*2+j))=some u:=hc0
 obtain⟨_,_,rfl,rfl,rfl⟩:=hK
 exact⟨ad,e,hc 0 _ rfl,by rw [←add_field _ _ 1 (by omega)];exact hc 1 _ rfl⟩
end Go.Proofs.YtejpijgfpbcibaaGreat.P
end
