/- Words and walks of this claim: URNorm, URLong, SRefTakes, SClone. -/
import Derived.Test.YtjkhdldgmkkhjaaIUTyEtc
import Derived.Test.YtjkhdldgmkkhjaaISNormRef
import Derived.Test.YtjkhdldgmkkhjaaITkInside
import Derived.Test.YtjkhdldgmkkhjaaISTkRef
import Derived.Test.YtjkhdldgmkkhjaaISBack
import Derived.Test.YtjkhdldgmkkhjaaIWLastEtc
set_option linter.unusedVariables false
set_option linter.unusedSimpArgs false
set_option linter.unnecessarySimpa false
section
namespace Go.Proofs.Ytjkhdldgmkkhjaa.P
open Go.RowKit Go.Proofs.YtjkhdldgmkkhjaaW.PrintWords Go.Proofs.YtjkhdldgmkkhjaaW.PrintLast Go.Proofs.YtjkhdldgmkkhjaaW.PrintMore Go.Proofs.Ytjkhdldgmkkhjaa.M
section
variable {l : List SSym}
end
theorem mem_row {α:Type} (f:α→TOpen) (g:TOpen→α) (hg:∀x,g (f x)=x) (l:List α) (x:α):x∈(onceC cmpOpen (l.map f)).map g↔x∈l:=by
 rw [List.mem_map]
 constructor
 ·rintro ⟨y, hy, rfl⟩
  obtain⟨z,hz,rfl⟩:=List.mem_map.1 (totalOpen.mem_once.1 hy)
  rw [hg];exact hz
 intro h
 exact⟨f x,totalOpen.mem_once.2 (List.mem_map.2 ⟨x,h,rfl⟩),hg x⟩
theorem once_len1 {α:Type} {cmp:α→α→Int} (T:TotalCmp cmp) (l:List α):(onceC cmp l).length≤l.length:=once_lenle T l
end Go.Proofs.Ytjkhdldgmkkhjaa.P
end
section
namespace Go.Proofs.Ytjkhdldgmkkhjaa.P
open Go.RowKit Go.Proofs.YtjkhdldgmkkhjaaW.PrintWords Go.Proofs.YtjkhdldgmkkhjaaW.PrintLast Go.Proofs.YtjkhdldgmkkhjaaW.PrintMore Go.Proofs.Ytjkhdldgmkkhjaa.M
def ddk {α:Type} (ne:α→α→Bool) (p:Option α) (x:α):Bool:=match p with|none=>true|some y=>ne y x
def dd {α:Type} (ne:α→α→Bool) (p:Option α):List α→List α
 | []=>[]
 | x :: l=>(if ddk ne p x=true then [x] else []) ++ dd ne (some x) l
section
variable {α : Type} (ne : α → α → Bool)
theorem dd_snoc:∀(l:List α) (p:Option α) (x:α),dd ne p (l ++ [x])=dd ne p l ++ (if ddk ne (l.getLast?.or p) x=true then [x] else [])
 | [],p,x=>by
  show (if ddk ne p x=true then [x] else []) ++ [] = [] ++ _
  rw [List.append_nil,List.nil_append]
  cases p<;>rfl
 | y :: l,p,x=>by
  show (if ddk ne p y=true then [y] else []) ++ dd ne (some y) (l ++ [x])=((if ddk ne p y=true then [y] else []) ++ dd ne (some y) l) ++ _
  rw [dd_snoc l (some y) x,List.append_assoc,List.getLast?_cons]
  cases l.getLast?<;>rfl
theorem dd_zero (l:List α) (h:0 < l.length):dd ne none (l.take (0+1))=dd ne none (l.take 0) ++ [l[0]]:=by
 cases l with
 | nil=>simp at h
 | cons x l=>simp [dd,ddk]
theorem dd_next (l:List α) (i:Nat) (h:i+1 < l.length):dd ne none (l.take (i+1+1))=dd ne none (l.take (i+1)) ++ (if ne l[i] l[i+1]=true then [l[i+1]] else []):=by
 have e1:l.take (i+1+1)=l.take (i+1) ++ [l[i+1]]:=by rw [List.take_add_one,List.getElem?_eq_getElem h];rfl
 have e2:l.take (i+1)=l.take i ++ [l[i]]:=by rw [List.take_add_one,List.getElem?_eq_getElem (by omega)];rfl
 rw [e1,dd_snoc,e2,List.getLast?_append]
 rfl
theorem dd_mem:∀(l:List α) (p:Option α),∀x∈dd ne p l,x∈l
 | [],_,x,h=>h
 | y :: l,p,x,h=>by
  replace h:x∈(if ddk ne p y=true then [y] else []) ++ dd ne (some y) l:=h
  rcases List.mem_append.1 h with h|h
  ·split at h
   ·rw [List.mem_singleton.1 h];exact List.mem_cons_self
   cases h
  exact List.mem_cons_of_mem _ (dd_mem l _ x h)
theorem dd_len:∀(l:List α) (p:Option α),(dd ne p l).length≤l.length
 | [],_=>Nat.le_refl _
 | y :: l,p=>by
  show ((if ddk ne p y=true then [y] else []) ++ dd ne (some y) l).length≤_
  rw [List.length_append,List.length_cons]
  have:=dd_len l (some y)
  generalize ddk ne p y=b
  cases b<;>simp<;>omega
theorem dd_lt {lt eq:α→α→Prop} (t1:∀a b c,lt a b→lt b c→lt a c) (t2:∀a b c,eq a b→lt b c→lt a c) (hn:∀a b,lt a b∨eq a b→(ne a b=true→lt a b)∧(ne a b=false→eq a b)):∀(l:List α) (p:Option α),l.Pairwise (fun a b=>lt a b∨eq a b)→(∀y,p=some y→∀x∈l,lt y x∨eq y x)→(dd ne p l).Pairwise lt∧∀y,p=some y→∀x∈dd ne p l,lt y x
 | [],p,_,_=>⟨List.Pairwise.nil,fun _ _ x hx=>by cases hx⟩
 | x :: l,p,hp,hy=>by
  obtain⟨h1,h2⟩:=List.pairwise_cons.1 hp
  obtain⟨i1,i2⟩:=dd_lt t1 t2 hn l (some x) h2 (fun y e z hz=>by cases e;exact h1 z hz)
  show ((if ddk ne p x=true then [x] else []) ++ dd ne (some x) l).Pairwise lt∧∀y,p=some y→∀z∈(if ddk ne p x=true then [x] else []) ++ dd ne (some x) l,lt y z
  refine⟨?_,fun y e z hz=>?_⟩
  ·split
   ·exact List.pairwise_cons.2 ⟨fun z hz=>i2 x rfl z hz,i1⟩
   exact i1
  subst e
  have hyx:=hn y x (hy y rfl x List.mem_cons_self)
  rcases List.mem_append.1 hz with h|h
  ·split at h
   ·rename_i c
    rw [List.mem_singleton.1 h]
    exact hyx.1 c
   cases h
  have h3 := i2 x rfl z h
  cases c:ne y x with
  | true=>exact t1 _ _ _ (hyx.1 c) h3
  | false=>exact t2 _ _ _ (hyx.2 c) h3
theorem one_only {lt:α→α→Prop} {l:List α} (P:α→Bool) (hl:l.Pairwise lt) (hP:∀a b,P a=true→P b=true→¬lt a b):(l.filter P).length≤1:=by
 have hf:(l.filter P).Pairwise lt:=hl.filter P
 have hm:∀x∈l.filter P,P x=true:=fun x hx=>(List.mem_filter.1 hx).2
 cases e:l.filter P with
 | nil=>simp
 | cons x t=>
  cases t with
  | nil=>simp
  | cons y t=>
   rw [e] at hf hm
   exact absurd ((List.pairwise_cons.1 hf).1 y (by simp)) (hP x y (hm x (by simp)) (hm y (by simp)))
end
def neO (a b:TOpen):Bool:=(a.f0 != b.f0) || (a.f1 != b.f1)
def neC (a b:TClose):Bool:=(a.f0 != b.f0) || ((a.f1 != b.f1) || (a.f2 != b.f2))
def neN (a b:TInner):Bool:=(a.f0 != b.f0) || (a.f1 != b.f1)
theorem cmp_key {a b:TOpen} (h:cmpOpen a b < 0):a.f0 < b.f0∨(a.f0=b.f0∧(a.f1 < b.f1∨(a.f1=b.f1∧(a.f2 < b.f2∨a.f2=b.f2)))):=by
 unfold cmpOpen orInt cmpInt at h
 repeat' split at h
 all_goals omega
theorem longO (l:List TOpen):(dd neO none ((onceC cmpOpen (l.map toOpen4)).map ofOpen4)).Pairwise (fun a b=>a.f0 < b.f0∨(a.f0=b.f0∧a.f1 < b.f1)):=by
 refine(dd_lt neO (lt:=fun a b=>a.f0 < b.f0∨(a.f0=b.f0∧a.f1 < b.f1)) (eq:=fun a b=>a.f0=b.f0∧a.f1=b.f1) (fun a b c h1 h2=>by omega) (fun a b c h1 h2=>by omega) (fun a b h=>?_) _ none (List.pairwise_map.2 ((totalOpen.once_sorted _).imp (fun {a b} h=>?_))) (fun y e=>by cases e)).1
 ·unfold neO
  simp only [Bool.or_eq_true,bne_iff_ne,ne_eq,Bool.or_eq_false_iff,bne_eq_false_iff_eq]
  omega
 have h1 := cmp_key h
 show ((ofOpen4 a).f0 < (ofOpen4 b).f0∨_)∨_
 simp only [ofOpen4]
 omega
theorem longC (l:List TClose):(dd neC none ((onceC cmpOpen (l.map toOpen5)).map ofOpen5)).Pairwise (fun a b=>a.f0 < b.f0∨(a.f0=b.f0∧(a.f1 < b.f1∨(a.f1=b.f1∧a.f2 < b.f2)))):=by
 refine(dd_lt neC (lt:=fun a b=>a.f0 < b.f0∨(a.f0=b.f0∧(a.f1 < b.f1∨(a.f1=b.f1∧a.f2 < b.f2)))) (eq:=fun a b=>a.f0=b.f0∧a.f1=b.f1∧a.f2=b.f2) (fun a b c h1 h2=>by omega) (fun a b c h1 h2=>by omega) (fun a b h=>?_) _ none (List.pairwise_map.2 ((totalOpen.once_sorted _).imp (fun {a b} h=>?_))) (fun y e=>by cases e)).1
 ·unfold neC
  simp only [Bool.or_eq_true,bne_iff_ne,ne_eq,Bool.or_eq_false_iff,bne_eq_false_iff_eq]
  omega
 have h1 := cmp_key h
 show ((ofOpen5 a).f0 < (ofOpen5 b).f0∨_)∨_
 simp only [ofOpen5]
 omega
theorem longN (l:List TInner):(dd neN none ((onceC cmpOpen (l.map toOpen6)).map ofOpen6)).Pairwise (fun a b=>a.f0 < b.f0∨(a.f0=b.f0∧a.f1 < b.f1)):=by
 refine(dd_lt neN (lt:=fun a b=>a.f0 < b.f0∨(a.f0=b.f0∧a.f1 < b.f1)) (eq:=fun a b=>a.f0=b.f0∧a.f1=b.f1) (fun a b c h1 h2=>by omega) (fun a b c h1 h2=>by omega) (fun a b h=>?_) _ none (List.pairwise_map.2 ((totalOpen.once_sorted _).imp (fun {a b} h=>?_))) (fun y e=>by cases e)).1
 ·unfold neN
  simp only [Bool.or_eq_true,bne_iff_ne,ne_eq,Bool.or_eq_false_iff,bne_eq_false_iff_eq]
  omega
 have h1 := cmp_key h
 show ((ofOpen6 a).f0 < (ofOpen6 b).f0∨_)∨_
 simp only [ofOpen6]
 omega
theorem long_step {l:List SSym} {os:List TOpen} {cs:List TClose} {is:List TInner} (ho:os.Pairwise (fun a b=>a.f0 < b.f0∨(a.f0=b.f0∧a.f1 < b.f1))) (hc:cs.Pairwise (fun a b=>a.f0 < b.f0∨(a.f0=b.f0∧(a.f1 < b.f1∨(a.f1=b.f1∧a.f2 < b.f2))))) (hi:is.Pairwise (fun a b=>a.f0 < b.f0∨(a.f0=b.f0∧a.f1 < b.f1))) (i0 s:Int):(stepL l os cs is (startL [i0]) s).length≤1:=by
 have e:startL [i0] = [⟨i0,[]⟩]:=rfl
 rw [e]
 unfold stepL
 split
 ·refine Nat.le_trans (once_lenle totalAt _) ?_
  rw [List.flatMap_cons,List.flatMap_nil,List.append_nil]
  unfold moveL
  split
  ·unfold openL
   rw [List.length_map]
   exact one_only _ ho (fun a b h1 h2=>by simp only [decide_eq_true_eq] at h1 h2;omega)
  split
  ·unfold closeL
   rw [List.length_map]
   exact one_only _ hc (fun a b h1 h2=>by simp only [decide_eq_true_eq] at h1 h2;omega)
  unfold innerL
  rw [List.length_map]
  exact one_only _ hi (fun a b h1 h2=>by simp only [decide_eq_true_eq] at h1 h2;omega)
 simp
theorem long_ins {S:List SSym} {N G:Int} {st:MSt} (I:MkInv S N G st) {i0:Int} (h0:0≤i0∧i0 < N):insB N [i0] st.f (dd neO none ((onceC cmpOpen (st.o.map toOpen4)).map ofOpen4)) (dd neC none ((onceC cmpOpen (st.c.map toOpen5)).map ofOpen5)) (dd neN none ((onceC cmpOpen (st.n.map toOpen6)).map ofOpen6))=true:=by
 unfold insB
 rw [List.all_eq_true]
 intro x hx
 have ok:∀s:Int,0≤s∧s < N→okIn N s=true:=fun s hs=>by unfold okIn;rw [decide_eq_true hs.1,decide_eq_true hs.2];rfl
 unfold insL at hx
 simp only [List.mem_append,List.mem_flatMap] at hx
 rcases hx with (((h|h)|⟨r,hr,h⟩)|⟨r,hr,h⟩)|⟨r,hr,h⟩
 ·rw [List.mem_singleton.1 h];exact ok _ h0
 ·exact ok _ (I.f x h)
 ·obtain ⟨a1, a2, a3⟩ := I.n r ((mem_row _ _ (fun _ => rfl) _ _).1 (dd_mem _ _ _ _ hr))
  simp only [pN,List.mem_cons,List.not_mem_nil,or_false] at h
  rcases h with rfl|rfl
  ·exact ok _ a1
  exact ok _ a3
 ·obtain ⟨a1, a2, a3, a4⟩ := I.o r ((mem_row _ _ (fun _ => rfl) _ _).1 (dd_mem _ _ _ _ hr))
  simp only [pO,List.mem_cons,List.not_mem_nil,or_false] at h
  rcases h with rfl|rfl
  ·exact ok _ a1
  exact ok _ a3
 obtain ⟨a1, a2, a3, a4⟩ := I.c r ((mem_row _ _ (fun _ => rfl) _ _).1 (dd_mem _ _ _ _ hr))
 simp only [pC,List.mem_cons,List.not_mem_nil,or_false] at h
 rcases h with rfl|rfl
 ·exact ok _ a1
 exact ok _ a4
theorem dd_len4 (l:List TOpen):(dd neO none ((onceC cmpOpen (l.map toOpen4)).map ofOpen4)).length≤l.length:=by
 have h1:=dd_len neO ((onceC cmpOpen (l.map toOpen4)).map ofOpen4) none
 have h2:=once_lenle totalOpen (l.map toOpen4)
 rw [List.length_map] at h1 h2
 omega
theorem dd_len5 (l:List TClose):(dd neC none ((onceC cmpOpen (l.map toOpen5)).map ofOpen5)).length≤l.length:=by
 have h1:=dd_len neC ((onceC cmpOpen (l.map toOpen5)).map ofOpen5) none
 have h2:=once_lenle totalOpen (l.map toOpen5)
 rw [List.length_map] at h1 h2
 omega
theorem dd_len6 (l:List TInner):(dd neN none ((onceC cmpOpen (l.map toOpen6)).map ofOpen6)).length≤l.length:=by
 have h1:=dd_len neN ((onceC cmpOpen (l.map toOpen6)).map ofOpen6) none
 have h2:=once_lenle totalOpen (l.map toOpen6)
 rw [List.length_map] at h1 h2
 omega
end Go.Proofs.Ytjkhdldgmkkhjaa.P
end
section
namespace Go.Proofs.Ytjkhdldgmkkhjaa.P
open Go.RowKit Go.Proofs.YtjkhdldgmkkhjaaW.PrintWords Go.Proofs.YtjkhdldgmkkhjaaW.PrintLast Go.Proofs.YtjkhdldgmkkhjaaW.PrintMore Go.Proofs.Ytjkhdldgmkkhjaa.M
def canopyref4_Takes.f (l0:List TSym) (a1_0 a1_1:Int) (l1_2 l1_3:List Int) (l1_4:List TOpen) (l1_5:List TClose) (l1_6:List TInner) (l2:List Int):Option Bool:=
 if l0.length≤1000000∧l1_2.length≤1000000∧l1_3.length≤1000000∧l1_4.length≤1000000∧l1_5.length≤1000000∧l1_6.length≤1000000∧l2.length≤1000000 then some (takesR a1_0 l0 l1_2 l1_3 l1_4 l1_5 l1_6 l2) else none
theorem canopyref4_Takes.calls (A0:Option Addr) (c0:Nat) (l0:List TSym) (a1_0 a1_1:Int) (A1_2:Option Addr) (c1_2:Nat) (l1_2:List Int) (A1_3:Option Addr) (c1_3:Nat) (l1_3:List Int) (A1_4:Option Addr) (c1_4:Nat) (l1_4:List TOpen) (A1_5:Option Addr) (c1_5:Nat) (l1_5:List TClose) (A1_6:Option Addr) (c1_6:Nat) (l1_6:List TInner) (A2:Option Addr) (c2:Nat) (l2:List Int) (r:Bool) (w:World)
 (hr0:Kd.C k46 w A0 l0.length l0) (hc0:l0.length≤c0) (hr1_2:Kd.C (Kd.int .i64) w A1_2 l1_2.length l1_2) (hc1_2:l1_2.length≤c1_2) (hr1_3:Kd.C (Kd.int .i64) w A1_3 l1_3.length l1_3) (hc1_3:l1_3.length≤c1_3) (hr1_4:Kd.C k52 w A1_4 l1_4.length l1_4) (hc1_4:l1_4.length≤c1_4) (hr1_5:Kd.C k54 w A1_5 l1_5.length l1_5) (hc1_5:l1_5.length≤c1_5) (hr1_6:Kd.C k56 w A1_6 l1_6.length l1_6) (hc1_6:l1_6.length≤c1_6) (hr2:Kd.C (Kd.int .i64) w A2 l2.length l2) (hc2:l2.length≤c2)
 (h:canopyref4_Takes.f l0 a1_0 a1_1 l1_2 l1_3 l1_4 l1_5 l1_6 l2=some r) :
 Calls Try.prog 27 #[.slice A0 l0.length c0,.agg #[.int .i64 a1_0,.int .i64 a1_1,.slice A1_2 l1_2.length c1_2,.slice A1_3 l1_3.length c1_3,.slice A1_4 l1_4.length c1_4,.slice A1_5 l1_5.length c1_5,.slice A1_6 l1_6.length c1_6],.slice A2 l2.length c2] w fun e w'=>e=.returned (.bool r)∧Below w.heap.size w w':=by
 unfold canopyref4_Takes.f at h
 split at h
 case isFalse=>cases h
 rename_i hs
 obtain⟨s0,s1,s2,s3,s4,s5,s6⟩:=hs
 obtain rfl:=Option.some.inj h
 exact reftk_own a1_0 a1_1 A0 c0 l0 A1_2 c1_2 l1_2 A1_3 c1_3 l1_3 A1_4 c1_4 l1_4 A1_5 c1_5 l1_5 A1_6 c1_6 l1_6 A2 c2 l2 w hr0 hc0 s0 hr1_2 hc1_2 s1 hr1_3 hc1_3 s2 hr1_4 hc1_4 s3 hr1_5 hc1_5 s4 hr1_6 hc1_6 s5 hr2 hc2 s6
end Go.Proofs.Ytjkhdldgmkkhjaa.P
end
section
namespace Go.Proofs.Ytjkhdldgmkkhjaa.P
open Go.RowKit Go.Sort Go.Shelf Go.Proofs.YtjkhdldgmkkhjaaW.PrintWords Go.Proofs.YtjkhdldgmkkhjaaW.PrintLast Go.Proofs.YtjkhdldgmkkhjaaW.PrintMore Go.Proofs.Ytjkhdldgmkkhjaa.M
set_option maxHeartbeats 2000000 in
set_option maxRecDepth 100000 in
theorem clone_int_calls (A:Option Addr) (c:Nat) (xs:List Int) (w:World) (hr:Kd.C (Kd.int .i64) w A xs.length xs) (hl:xs.length≤1000000000) :
 Calls Try.prog 51 #[.slice A xs.length c] w fun e w'=>∃v' : Value,e=.returned v'∧(Kd.int .i64).R 3 w' w.heap.size (fun _=>True) v' xs∧Below w.heap.size w w':=by
 have q22:∀(w:World) (a:Option Addr) (n c n' c' : Nat),(binOp .eql 22 (.slice a n c) (.slice none n' c')).run Try.prog w=.ok (.bool a.isNone) w:=fun w a n c n' c'=>Lib.run_eql_slice_nil w _ _ a n c n' c' Try.underlying22
 cases A with
 | none=>
  have hx:xs = []:=by
   rcases Nat.eq_zero_or_pos xs.length with h|h
   ·exact List.length_eq_zero_iff.1 h
   obtain ⟨ad, e, _⟩ := hr.2.2 h
   cases e
  subst hx
  clear hr hl
  go_enter Try.func51,Try.ntmps51
  go_wp2
  go_ret
  exact⟨_,rfl,Kd.R_nil _ _ _ _ _,Below.refl _ _⟩
 | some ad=>
  have HR:=Aside0.mk hr
  have HL:=Aside0.mk hl
  clear hr hl
  go_enter Try.func51,Try.ntmps51
  go_wp2_with (at_builtin;go_loud (refine Kd.R_append_row (Value.int .i64) 0 (w0:=w) w.heap.size rfl (.tmp 5) (.tmp 6) 22 3 (.int .i64 0) 8 rfl Try.underlying22 infoInt rfl (by decide) _ [] xs (some ad) xs.length c (fun _=>True) rfl rfl (fun _ _=>trivial) (Kd.R_of_own (World.ownsRow_made w #[] 0 (Nat.le_refl _) (Nat.zero_le _) rfl) (fun _ _=>trivial)) (Kd.C_below HR.out (below_alloc (Below.refl _ _) _)) (below_alloc (Below.refl _ _) _) ?qb ?ql ?_))
  case qb=>rw [size_alloc];omega
  case ql=>have:=HL.out;simp;omega
  intro v1 w1 hr1 hb1 hg1 hat1
  go_wp2
  go_ret
  exact⟨v1,rfl,hr1,hb1⟩
set_option maxHeartbeats 2000000 in
set_option maxRecDepth 100000 in
theorem grow_int_calls (n:Int) (w:World) (h0:0≤n) (h1:n≤10000000000) :
 Calls Try.prog 61 #[.slice none 0 0,.int .i64 n] w fun e w'=>∃v' : Value,e=.returned v'∧(Kd.int .i64).R 3 w' w.heap.size (fun _=>True) v' []∧Below w.heap.size w w':=by
 have w0:wrap64 (0 - 0)=0:=by unfold wrap64;omega
 have w1:wrap64 (n - 0)=n:=by unfold wrap64;omega
 have w2:wrap64 n=n:=by unfold wrap64;omega
 have d0:decide (n < 0)=false:=decide_eq_false (by omega)
 by_cases hn:n > 0
 ·have d1 : decide (n > 0) = true := decide_eq_true hn
  have HN:=Aside0.mk (And.intro h0 h1)
  clear hn h0 h1
  go_enter Try.func61,Try.ntmps61
  go_wp2_with (at_builtin;go_loud (refine Kd.R_append_zeros (Kd.int .i64) (w0:=w) w.heap.size rfl (.tmp 20) (.tmp 21) 22 3 3 (.int .i64 0) 8 rfl Try.underlying22 Try.underlying3 infoInt rfl (by decide) (by omega) _ [] 0 (wrap64 n) (fun _=>True) rfl rfl rfl (fun _ _=>trivial) (Kd.R_nil _ _ _ _ _) (by rw [w2];exact HN.out.1) (Below.refl _ _) (Nat.le_refl _) ?ql ?_))
  case ql=>have:=HN.out;rw [w2];simp;omega
  intro v1 w9 hr1 hb1 hg1 hat1
  obtain⟨A,c,e⟩:=Kd.R_slice hr1
  have hr2:=Kd.R_take (m:=0) (e ▸ hr1) (Nat.zero_le _)
  subst e
  have HR:=Aside0.mk hr2
  have HB:=Aside0.mk hb1
  clear hr1 hb1 hg1 hat1 hr2
  go_wp2
  go_ret
  exact⟨_,rfl,HR.out,HB.out⟩
 have d1 : decide (n > 0) = false := decide_eq_false hn
 clear hn h0 h1
 go_enter Try.func61,Try.ntmps61
 go_wp2
 go_ret
 exact⟨_,rfl,Kd.R_nil _ _ _ _ _,Below.refl _ _⟩
set_option maxHeartbeats 4000000 in
set_option maxRecDepth 100000 in
theorem concat_calls (a b:List Int) (A B:Option Addr) (ca cb g:Nat) (w:World) (ha:Kd.C (Kd.int .i64) w A a.length a) (hb:Kd.C (Kd.int .i64) w B b.length b) (hla:a.length≤1000000000) (hlb:b.length≤1000000000) (hg:w.heap[g]? = some (.cells #[.slice A a.length ca,.slice B b.length cb] 22 (0,0))) :
 Calls Try.prog 52 #[.slice (some ⟨g,0,none⟩) 2 2] w fun e w'=>∃v' : Value,e=.returned v'∧(Kd.int .i64).R 3 w' w.heap.size (fun _=>True) v' (a ++ b)∧Below w.heap.size w w':=by
 have HA:=Aside0.mk ha
 have HB:=Aside0.mk hb
 have HL:=Aside0.mk (And.intro hla hlb)
 have HG:=Aside0.mk hg
 clear ha hb hla hlb hg
 have w1:wrap64 (a.length:Int)=(a.length:Int):=by have:=HL.out;unfold wrap64;omega
 have w2:wrap64 ((a.length:Int)+(b.length:Int))=(a.length:Int)+(b.length:Int):=by have:=HL.out;unfold wrap64;omega
 have n1:decide ((a.length:Int) < 0)=false:=decide_eq_false (by omega)
 have n2:decide ((a.length:Int)+(b.length:Int) < 0)=false:=decide_eq_false (by omega)
 go_enter Try.func52,Try.ntmps52
 go_wp2
 go_loopg [3,5,11] 3 (fun gq v3 v5 v11 w'=>∃(i:Nat),v11=.int .i64 (i:Int)∧Aside0 (i≤2∧2≤gq+i)∧v3=.int .i64 (((if 1≤i then a.length else 0:Nat)+(if 2≤i then b.length else 0:Nat):Nat):Int)∧w' = w)
 case atStart=>exact⟨0,rfl,⟨by omega,by omega⟩,by simp,rfl⟩
 case' round=>skip
 obtain⟨i,rfl,Hi,rfl,rfl⟩:=hrel
 obtain⟨w,rfl⟩:∃w:World,w=wr:=⟨_,rfl⟩
 have k0:w.cell? ⟨g,0,none⟩=some (.slice A a.length ca):=(blk_cell HG.out 0).trans rfl
 have k1:w.cell? ⟨g,1,none⟩=some (.slice B b.length cb):=(blk_cell HG.out 1).trans rfl
 have hc:i=0∨i=1∨i=2:=by have:=Hi.out;omega
 rcases hc with rfl|rfl|rfl
 ·go_wp2
  go_roundg 1
  case measure=>have:=Hi.out;omega
  case rel=>exact⟨1,by simp,⟨by omega,by omega⟩,by simp,rfl⟩
 ·go_wp2
  go_roundg 0
  case measure=>have:=Hi.out;omega
  case rel=>exact⟨2,by simp,⟨by omega,by omega⟩,by simp,rfl⟩
 go_wp2_with (go_at_call 61; go_loud (refine (grow_int_calls ((a.length : Int) + (b.length : Int)) _ (by omega) (by have := HL.out; omega)).mono ?_; rintro e w' ⟨v', rfl, hr, hbw⟩; have HR := Aside0.mk hr; have HBW := Aside0.mk hbw; clear hr hbw))
 have HG1:=Aside0.mk (blk_grown HG.out (⟨HBW.out.os,HBW.out.tape,HBW.out.output,HBW.out.size,fun k hk _=>HBW.out.block k hk⟩:w.grownBy w' none) nen)
 have hsz:=HBW.out.size
 have HS:=Aside0.mk hsz
 have HA1:=Aside0.mk (Kd.C_below HA.out HBW.out)
 have HB1:=Aside0.mk (Kd.C_below HB.out HBW.out)
 obtain⟨wo,rfl⟩:∃wo:World,wo=w':=⟨_,rfl⟩
 clear k0 k1 hsz
 go_loopg [6,8,27] 3 (fun gq v6 v8 v27 w'=>∃(i:Nat),v27=.int .i64 (i:Int)∧Aside0 (i≤2∧2≤gq+i)∧Aside0 ((Kd.int .i64).R 3 w' w.heap.size (fun _=>True) v6 ((if 1≤i then a else []) ++ (if 2≤i then b else [])))∧Aside0 (Below w.heap.size w w')∧Aside0 (g < w.heap.size))
 case atStart=>exact⟨0,rfl,⟨by omega,by omega⟩,by simpa using HR,HBW,⟨blk_lt HG.out⟩⟩
 case' round=>skip
 obtain⟨i,rfl,Hi,HR1,HBx,Hgl⟩:=hrel
 have HGx:=Aside0.mk ((HBx.out.block g Hgl.out).trans HG.out)
 have k0:wr.cell? ⟨g,0,none⟩=some (.slice A a.length ca):=(blk_cell HGx.out 0).trans rfl
 have k1:wr.cell? ⟨g,1,none⟩=some (.slice B b.length cb):=(blk_cell HGx.out 1).trans rfl
 have hc:i=0∨i=1∨i=2:=by have:=Hi.out;omega
 rcases hc with rfl|rfl|rfl
 ·have hR0 := Aside0.mk (show (Kd.int .i64).R 3 wr w.heap.size (fun _ => True) u6 [] by simpa using HR1.out)
  go_wp2_with (at_builtin;go_loud (refine Kd.R_append_row (Value.int .i64) 0 (w0:=w) w.heap.size rfl (.tmp 31) (.tmp 32) 22 3 (.int .i64 0) 8 rfl Try.underlying22 infoInt rfl (by decide) u6 [] a A a.length ca (fun _=>True) rfl rfl (fun _ _=>trivial) hR0.out (Kd.C_below HA.out HBx.out) HBx.out HBx.out.size ?ql1 ?_))
  case ql1=>have:=HL.out;simp;omega
  intro v1 w1 hr1 hb1 hg1 hat1
  go_wp2
  go_roundg 1
  case measure=>have:=Hi.out;omega
  case rel=>exact⟨1,by simp,⟨by omega,by omega⟩,⟨by have h:(Kd.int .i64).R 3 w1 w.heap.size (fun _=>True) v1 ([] ++ a):=hr1;simpa using h⟩,⟨hb1⟩,Hgl⟩
 ·have hR0 := Aside0.mk (show (Kd.int .i64).R 3 wr w.heap.size (fun _ => True) u6 a by simpa using HR1.out)
  go_wp2_with (at_builtin;go_loud (refine Kd.R_append_row (Value.int .i64) 0 (w0:=w) w.heap.size rfl (.tmp 31) (.tmp 32) 22 3 (.int .i64 0) 8 rfl Try.underlying22 infoInt rfl (by decide) u6 a b B b.length cb (fun _=>True) rfl rfl (fun _ _=>trivial) hR0.out (Kd.C_below HB.out HBx.out) HBx.out HBx.out.size ?ql2 ?_))
  case ql2=>have:=HL.out;omega
  intro v1 w1 hr1 hb1 hg1 hat1
  go_wp2
  go_roundg 0
  case measure=>have:=Hi.out;omega
  case rel=>exact⟨2,by simp,⟨by omega,by omega⟩,⟨by have h:(Kd.int .i64).R 3 w1 w.heap.size (fun _=>True) v1 (a ++ b):=hr1;simpa using h⟩,⟨hb1⟩,Hgl⟩
 go_wp2
 go_ret
 exact⟨_,rfl,by simpa using HR1.out,HBx.out⟩
end Go.Proofs.Ytjkhdldgmkkhjaa.P
end
