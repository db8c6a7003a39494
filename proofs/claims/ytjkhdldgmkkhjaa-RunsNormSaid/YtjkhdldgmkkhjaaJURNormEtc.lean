/- Words and walks of this claim: URNorm, SClone. -/
import Derived.Test.YtjkhdldgmkkhjaaJUTyEtc
import Derived.Test.YtjkhdldgmkkhjaaJSNormRef
import Derived.Test.YtjkhdldgmkkhjaaJSBack
import Derived.Test.YtjkhdldgmkkhjaaJWLastEtc
set_option linter.unusedVariables false
set_option linter.unusedSimpArgs false
set_option linter.unnecessarySimpa false
section
namespace Go.Proofs.Ytjkhdldgmkkhjaa.P
open Go.RowKit Go.Proofs.YtjkhdldgmkkhjaaW.PrintWords Go.Proofs.YtjkhdldgmkkhjaaW.PrintLast Go.Proofs.YtjkhdldgmkkhjaaW.PrintMore Go.Proofs.Ytjkhdldgmkkhjaa.M
section
variable {l : List SSym}
theorem run_sub {os os' : List TOpen} {cs cs' : List TClose} {is is' : List TInner} (ho:∀x∈os,x∈os') (hc:∀x∈cs,x∈cs') (hi:∀x∈is,x∈is'):∀(w:List Int),(∀s∈w,0≤s∧s < l.length)→∀{p q:List TAt},(∀x∈p,x∈q)→∀x∈runL l os cs is p w,x∈runL l os' cs' is' q w
 | [],_,p,q,h=>h
 | s :: w,hw,p,q,h=>run_sub ho hc hi w (fun x hx=>hw x (List.mem_cons_of_mem _ hx)) (fun y hy=>by
  have hs:=hw s List.mem_cons_self
  obtain⟨x,hx,hm⟩:=(mem_step hs).1 hy
  refine(mem_step hs).2 ⟨x,h x hx,?_⟩
  unfold moveL at hm ⊢
  split at hm
  ·rename_i k1
   rw [if_pos k1]
   obtain⟨o,h1,hc2,e⟩:=mem_open.1 hm
   exact mem_open.2 ⟨o,ho o h1,hc2,e⟩
  rename_i k1
  rw [if_neg k1]
  split at hm
  ·rename_i k2
   rw [if_pos k2]
   obtain⟨o,h1,hc2,e⟩:=mem_close.1 hm
   exact mem_close.2 ⟨o,hc o h1,hc2,e⟩
  rename_i k2
  rw [if_neg k2]
  obtain⟨o,h1,hc2,e⟩:=mem_inner.1 hm
  exact mem_inner.2 ⟨o,hi o h1,hc2,e⟩)
theorem takes_sub {i i' f f' : List Int} {os os' : List TOpen} {cs cs' : List TClose} {is is' : List TInner} (h1:∀x∈i,x∈i') (h2:∀x∈f,x∈f') (ho:∀x∈os,x∈os') (hc:∀x∈cs,x∈cs') (hi:∀x∈is,x∈is') {w:List Int} (hw:∀s∈w,0≤s∧s < l.length) (h:takesB l i f os cs is w=true):takesB l i' f' os' cs' is' w=true:=by
 rw [takes_iff hw] at h ⊢
 obtain⟨x,hx,hf⟩:=h
 exact⟨x,run_sub ho hc hi w hw (fun y hy=>mem_start.2 ⟨h1 _ (mem_start.1 hy).1,(mem_start.1 hy).2⟩) x hx,h2 _ hf⟩
theorem takes_same {i i' f f' : List Int} {os os' : List TOpen} {cs cs' : List TClose} {is is' : List TInner} (h1:∀x,x∈i'↔x∈i) (h2:∀x,x∈f'↔x∈f) (ho:∀x,x∈os'↔x∈os) (hc:∀x,x∈cs'↔x∈cs) (hi:∀x,x∈is'↔x∈is) {w:List Int} (hw:∀s∈w,0≤s∧s < l.length):takesB l i' f' os' cs' is' w=takesB l i f os cs is w:=by
 cases e:takesB l i f os cs is w with
 | true=>exact takes_sub (fun x=>(h1 x).2) (fun x=>(h2 x).2) (fun x=>(ho x).2) (fun x=>(hc x).2) (fun x=>(hi x).2) hw e
 | false=>
  cases e' : takesB l i' f' os' cs' is' w with
  | false=>rfl
  | true=>rw [takes_sub (fun x=>(h1 x).1) (fun x=>(h2 x).1) (fun x=>(ho x).1) (fun x=>(hc x).1) (fun x=>(hi x).1) hw e'] at e;cases e
end
theorem mem_row {α:Type} (f:α→TOpen) (g:TOpen→α) (hg:∀x,g (f x)=x) (l:List α) (x:α):x∈(onceC cmpOpen (l.map f)).map g↔x∈l:=by
 rw [List.mem_map]
 constructor
 ·rintro ⟨y, hy, rfl⟩
  obtain⟨z,hz,rfl⟩:=List.mem_map.1 (totalOpen.mem_once.1 hy)
  rw [hg];exact hz
 intro h
 exact⟨f x,totalOpen.mem_once.2 (List.mem_map.2 ⟨x,h,rfl⟩),hg x⟩
theorem takes_norm {l:List SSym} {i f:List Int} {os:List TOpen} {cs:List TClose} {is:List TInner} {w:List Int} (hw:∀s∈w,0≤s∧s < l.length):takesB l (onceC cmpInt i) (onceC cmpInt f) ((onceC cmpOpen (os.map toOpen4)).map ofOpen4) ((onceC cmpOpen (cs.map toOpen5)).map ofOpen5) ((onceC cmpOpen (is.map toOpen6)).map ofOpen6) w=takesB l i f os cs is w:=
 takes_same (fun _=>totalInt.mem_once) (fun _=>totalInt.mem_once) (mem_row _ _ (fun _=>rfl) os) (mem_row _ _ (fun _=>rfl) cs) (mem_row _ _ (fun _=>rfl) is) hw
theorem takes_twice {l:List SSym} {i f:List Int} {os:List TOpen} {cs:List TClose} {is:List TInner} {w:List Int} (hw:∀s∈w,0≤s∧s < l.length):takesB l i f (os ++ os) cs (is ++ is) w=takesB l i f os cs is w:=
 takes_same (fun _=>Iff.rfl) (fun _=>Iff.rfl) (fun x=>by simp) (fun _=>Iff.rfl) (fun x=>by simp) hw
theorem once_len1 {α:Type} {cmp:α→α→Int} (T:TotalCmp cmp) (l:List α):(onceC cmp l).length≤l.length:=once_lenle T l
end Go.Proofs.Ytjkhdldgmkkhjaa.P
end
section
namespace Go.Proofs.Ytjkhdldgmkkhjaa.P
open Go.RowKit Go.Sort Go.Shelf Go.Proofs.YtjkhdldgmkkhjaaW.PrintWords Go.Proofs.YtjkhdldgmkkhjaaW.PrintLast Go.Proofs.YtjkhdldgmkkhjaaW.PrintMore Go.Proofs.Ytjkhdldgmkkhjaa.M
set_option maxHeartbeats 2000000 in
set_option maxRecDepth 100000 in
theorem clone_int_calls (A:Option Addr) (c:Nat) (xs:List Int) (w:World) (hr:Kd.C (Kd.int .i64) w A xs.length xs) (hl:xs.length≤1000000000) :
 Calls Try.prog 51 #[.slice A xs.length c] w fun e w'=>∃v' : Value,e=.returned v'∧(Kd.int .i64).R 3 w' w.heap.size (fun _=>True) v' xs∧Below w.heap.size w w':=by
 have q22:∀(w:World) (a:Option Addr) (n c n' c' : Nat),(binOp .eql 22 (.slice a n c) (.slice none n' c')).run Try.prog w=.ok (.bool a.isNone) w:=fun w a n c n' c'=>Lib.run_eql_slice_nil w _ _ a n c n' c' Try.underlying22
 cases A with
 | none=>
  have hx:xs = []:=by
   rcases Nat.eq_zero_or_pos xs.length with h|h
   ·exact List.length_eq_zero_iff.1 h
   obtain ⟨ad, e, _⟩ := hr.2.2 h
   cases e
  subst hx
  clear hr hl
  go_enter Try.func51,Try.ntmps51
  go_wp2
  go_ret
  exact⟨_,rfl,Kd.R_nil _ _ _ _ _,Below.refl _ _⟩
 | some ad=>
  have HR:=Aside0.mk hr
  have HL:=Aside0.mk hl
  clear hr hl
  go_enter Try.func51,Try.ntmps51
  go_wp2_with (at_builtin;go_loud (refine Kd.R_append_row (Value.int .i64) 0 (w0:=w) w.heap.size rfl (.tmp 5) (.tmp 6) 22 3 (.int .i64 0) 8 rfl Try.underlying22 infoInt rfl (by decide) _ [] xs (some ad) xs.length c (fun _=>True) rfl rfl (fun _ _=>trivial) (Kd.R_of_own (World.ownsRow_made w #[] 0 (Nat.le_refl _) (Nat.zero_le _) rfl) (fun _ _=>trivial)) (Kd.C_below HR.out (below_alloc (Below.refl _ _) _)) (below_alloc (Below.refl _ _) _) ?qb ?ql ?_))
  case qb=>rw [size_alloc];omega
  case ql=>have:=HL.out;simp;omega
  intro v1 w1 hr1 hb1 hg1 hat1
  go_wp2
  go_ret
  exact⟨v1,rfl,hr1,hb1⟩
set_option maxHeartbeats 2000000 in
set_option maxRecDepth 100000 in
theorem grow_int_calls (n:Int) (w:World) (h0:0≤n) (h1:n≤10000000000) :
 Calls Try.prog 61 #[.slice none 0 0,.int .i64 n] w fun e w'=>∃v' : Value,e=.returned v'∧(Kd.int .i64).R 3 w' w.heap.size (fun _=>True) v' []∧Below w.heap.size w w':=by
 have w0:wrap64 (0 - 0)=0:=by unfold wrap64;omega
 have w1:wrap64 (n - 0)=n:=by unfold wrap64;omega
 have w2:wrap64 n=n:=by unfold wrap64;omega
 have d0:decide (n < 0)=false:=decide_eq_false (by omega)
 by_cases hn:n > 0
 ·have d1 : decide (n > 0) = true := decide_eq_true hn
  have HN:=Aside0.mk (And.intro h0 h1)
  clear hn h0 h1
  go_enter Try.func61,Try.ntmps61
  go_wp2_with (at_builtin;go_loud (refine Kd.R_append_zeros (Kd.int .i64) (w0:=w) w.heap.size rfl (.tmp 20) (.tmp 21) 22 3 3 (.int .i64 0) 8 rfl Try.underlying22 Try.underlying3 infoInt rfl (by decide) (by omega) _ [] 0 (wrap64 n) (fun _=>True) rfl rfl rfl (fun _ _=>trivial) (Kd.R_nil _ _ _ _ _) (by rw [w2];exact HN.out.1) (Below.refl _ _) (Nat.le_refl _) ?ql ?_))
  case ql=>have:=HN.out;rw [w2];simp;omega
  intro v1 w9 hr1 hb1 hg1 hat1
  obtain⟨A,c,e⟩:=Kd.R_slice hr1
  have hr2:=Kd.R_take (m:=0) (e ▸ hr1) (Nat.zero_le _)
  subst e
  have HR:=Aside0.mk hr2
  have HB:=Aside0.mk hb1
  clear hr1 hb1 hg1 hat1 hr2
  go_wp2
  go_ret
  exact⟨_,rfl,HR.out,HB.out⟩
 have d1 : decide (n > 0) = false := decide_eq_false hn
 clear hn h0 h1
 go_enter Try.func61,Try.ntmps61
 go_wp2
 go_ret
 exact⟨_,rfl,Kd.R_nil _ _ _ _ _,Below.refl _ _⟩
set_option maxHeartbeats 4000000 in
set_option maxRecDepth 100000 in
theorem concat_calls (a b:List Int) (A B:Option Addr) (ca cb g:Nat) (w:World) (ha:Kd.C (Kd.int .i64) w A a.length a) (hb:Kd.C (Kd.int .i64) w B b.length b) (hla:a.length≤1000000000) (hlb:b.length≤1000000000) (hg:w.heap[g]? = some (.cells #[.slice A a.length ca,.slice B b.length cb] 22 (0,0))) :
 Calls Try.prog 52 #[.slice (some ⟨g,0,none⟩) 2 2] w fun e w'=>∃v' : Value,e=.returned v'∧(Kd.int .i64).R 3 w' w.heap.size (fun _=>True) v' (a ++ b)∧Below w.heap.size w w':=by
 have HA:=Aside0.mk ha
 have HB:=Aside0.mk hb
 have HL:=Aside0.mk (And.intro hla hlb)
 have HG:=Aside0.mk hg
 clear ha hb hla hlb hg
 have w1:wrap64 (a.length:Int)=(a.length:Int):=by have:=HL.out;unfold wrap64;omega
 have w2:wrap64 ((a.length:Int)+(b.length:Int))=(a.length:Int)+(b.length:Int):=by have:=HL.out;unfold wrap64;omega
 have n1:decide ((a.length:Int) < 0)=false:=decide_eq_false (by omega)
 have n2:decide ((a.length:Int)+(b.length:Int) < 0)=false:=decide_eq_false (by omega)
 go_enter Try.func52,Try.ntmps52
 go_wp2
 go_loopg [3,5,11] 3 (fun gq v3 v5 v11 w'=>∃(i:Nat),v11=.int .i64 (i:Int)∧Aside0 (i≤2∧2≤gq+i)∧v3=.int .i64 (((if 1≤i then a.length else 0:Nat)+(if 2≤i then b.length else 0:Nat):Nat):Int)∧w' = w)
 case atStart=>exact⟨0,rfl,⟨by omega,by omega⟩,by simp,rfl⟩
 case' round=>skip
 obtain⟨i,rfl,Hi,rfl,rfl⟩:=hrel
 obtain⟨w,rfl⟩:∃w:World,w=wr:=⟨_,rfl⟩
 have k0:w.cell? ⟨g,0,none⟩=some (.slice A a.length ca):=(blk_cell HG.out 0).trans rfl
 have k1:w.cell? ⟨g,1,none⟩=some (.slice B b.length cb):=(blk_cell HG.out 1).trans rfl
 have hc:i=0∨i=1∨i=2:=by have:=Hi.out;omega
 rcases hc with rfl|rfl|rfl
 ·go_wp2
  go_roundg 1
  case measure=>have:=Hi.out;omega
  case rel=>exact⟨1,by simp,⟨by omega,by omega⟩,by simp,rfl⟩
 ·go_wp2
  go_roundg 0
  case measure=>have:=Hi.out;omega
  case rel=>exact⟨2,by simp,⟨by omega,by omega⟩,by simp,rfl⟩
 go_wp2_with (go_at_call 61; go_loud (refine (grow_int_calls ((a.length : Int) + (b.length : Int)) _ (by omega) (by have := HL.out; omega)).mono ?_; rintro e w' ⟨v', rfl, hr, hbw⟩; have HR := Aside0.mk hr; have HBW := Aside0.mk hbw; clear hr hbw))
 have HG1:=Aside0.mk (blk_grown HG.out (⟨HBW.out.os,HBW.out.tape,HBW.out.output,HBW.out.size,fun k hk _=>HBW.out.block k hk⟩:w.grownBy w' none) nen)
 have hsz:=HBW.out.size
 have HS:=Aside0.mk hsz
 have HA1:=Aside0.mk (Kd.C_below HA.out HBW.out)
 have HB1:=Aside0.mk (Kd.C_below HB.out HBW.out)
 obtain⟨wo,rfl⟩:∃wo:World,wo=w':=⟨_,rfl⟩
 clear k0 k1 hsz
 go_loopg [6,8,27] 3 (fun gq v6 v8 v27 w'=>∃(i:Nat),v27=.int .i64 (i:Int)∧Aside0 (i≤2∧2≤gq+i)∧Aside0 ((Kd.int .i64).R 3 w' w.heap.size (fun _=>True) v6 ((if 1≤i then a else []) ++ (if 2≤i then b else [])))∧Aside0 (Below w.heap.size w w')∧Aside0 (g < w.heap.size))
 case atStart=>exact⟨0,rfl,⟨by omega,by omega⟩,by simpa using HR,HBW,⟨blk_lt HG.out⟩⟩
 case' round=>skip
 obtain⟨i,rfl,Hi,HR1,HBx,Hgl⟩:=hrel
 have HGx:=Aside0.mk ((HBx.out.block g Hgl.out).trans HG.out)
 have k0:wr.cell? ⟨g,0,none⟩=some (.slice A a.length ca):=(blk_cell HGx.out 0).trans rfl
 have k1:wr.cell? ⟨g,1,none⟩=some (.slice B b.length cb):=(blk_cell HGx.out 1).trans rfl
 have hc:i=0∨i=1∨i=2:=by have:=Hi.out;omega
 rcases hc with rfl|rfl|rfl
 ·have hR0 := Aside0.mk (show (Kd.int .i64).R 3 wr w.heap.size (fun _ => True) u6 [] by simpa using HR1.out)
  go_wp2_with (at_builtin;go_loud (refine Kd.R_append_row (Value.int .i64) 0 (w0:=w) w.heap.size rfl (.tmp 31) (.tmp 32) 22 3 (.int .i64 0) 8 rfl Try.underlying22 infoInt rfl (by decide) u6 [] a A a.length ca (fun _=>True) rfl rfl (fun _ _=>trivial) hR0.out (Kd.C_below HA.out HBx.out) HBx.out HBx.out.size ?ql1 ?_))
  case ql1=>have:=HL.out;simp;omega
  intro v1 w1 hr1 hb1 hg1 hat1
  go_wp2
  go_roundg 1
  case measure=>have:=Hi.out;omega
  case rel=>exact⟨1,by simp,⟨by omega,by omega⟩,⟨by have h:(Kd.int .i64).R 3 w1 w.heap.size (fun _=>True) v1 ([] ++ a):=hr1;simpa using h⟩,⟨hb1⟩,Hgl⟩
 ·have hR0 := Aside0.mk (show (Kd.int .i64).R 3 wr w.heap.size (fun _ => True) u6 a by simpa using HR1.out)
  go_wp2_with (at_builtin;go_loud (refine Kd.R_append_row (Value.int .i64) 0 (w0:=w) w.heap.size rfl (.tmp 31) (.tmp 32) 22 3 (.int .i64 0) 8 rfl Try.underlying22 infoInt rfl (by decide) u6 a b B b.length cb (fun _=>True) rfl rfl (fun _ _=>trivial) hR0.out (Kd.C_below HB.out HBx.out) HBx.out HBx.out.size ?ql2 ?_))
  case ql2=>have:=HL.out;omega
  intro v1 w1 hr1 hb1 hg1 hat1
  go_wp2
  go_roundg 0
  case measure=>have:=Hi.out;omega
  case rel=>exact⟨2,by simp,⟨by omega,by omega⟩,⟨by have h:(Kd.int .i64).R 3 w1 w.heap.size (fun _=>True) v1 (a ++ b):=hr1;simpa using h⟩,⟨hb1⟩,Hgl⟩
 go_wp2
 go_ret
 exact⟨_,rfl,by simpa using HR1.out,HBx.out⟩
end Go.Proofs.Ytjkhdldgmkkhjaa.P
end
