/- Words and walks of this claim: SRound. -/
import Derived.Test.YtejpijgfpbcibaaGreatRMFar
import Derived.Test.YtejpijgfpbcibaaGreatRSNorm
import Derived.Test.YtejpijgfpbcibaaGreatRMHasEtc
import Derived.Test.YtejpijgfpbcibaaGreatRP0Etc
set_option linter.unusedVariables false
set_option linter.unusedSimpArgs false
set_option linter.unnecessarySimpa false
namespace Go.Proofs.YtejpijgfpbcibaaGreat.P
open Go.RowKit Go.Proofs.YtejpijgfpbcibaaGreatW.PrintWords Go.Proofs.YtejpijgfpbcibaaGreatW.PrintLast Go.Proofs.YtejpijgfpbcibaaGreatW.PrintMore Go.Proofs.YtejpijgfpbcibaaGreat.M
structure Fr (S:Nat→Prop) (w w' : World):Prop where
 os:w'.os=w.os
 tape:w'.tape=w.tape
 output:w'.output=w.output
 kept:Kept w w' S
section
variable {S : Nat → Prop} {a b c : World}
theorem Fr.refl (S:Nat→Prop) (w:World):Fr S w w:=⟨rfl,rfl,rfl,Kept.refl _ _⟩
theorem Fr.of_below (h:Below a.heap.size a b):Fr S a b:=⟨h.os,h.tape,h.output,Kept.of_below h S⟩
theorem Fr.below (h:Fr S a b) (k:Below b.heap.size b c):Fr S a c:=⟨k.os.trans h.os,k.tape.trans h.tape,k.output.trans h.output,h.kept.below k⟩
theorem Fr.then_ {S2:Nat→Prop} (h:Fr S a b) (k:Fr S2 b c) (hs:∀k,S2 k→S k∨a.heap.size≤k):Fr S a c:=⟨k.os.trans h.os,k.tape.trans h.tape,k.output.trans h.output,h.kept.then_ k.kept hs⟩
theorem Fr.grown {row:Option Nat} (h:Fr S a b) (g:b.grownBy c row) (hr:∀k,row=some k→S k∨a.heap.size≤k):Fr S a c:=⟨g.os.trans h.os,g.tape.trans h.tape,g.output.trans h.output,Kept.of_grown g h.kept hr⟩
theorem Fr.set (h:Fr S a b) {p:Addr} (hp:S p.block∨a.heap.size≤p.block) (u:Value):Fr S a (b.setCell p u):=⟨h.os,h.tape,h.output,h.kept.setCell hp u⟩
theorem Fr.base {B:Nat} (h:Fr S a b) (hb:B≤a.heap.size) (hs:∀k,S k→B≤k):Below B a b:=⟨h.os,h.tape,h.output,h.kept.1,fun k hk=>h.kept.2 k (by omega) (fun hS=>by have:=hs k hS;omega)⟩
end
def layB (l:List Bool) (k:Int):Bool:=decide (0≤k) && (decide (k < (l.length:Int)) && !(rdOf false l k))
def layL (l:List Bool) (k:Int):List Bool:=if layB l k=true then l.set k.toNat true else l
def hasB (l:List Bool) (k:Int):Bool:=decide (0≤k) && (decide (k < (l.length:Int)) && rdOf false l k)
theorem layL_len (l:List Bool) (k:Int):(layL l k).length=l.length:=by unfold layL;split<;>simp
theorem has_f (l:List Bool) (k:Int):auto_has.f l k=some (hasB l k):=by
 unfold auto_has.f hasB
 by_cases h1:0≤k
 ·by_cases h2 : k < (l.length : Int)
  ·rw [if_pos (show k≥0 from h1),if_pos h2,if_pos h1,decide_eq_true h1,decide_eq_true h2];rfl
  rw [if_pos (show k≥0 from h1),if_neg h2,decide_eq_false h2];simp
 rw [if_neg (show ¬k≥0 from h1),decide_eq_false h1];rfl
theorem lay_f (l:List Bool) (k:Int):auto_lay.f l k=some (layB l k,layL l k):=by
 unfold auto_lay.f layL layB
 by_cases h1:k < 0
 ·rw [if_pos h1,decide_eq_false (show ¬0≤k by omega)];rfl
 by_cases h2 : k ≥ (l.length : Int)
 ·rw [if_neg h1,if_pos h2,decide_eq_false (show ¬k < (l.length:Int) by omega)];simp
 rw [if_neg h1, if_neg h2, if_pos (show 0 ≤ k by omega), if_pos (show k < (l.length : Int) by omega), decide_eq_true (show 0 ≤ k by omega), decide_eq_true (show k < (l.length : Int) by omega)]
 cases rdOf false l k<;>simp
theorem has_n (A:Option Addr) (c n:Nat) (l:List Bool) (k:Int) (w:World) (hn:n=l.length) (hr:Kd.C Kd.bool w A l.length l) (hc:n≤c) :
 Calls Tryz.prog 54 #[.slice A n c,.int .i64 k] w fun e w'=>e=.returned (.bool (hasB l k))∧Below w.heap.size w w':=by
 subst hn
 refine(auto_has.calls A c l k _ w hr hc (has_f l k)).mono ?_
 rintro e w1 ⟨h1,h2⟩
 exact⟨h1,h2.below⟩
def okS (gt:Nat) (vs vm:Value) (k:Nat):Prop:=k=gt∨some k=vs.ownBlock∨some k=vm.ownBlock
structure TrimR (w w0:World) (gt:Nat) (vs vm:Value) (st mk:List Bool) (gr:Bool):Prop where
 below:Below w0.heap.size w0 w
 gin:w0.heap.size≤gt
 t:w.heap[gt]? = some (.cells #[vs,vm,.bool gr] 64 (0,0))
 s:Kd.R Kd.bool 4 w w0.heap.size (fun k=>some k=vs.ownBlock) vs st
 m:Kd.R Kd.bool 4 w w0.heap.size (fun k=>some k=vm.ownBlock) vm mk
 ne:∀k,some k=vs.ownBlock→some k≠vm.ownBlock
section
variable {w w' w0 : World} {gt : Nat} {vs vm : Value} {st mk : List Bool} {gr : Bool}
theorem TrimR.lt (h:TrimR w w0 gt vs vm st mk gr):∀k,okS gt vs vm k→k < w.heap.size:=by
 rintro k (rfl|hk|hk)
 ·exact blk_lt h.t
 ·exact Kd.R_lt h.s k hk.symm
 exact Kd.R_lt h.m k hk.symm
theorem TrimR.then_ (h:TrimR w w0 gt vs vm st mk gr) (hb:Below w.heap.size w w'):TrimR w' w0 gt vs vm st mk gr:=
 ⟨below_then h.below h.below.size hb,h.gin,blk_below h.t hb,Kd.R_below h.s hb,Kd.R_below h.m hb,h.ne⟩
theorem TrimR.layS (h:TrimR w w0 gt vs vm st mk gr) (k:Int) :
 Calls Tryz.prog 55 #[vs,.int .i64 k] w fun e w'=>e=.returned (.bool (layB st k))∧TrimR w' w0 gt vs vm (layL st k) mk gr∧Fr (okS gt vs vm) w w':=by
 refine(auto_lay.calls (fun k=>some k=vs.ownBlock) vs st k _ _ w0 w h.below h.s (lay_f st k)).mono ?_
 rintro e w1 ⟨h1,h2,h3,h4⟩
 refine⟨h1,⟨h3,h.gin,blk_kept h.t h4 (fun e=>Kd.R_ne h.s h.t (by decide) e),Kd.R_tight rfl h2,Kd.R_kept h.m h4 (fun k hk e=>h.ne k e hk),h.ne⟩,⟨h3.os.trans h.below.os.symm,h3.tape.trans h.below.tape.symm,h3.output.trans h.below.output.symm,h4.mono (fun k hk=>.inr (.inl hk))⟩⟩
theorem TrimR.layM (h:TrimR w w0 gt vs vm st mk gr) (k:Int) :
 Calls Tryz.prog 55 #[vm,.int .i64 k] w fun e w'=>e=.returned (.bool (layB mk k))∧TrimR w' w0 gt vs vm st (layL mk k) gr∧Fr (okS gt vs vm) w w':=by
 refine(auto_lay.calls (fun k=>some k=vm.ownBlock) vm mk k _ _ w0 w h.below h.m (lay_f mk k)).mono ?_
 rintro e w1 ⟨h1,h2,h3,h4⟩
 refine⟨h1,⟨h3,h.gin,blk_kept h.t h4 (fun e=>Kd.R_ne h.m h.t (by decide) e),Kd.R_kept h.s h4 (fun k hk e=>h.ne k hk e),Kd.R_tight rfl h2,h.ne⟩,⟨h3.os.trans h.below.os.symm,h3.tape.trans h.below.tape.symm,h3.output.trans h.below.output.symm,h4.mono (fun k hk=>.inr (.inr hk))⟩⟩
theorem TrimR.setG (h:TrimR w w0 gt vs vm st mk gr) (b:Bool):TrimR (w.setCell ⟨gt,2,none⟩ (.bool b)) w0 gt vs vm st mk b:=
 ⟨h.below.setCell h.gin _,h.gin,blk_set h.t 2 (.bool b),Kd.R_far h.s (fun k hk e=>Kd.R_ne h.s h.t (by decide) (by rw [←hk];exact congrArg some e.symm)) _,Kd.R_far h.m (fun k hk e=>Kd.R_ne h.m h.t (by decide) (by rw [←hk];exact congrArg some e.symm)) _,h.ne⟩
theorem TrimR.frG {a:World} (h:TrimR w w0 gt vs vm st mk gr) (hf:Fr (okS gt vs vm) a w) (b:Bool):Fr (okS gt vs vm) a (w.setCell ⟨gt,2,none⟩ (.bool b)):=hf.set (.inl (.inl rfl)) _
theorem TrimR.hasS {As:Option Addr} {ns cs:Nat} (h:TrimR w w0 gt (.slice As ns cs) vm st mk gr) (k:Int) :
 Calls Tryz.prog 54 #[.slice As ns cs,.int .i64 k] w fun e w'=>e=.returned (.bool (hasB st k))∧Below w.heap.size w w':=
 has_n As cs ns st k w (Kd.R_reads' h.s).1 (Kd.R_reads' h.s).2.2 (Kd.R_reads' h.s).2.1
theorem TrimR.hasM {Am:Option Addr} {nm cm:Nat} (h:TrimR w w0 gt vs (.slice Am nm cm) st mk gr) (k:Int) :
 Calls Tryz.prog 54 #[.slice Am nm cm,.int .i64 k] w fun e w'=>e=.returned (.bool (hasB mk k))∧Below w.heap.size w w':=
 has_n Am cm nm mk k w (Kd.R_reads' h.m).1 (Kd.R_reads' h.m).2.2 (Kd.R_reads' h.m).2.1
end
structure TS where
 st:List Bool
 mr:List Bool
 gr:Bool
def stepO (s:TS) (r:TOpen):TS:=if hasB s.st r.f0=true then ⟨layL s.st r.f2,layL s.mr r.f3,layB s.mr r.f3 || (layB s.st r.f2 || s.gr)⟩ else s
def stepC (s:TS) (r:TClose):TS:=if (hasB s.st r.f0 && (decide (r.f2=0) || hasB s.mr r.f2))=true then ⟨layL s.st r.f3,s.mr,layB s.st r.f3 || s.gr⟩ else s
def stepI (s:TS) (r:TInner):TS:=if hasB s.st r.f0=true then ⟨layL s.st r.f2,s.mr,layB s.st r.f2 || s.gr⟩ else s
def roundL (s:TS) (o:List TOpen) (c:List TClose) (p:List TInner):TS:=p.foldl stepI (c.foldl stepC (o.foldl stepO s))
def TrimX (w w0:World) (gt:Nat) (vs vm:Value) (s:TS):Prop:=TrimR w w0 gt vs vm s.st s.mr s.gr
theorem foldl_next {α β:Type} (f:β→α→β) (b:β) (l:List α) (i:Nat) (h:i < l.length):(l.take (i+1)).foldl f b=f ((l.take i).foldl f b) l[i]:=by
 rw [List.take_add_one,List.getElem?_eq_getElem h,List.foldl_append]
 rfl
structure RE (w wq w0:World) (gt:Nat) (vs vm:Value) (st mk:List Bool) (gr:Bool) (ga:Nat) (oa:Obj) (vb:Nat) (ob:Obj):Prop where
 T:TrimR wq w0 gt vs vm st mk gr
 F:Fr (okS gt vs vm) w wq
 A:wq.heap[ga]? = some oa
 X:wq.heap[vb]? = some ob
 na:¬okS gt vs vm ga
 nx:¬okS gt vs vm vb
section
variable {w wq w' w0 : World} {gt ga vb : Nat} {vs vm : Value} {st mk st' mk' : List Bool} {gr : Bool} {oa ob : Obj}
theorem RE.below (h:RE w wq w0 gt vs vm st mk gr ga oa vb ob) (hb:Below wq.heap.size wq w'):RE w w' w0 gt vs vm st mk gr ga oa vb ob:=
 ⟨h.T.then_ hb,h.F.below hb,blk_below h.A hb,blk_below h.X hb,h.na,h.nx⟩
theorem RE.drew (h:RE w wq w0 gt vs vm st mk gr ga oa vb ob):RE w wq.drew w0 gt vs vm st mk gr ga oa vb ob:=h.below (below_drew (Below.refl _ _))
theorem RE.lay (h:RE w wq w0 gt vs vm st mk gr ga oa vb ob) (ht:TrimR w' w0 gt vs vm st' mk' gr) (hf:Fr (okS gt vs vm) wq w'):RE w w' w0 gt vs vm st' mk' gr ga oa vb ob:=
 ⟨ht,h.F.then_ hf (fun _ hk=>.inl hk),blk_kept h.A hf.kept h.na,blk_kept h.X hf.kept h.nx,h.na,h.nx⟩
theorem RE.setG (h:RE w wq w0 gt vs vm st mk gr ga oa vb ob) (b:Bool):RE w (wq.setCell ⟨gt,2,none⟩ (.bool b)) w0 gt vs vm st mk b ga oa vb ob:=
 ⟨h.T.setG b,h.T.frG h.F b,(Below.heap_setCell _ _ _ _ (fun e=>h.na (.inl e))).trans h.A,(Below.heap_setCell _ _ _ _ (fun e=>h.nx (.inl e))).trans h.X,h.na,h.nx⟩
end
set_option maxHeartbeats 16000000 in
set_option maxRecDepth 100000 in
theorem round_own (w0:World) (gt:Nat) (As:Option Addr) (ns cs:Nat) (Am:Option Addr) (nm cm:Nat) (s:TS) (n g:Int) (A2:Option Addr) (c2:Nat) (l2:List Int) (A3:Option Addr) (c3:Nat) (l3:List Int) (A4:Option Addr) (c4:Nat) (l4:List TOpen) (A5:Option Addr) (c5:Nat) (l5:List TClose) (A6:Option Addr) (c6:Nat) (l6:List TInner) (w:World) (hT:TrimX w w0 gt (.slice As ns cs) (.slice Am nm cm) s) (h4:Kd.C k36 w0 A4 l4.length l4) (hl4:l4.length≤1000000000) (h5:Kd.C k38 w0 A5 l5.length l5) (hl5:l5.length≤1000000000) (h6:Kd.C k40 w0 A6 l6.length l6) (hl6:l6.length≤1000000000) :
 Calls Tryz.prog 36 #[.pointer (some ⟨gt,0,none⟩),.agg #[.int .i64 n,.int .i64 g,.slice A2 l2.length c2,.slice A3 l3.length c3,.slice A4 l4.length c4,.slice A5 l5.length c5,.slice A6 l6.length c6]] w fun e w'=>e=.returned (.tuple #[])∧TrimX w' w0 gt (.slice As ns cs) (.slice Am nm cm) (roundL s l4 l5 l6)∧Fr (okS gt (.slice As ns cs) (.slice Am nm cm)) w w':=by
 have HT0:=Aside0.mk hT
 clear hT
 have HI4:=Aside0.mk (And.intro h4 hl4)
 have m4:(l4.length:Int)≤1000000000:=by omega
 have HI5:=Aside0.mk (And.intro h5 hl5)
 have m5:(l5.length:Int)≤1000000000:=by omega
 have HI6:=Aside0.mk (And.intro h6 hl6)
 have m6:(l6.length:Int)≤1000000000:=by omega
 clear h4 hl4 h5 hl5 h6 hl6
 obtain⟨sr,hsr⟩:∃sr:TS,sr=roundL s l4 l5 l6:=⟨_,rfl⟩
 rw [←hsr]
 have HSR:=Aside0.mk hsr
 clear hsr
 have H2:Aside0 ((w.alloc (.cells #[.int .i64 n,.int .i64 g,.slice A2 l2.length c2,.slice A3 l3.length c3,.slice A4 l4.length c4,.slice A5 l5.length c5,.slice A6 l6.length c6] 30)).heap[w.heap.size]? = some (.cells #[.int .i64 n,.int .i64 g,.slice A2 l2.length c2,.slice A3 l3.length c3,.slice A4 l4.length c4,.slice A5 l5.length c5,.slice A6 l6.length c6] 30 (0,0))):=⟨blk_newAt _ rfl⟩
 have HT:Aside0 (TrimX (w.alloc (.cells #[.int .i64 n,.int .i64 g,.slice A2 l2.length c2,.slice A3 l3.length c3,.slice A4 l4.length c4,.slice A5 l5.length c5,.slice A6 l6.length c6] 30)) w0 gt (.slice As ns cs) (.slice Am nm cm) s):=⟨TrimR.then_ HT0.out (below_alloc (Below.refl _ _) _)⟩
 have HNB:Aside0 (¬(okS gt (.slice As ns cs) (.slice Am nm cm)) w.heap.size):=⟨fun h=>by have:=TrimR.lt HT0.out _ h;omega⟩
 have HF:Aside0 (Fr (okS gt (.slice As ns cs) (.slice Am nm cm)) w (w.alloc (.cells #[.int .i64 n,.int .i64 g,.slice A2 l2.length c2,.slice A3 l3.length c3,.slice A4 l4.length c4,.slice A5 l5.length c5,.slice A6 l6.length c6] 30))):=⟨Fr.of_below (below_alloc (Below.refl _ _) _)⟩
 clear HT0
 go_enter Tryz.func36,Tryz.ntmps36
 go_upto_region 1 with (fail)
 generalize w.alloc (.cells #[.int .i64 n,.int .i64 g,.slice A2 l2.length c2,.slice A3 l3.length c3,.slice A4 l4.length c4,.slice A5 l5.length c5,.slice A6 l6.length c6] 30)=wb at H2 HT HF ⊢
 obtain⟨ga,hga⟩:∃ga,ga=w.heap.size:=⟨_,rfl⟩
 rw [←hga] at H2 HNB ⊢
 clear hga
 have b0:=(blk_cell H2.out 0).trans (show (#[.int .i64 n,.int .i64 g,.slice A2 l2.length c2,.slice A3 l3.length c3,.slice A4 l4.length c4,.slice A5 l5.length c5,.slice A6 l6.length c6]:Array Value)[0]? = some (.int .i64 n) from rfl)
 have b1:=(blk_cell H2.out 1).trans (show (#[.int .i64 n,.int .i64 g,.slice A2 l2.length c2,.slice A3 l3.length c3,.slice A4 l4.length c4,.slice A5 l5.length c5,.slice A6 l6.length c6]:Array Value)[1]? = some (.int .i64 g) from rfl)
 have b2:=(blk_cell H2.out 2).trans (show (#[.int .i64 n,.int .i64 g,.slice A2 l2.length c2,.slice A3 l3.length c3,.slice A4 l4.length c4,.slice A5 l5.length c5,.slice A6 l6.length c6]:Array Value)[2]? = some (.slice A2 l2.length c2) from rfl)
 have b3:=(blk_cell H2.out 3).trans (show (#[.int .i64 n,.int .i64 g,.slice A2 l2.length c2,.slice A3 l3.length c3,.slice A4 l4.length c4,.slice A5 l5.length c5,.slice A6 l6.length c6]:Array Value)[3]? = some (.slice A3 l3.length c3) from rfl)
 have b4:=(blk_cell H2.out 4).trans (show (#[.int .i64 n,.int .i64 g,.slice A2 l2.length c2,.slice A3 l3.length c3,.slice A4 l4.length c4,.slice A5 l5.length c5,.slice A6 l6.length c6]:Array Value)[4]? = some (.slice A4 l4.length c4) from rfl)
 have b5:=(blk_cell H2.out 5).trans (show (#[.int .i64 n,.int .i64 g,.slice A2 l2.length c2,.slice A3 l3.length c3,.slice A4 l4.length c4,.slice A5 l5.length c5,.slice A6 l6.length c6]:Array Value)[5]? = some (.slice A5 l5.length c5) from rfl)
 have b6:=(blk_cell H2.out 6).trans (show (#[.int .i64 n,.int .i64 g,.slice A2 l2.length c2,.slice A3 l3.length c3,.slice A4 l4.length c4,.slice A5 l5.length c5,.slice A6 l6.length c6]:Array Value)[6]? = some (.slice A6 l6.length c6) from rfl)
 go_wp2
 clear  b0 b1 b2 b3 b4 b5 b6
 go_loopg [13] l4.length (fun gk v13 w'=>∃i:Nat,v13=.int .i64 (i:Int)∧Aside0 (i≤l4.length∧l4.length - i≤gk)∧Aside0 (TrimX w' w0 gt (.slice As ns cs) (.slice Am nm cm) ((l4.take i).foldl stepO s))∧Aside0 (Fr (okS gt (.slice As ns cs) (.slice Am nm cm)) w w')∧Aside0 (w'.heap[ga]? = some (.cells #[.int .i64 n,.int .i64 g,.slice A2 l2.length c2,.slice A3 l3.length c3,.slice A4 l4.length c4,.slice A5 l5.length c5,.slice A6 l6.length c6] 30 (0,0))))
 case atStart=>exact⟨0,rfl,⟨by omega,by omega⟩,HT,HF,H2⟩
 case' round=>skip
 clear HT HF H2
 obtain⟨i,rfl,Hi,HT,HF,H2⟩:=hrel
 obtain⟨wq,rfl⟩:∃wq:World,wq=wr:=⟨_,rfl⟩
 by_cases hlt:¬i < l4.length
 ·have e4 : l4.take i = l4 := List.take_of_length_le (by omega)
  rw [e4] at HT
  have t1:=eq_false hlt
  clear hlt e4
  clear Hi
  have b0:=(blk_cell H2.out 0).trans (show (#[.int .i64 n,.int .i64 g,.slice A2 l2.length c2,.slice A3 l3.length c3,.slice A4 l4.length c4,.slice A5 l5.length c5,.slice A6 l6.length c6]:Array Value)[0]? = some (.int .i64 n) from rfl)
  have b1:=(blk_cell H2.out 1).trans (show (#[.int .i64 n,.int .i64 g,.slice A2 l2.length c2,.slice A3 l3.length c3,.slice A4 l4.length c4,.slice A5 l5.length c5,.slice A6 l6.length c6]:Array Value)[1]? = some (.int .i64 g) from rfl)
  have b2:=(blk_cell H2.out 2).trans (show (#[.int .i64 n,.int .i64 g,.slice A2 l2.length c2,.slice A3 l3.length c3,.slice A4 l4.length c4,.slice A5 l5.length c5,.slice A6 l6.length c6]:Array Value)[2]? = some (.slice A2 l2.length c2) from rfl)
  have b3:=(blk_cell H2.out 3).trans (show (#[.int .i64 n,.int .i64 g,.slice A2 l2.length c2,.slice A3 l3.length c3,.slice A4 l4.length c4,.slice A5 l5.length c5,.slice A6 l6.length c6]:Array Value)[3]? = some (.slice A3 l3.length c3) from rfl)
  have b4:=(blk_cell H2.out 4).trans (show (#[.int .i64 n,.int .i64 g,.slice A2 l2.length c2,.slice A3 l3.length c3,.slice A4 l4.length c4,.slice A5 l5.length c5,.slice A6 l6.length c6]:Array Value)[4]? = some (.slice A4 l4.length c4) from rfl)
  have b5:=(blk_cell H2.out 5).trans (show (#[.int .i64 n,.int .i64 g,.slice A2 l2.length c2,.slice A3 l3.length c3,.slice A4 l4.length c4,.slice A5 l5.length c5,.slice A6 l6.length c6]:Array Value)[5]? = some (.slice A5 l5.length c5) from rfl)
  have b6:=(blk_cell H2.out 6).trans (show (#[.int .i64 n,.int .i64 g,.slice A2 l2.length c2,.slice A3 l3.length c3,.slice A4 l4.length c4,.slice A5 l5.length c5,.slice A6 l6.length c6]:Array Value)[6]? = some (.slice A6 l6.length c6) from rfl)
  go_wp2
  clear t1 b0 b1 b2 b3 b4 b5 b6
  go_loopg [60] l5.length (fun gk v60 w'=>∃i:Nat,v60=.int .i64 (i:Int)∧Aside0 (i≤l5.length∧l5.length - i≤gk)∧Aside0 (TrimX w' w0 gt (.slice As ns cs) (.slice Am nm cm) ((l5.take i).foldl stepC (l4.foldl stepO s)))∧Aside0 (Fr (okS gt (.slice As ns cs) (.slice Am nm cm)) w w')∧Aside0 (w'.heap[ga]? = some (.cells #[.int .i64 n,.int .i64 g,.slice A2 l2.length c2,.slice A3 l3.length c3,.slice A4 l4.length c4,.slice A5 l5.length c5,.slice A6 l6.length c6] 30 (0,0))))
  case atStart=>exact⟨0,rfl,⟨by omega,by omega⟩,HT,HF,H2⟩
  case' round=>skip
  clear HT HF H2
  obtain⟨i,rfl,Hi,HT,HF,H2⟩:=hrel
  obtain⟨wq,rfl⟩:∃wq:World,wq=wr:=⟨_,rfl⟩
  by_cases hlt:¬i < l5.length
  ·have e4 : l5.take i = l5 := List.take_of_length_le (by omega)
   rw [e4] at HT
   have t1:=eq_false hlt
   clear hlt e4
   clear Hi
   have b0:=(blk_cell H2.out 0).trans (show (#[.int .i64 n,.int .i64 g,.slice A2 l2.length c2,.slice A3 l3.length c3,.slice A4 l4.length c4,.slice A5 l5.length c5,.slice A6 l6.length c6]:Array Value)[0]? = some (.int .i64 n) from rfl)
   have b1:=(blk_cell H2.out 1).trans (show (#[.int .i64 n,.int .i64 g,.slice A2 l2.length c2,.slice A3 l3.length c3,.slice A4 l4.length c4,.slice A5 l5.length c5,.slice A6 l6.length c6]:Array Value)[1]? = some (.int .i64 g) from rfl)
   have b2:=(blk_cell H2.out 2).trans (show (#[.int .i64 n,.int .i64 g,.slice A2 l2.length c2,.slice A3 l3.length c3,.slice A4 l4.length c4,.slice A5 l5.length c5,.slice A6 l6.length c6]:Array Value)[2]? = some (.slice A2 l2.length c2) from rfl)
   have b3:=(blk_cell H2.out 3).trans (show (#[.int .i64 n,.int .i64 g,.slice A2 l2.length c2,.slice A3 l3.length c3,.slice A4 l4.length c4,.slice A5 l5.length c5,.slice A6 l6.length c6]:Array Value)[3]? = some (.slice A3 l3.length c3) from rfl)
   have b4:=(blk_cell H2.out 4).trans (show (#[.int .i64 n,.int .i64 g,.slice A2 l2.length c2,.slice A3 l3.length c3,.slice A4 l4.length c4,.slice A5 l5.length c5,.slice A6 l6.length c6]:Array Value)[4]? = some (.slice A4 l4.length c4) from rfl)
   have b5:=(blk_cell H2.out 5).trans (show (#[.int .i64 n,.int .i64 g,.slice A2 l2.length c2,.slice A3 l3.length c3,.slice A4 l4.length c4,.slice A5 l5.length c5,.slice A6 l6.length c6]:Array Value)[5]? = some (.slice A5 l5.length c5) from rfl)
   have b6:=(blk_cell H2.out 6).trans (show (#[.int .i64 n,.int .i64 g,.slice A2 l2.length c2,.slice A3 l3.length c3,.slice A4 l4.length c4,.slice A5 l5.length c5,.slice A6 l6.length c6]:Array Value)[6]? = some (.slice A6 l6.length c6) from rfl)
   go_wp2
   clear t1 b0 b1 b2 b3 b4 b5 b6
   go_loopg [105] l6.length (fun gk v105 w'=>∃i:Nat,v105=.int .i64 (i:Int)∧Aside0 (i≤l6.length∧l6.length - i≤gk)∧Aside0 (TrimX w' w0 gt (.slice As ns cs) (.slice Am nm cm) ((l6.take i).foldl stepI (l5.foldl stepC (l4.foldl stepO s))))∧Aside0 (Fr (okS gt (.slice As ns cs) (.slice Am nm cm)) w w')∧Aside0 (w'.heap[ga]? = some (.cells #[.int .i64 n,.int .i64 g,.slice A2 l2.length c2,.slice A3 l3.length c3,.slice A4 l4.length c4,.slice A5 l5.length c5,.slice A6 l6.length c6] 30 (0,0))))
   case atStart=>exact⟨0,rfl,⟨by omega,by omega⟩,HT,HF,H2⟩
   case' round=>skip
   clear HT HF H2
   obtain⟨i,rfl,Hi,HT,HF,H2⟩:=hrel
   obtain⟨wq,rfl⟩:∃wq:World,wq=wr:=⟨_,rfl⟩
   by_cases hlt:¬i < l6.length
   ·have e4 : l6.take i = l6 := List.take_of_length_le (by omega)
    rw [e4] at HT
    have t1:=eq_false hlt
    clear hlt e4
    go_wp2
    refine bodyPost_end (results_none rfl _ _ _) rfl ?_
    rw [HSR.out]
    exact⟨rfl,HT.out,HF.out⟩
   have hlt := Classical.not_not.1 hlt
   have HLT:=Aside0.mk hlt
   obtain⟨ad,eA,k0,k1,k2⟩:=at_T40 (Kd.C_below HI6.out.1 HT.out.below) (i:Int) (by omega) (by omega)
   have hrd:rd_T40 l6 (i:Int)=l6[i]:=by unfold rd_T40;rw [Int.toNat_natCast,List.getD_eq_getElem?_getD,List.getElem?_eq_getElem hlt];rfl
   rw [hrd,Int.toNat_natCast] at k0 k1 k2
   have HN:=Aside0.mk (foldl_next stepI (l5.foldl stepC (l4.foldl stepO s)) l6 i hlt)
   generalize l6[i]=x at HN k0 k1 k2
   obtain⟨x0,x1,x2⟩:=x
   clear hrd
   generalize (l6.take i).foldl stepI (l5.foldl stepC (l4.foldl stepO s))=sq at HN HT
   obtain⟨st,mk,gq⟩:=sq
   have HT1:Aside0 (TrimR wq w0 gt (.slice As ns cs) (.slice Am nm cm) st mk gq):=HT
   clear HT
   have t1:=eq_true hlt
   have t2:=eq_true (show (0:Int)≤(i:Int) by omega)
   have t3:=eq_true (show (i:Int) < (l6.length:Int) by omega)
   subst eA
   clear hlt
   have HE:Aside0 (RE w (wq.alloc (.cells #[.int .i64 x0,.int .i64 x1,.int .i64 x2] 40)) w0 gt (.slice As ns cs) (.slice Am nm cm) st mk gq ga (.cells #[.int .i64 n,.int .i64 g,.slice A2 l2.length c2,.slice A3 l3.length c3,.slice A4 l4.length c4,.slice A5 l5.length c5,.slice (some ad) l6.length c6] 30 (0,0)) wq.heap.size (.cells #[.int .i64 x0,.int .i64 x1,.int .i64 x2] 40 (0,0))):=⟨⟨TrimR.then_ HT1.out (below_alloc (Below.refl _ wq) _),HF.out.below (below_alloc (Below.refl _ wq) _),blk_old H2.out _,blk_newAt _ rfl,HNB.out,fun h=>by have:=TrimR.lt HT1.out _ h;omega⟩⟩
   clear HT1 HF H2
   go_upto_region 17 with (fail)
   obtain⟨wv,hwv⟩:∃wv:World,wv=wq.alloc (.cells #[.int .i64 x0,.int .i64 x1,.int .i64 x2] 40):=⟨_,rfl⟩
   rw [←hwv] at HE ⊢
   generalize wq.heap.size=vb at HE ⊢
   clear hwv t1 t2 t3 k0 k1 k2
   try clear wq
   obtain⟨wq,rfl⟩:∃wq:World,wq=wv:=⟨_,rfl⟩
   refine start_ (n:=7) (S:=fun w'=>w'.cell? ⟨gt,0,none⟩=some (.slice As ns cs)∧w'.cell? ⟨gt,1,none⟩=some (.slice Am nm cm)∧w'.cell? ⟨gt,2,none⟩=some (.bool gq)∧w'.cell? ⟨vb,0,none⟩=some (.int .i64 x0)∧w'.cell? ⟨vb,1,none⟩=some (.int .i64 x1)∧w'.cell? ⟨vb,2,none⟩=some (.int .i64 x2)) (ds:=[]) (pm 0 7) (by kernel_rfl) rfl rfl ⟨(blk_cell (HE.out.drew).T.t 0).trans rfl,(blk_cell (HE.out.drew).T.t 1).trans rfl,(blk_cell (HE.out.drew).T.t 2).trans rfl,(blk_cell (HE.out.drew).X 0).trans rfl,(blk_cell (HE.out.drew).X 1).trans rfl,(blk_cell (HE.out.drew).X 2).trans rfl⟩ (fun hHeld=>?_)
   have HEn:=Aside0.mk HE.out.drew
   clear HE
   have HE:=HEn
   clear HEn
   obtain⟨wd,hwd⟩:∃wd:World,wd=wq.drew:=⟨_,rfl⟩
   rw [←hwd] at HE hHeld ⊢
   clear hwd
   try clear wq
   obtain⟨wq,rfl⟩:∃wq:World,wq=wd:=⟨_,rfl⟩
   iterate 6 (first|(refine pn_ (v:=?_) (a':=?_) rfl (rfl (a:=some _)) (by kernel_rfl) (fun _ _ _ h=>h) (Or.inl ⟨by rfl,?_⟩) ?_ ?_;rotate_left;(intro w';go_simp;with_reducible rfl);rotate_left;(simp only [Act.put,M.sq3,i64_w,i32_w];rfl))|(refine tn_ (v:=?_) (a':=?_) rfl (rfl (a:=some _)) (by kernel_rfl) (fun _ _ _ h=>h) (Or.inl ⟨by rfl,?_⟩) hHeld ?_ ?_;rotate_left;(intro w' hS_;obtain⟨s0,s1,s2,s3,s4,s5⟩:=hS_;go_simp;with_reducible rfl);rotate_left;(simp only [Act.put,M.sq3,i64_w,i32_w];rfl)))
   refine one_ (i:=6) (N:=(some 115)) (pm 7 0) rfl rfl (by kernel_rfl) (by decide) (fun K hK=>?_)
   refine goes_ Tryz.func54 (by kernel_rfl) rfl #[(.slice As ns cs),.int .i64 x0] rfl rfl rfl (by(try simp only [List.map_toArray,List.map_cons,List.map_nil]);rfl) ?_
   refine(TrimR.hasS HE.out.T x0).mono ?_
   rintro e we ⟨rfl,hb⟩
   have HEn:=Aside0.mk (HE.out.below hb)
   clear hb
   clear HE
   have HE:=HEn
   clear HEn
   refine⟨_,rfl,?_⟩
   clear hHeld
   refine hK.out _ _ ⟨(blk_cell HE.out.T.t 0).trans rfl,(blk_cell HE.out.T.t 1).trans rfl,(blk_cell HE.out.T.t 2).trans rfl,(blk_cell HE.out.X 0).trans rfl,(blk_cell HE.out.X 1).trans rfl,(blk_cell HE.out.X 2).trans rfl⟩ (fun hHeld=>?_)
   clear hK K
   obtain⟨wq,rfl⟩:∃wq:World,wq=we:=⟨_,rfl⟩
   obtain⟨hb0,hhb⟩:∃hb:Bool,hb=hasB st x0:=⟨_,rfl⟩
   rw [←hhb]
   have HHB0:=Aside0.mk hhb
   clear hhb
   refine norm_ (a':=?_) ?_ ?_
   rotate_left
   ·show Act.put _ (some 115) _ = _
    simp only [Act.put,M.sq3,i64_w,i32_w]
    rfl
   refine done_ (by kernel_rfl) ?_
   cases hb0 with
   | false=>
    go_wp2
    go_roundg (l6.length - (i+1))
    case measure=>have:=Hi.out;have:=HLT.out;omega
    case rel=>exact⟨i+1,by first|rfl|rw [show wrap64 ((i:Int)+1)=((i+1:Nat):Int) by have:=HLT.out;have:=HI6.out.2;unfold wrap64;omega],⟨HLT.out,Nat.le_refl _⟩,⟨by rw [HN.out,show stepI ⟨st,mk,gq⟩ ⟨x0,x1,x2⟩=⟨st,mk,gq⟩ from if_neg (by rw [←HHB0.out];decide)];exact HE.out.T⟩,⟨HE.out.F⟩,⟨HE.out.A⟩⟩
   | true=>
    go_upto_region 18 with (fail)
    refine start_ (n:=17) (S:=fun w'=>w'.cell? ⟨gt,0,none⟩=some (.slice As ns cs)∧w'.cell? ⟨gt,1,none⟩=some (.slice Am nm cm)∧w'.cell? ⟨gt,2,none⟩=some (.bool gq)∧w'.cell? ⟨vb,0,none⟩=some (.int .i64 x0)∧w'.cell? ⟨vb,1,none⟩=some (.int .i64 x1)∧w'.cell? ⟨vb,2,none⟩=some (.int .i64 x2)) (ds:=[16]) (pm 0 17) (by kernel_rfl) rfl rfl ⟨(blk_cell (HE.out.drew).T.t 0).trans rfl,(blk_cell (HE.out.drew).T.t 1).trans rfl,(blk_cell (HE.out.drew).T.t 2).trans rfl,(blk_cell (HE.out.drew).X 0).trans rfl,(blk_cell (HE.out.drew).X 1).trans rfl,(blk_cell (HE.out.drew).X 2).trans rfl⟩ (fun hHeld=>?_)
    have HEn:=Aside0.mk HE.out.drew
    clear HE
    have HE:=HEn
    clear HEn
    obtain⟨wd,hwd⟩:∃wd:World,wd=wq.drew:=⟨_,rfl⟩
    rw [←hwd] at HE hHeld ⊢
    clear hwd
    try clear wq
    obtain⟨wq,rfl⟩:∃wq:World,wq=wd:=⟨_,rfl⟩
    iterate 7 (first|(refine pn_ (v:=?_) (a':=?_) rfl (rfl (a:=some _)) (by kernel_rfl) (fun _ _ _ h=>h) (Or.inl ⟨by rfl,?_⟩) ?_ ?_;rotate_left;(intro w';go_simp;with_reducible rfl);rotate_left;(simp only [Act.put,M.sq3,i64_w,i32_w];rfl))|(refine tn_ (v:=?_) (a':=?_) rfl (rfl (a:=some _)) (by kernel_rfl) (fun _ _ _ h=>h) (Or.inl ⟨by rfl,?_⟩) hHeld ?_ ?_;rotate_left;(intro w' hS_;obtain⟨s0,s1,s2,s3,s4,s5⟩:=hS_;go_simp;with_reducible rfl);rotate_left;(simp only [Act.put,M.sq3,i64_w,i32_w];rfl)))
    refine one_ (i:=7) (N:=(some 123)) (pm 8 9) rfl rfl (by kernel_rfl) (by decide) (fun K hK=>?_)
    refine goes_ Tryz.func55 (by kernel_rfl) rfl #[(.slice As ns cs),.int .i64 x2] rfl rfl rfl (by(try simp only [List.map_toArray,List.map_cons,List.map_nil]);rfl) ?_
    refine(TrimR.layS HE.out.T x2).mono ?_
    rintro e we ⟨rfl,ht,hf⟩
    have HEn:=Aside0.mk (HE.out.lay ht hf)
    clear hf ht
    clear HE
    have HE:=HEn
    clear HEn
    refine⟨_,rfl,?_⟩
    clear hHeld
    refine hK.out _ _ ⟨(blk_cell HE.out.T.t 0).trans rfl,(blk_cell HE.out.T.t 1).trans rfl,(blk_cell HE.out.T.t 2).trans rfl,(blk_cell HE.out.X 0).trans rfl,(blk_cell HE.out.X 1).trans rfl,(blk_cell HE.out.X 2).trans rfl⟩ (fun hHeld=>?_)
    clear hK K
    obtain⟨wq,rfl⟩:∃wq:World,wq=we:=⟨_,rfl⟩
    obtain⟨lb,hlb⟩:∃lb:Bool,lb=layB st x2:=⟨_,rfl⟩
    rw [←hlb]
    have HLB1:=Aside0.mk hlb
    clear hlb
    refine norm_ (a':=?_) ?_ ?_
    rotate_left
    ·show Act.put _ (some 123) _ = _
     simp only [Act.put,M.sq3,i64_w,i32_w]
     rfl
    cases lb with
    | true=>
     refine pn_ (v:=?_) (a':=?_) rfl (rfl (a:=some _)) (by kernel_rfl) (fun _ _ _ h=>h) (Or.inl ⟨by rfl,?_⟩) ?_ ?_;rotate_left;(intro w';go_simp;with_reducible rfl);rotate_left;(simp only [Act.put,M.sq3,i64_w,i32_w];rfl)
     iterate 4 (refine pn_ (v:=undef) (a':=?_) rfl (rfl (a:=some _)) (by kernel_rfl) (fun _ _ _ h=>h) (Or.inr ⟨by rfl,rfl⟩) ?_ ?_;rotate_left;(simp only [Act.put,M.sq3,i64_w,i32_w];rfl))
     iterate 3 (refine pn_ (v:=?_) (a':=?_) rfl (rfl (a:=some _)) (by kernel_rfl) (fun _ _ _ h=>h) (Or.inl ⟨by rfl,?_⟩) ?_ ?_;rotate_left;(intro w';go_simp;with_reducible rfl);rotate_left;(simp only [Act.put,M.sq3,i64_w,i32_w];rfl))
     refine last_ (i:=16) (N:=none) (pm 17 0) rfl rfl (by kernel_rfl) (by decide) (fun K hK=>?_)
     have hc2:=(blk_cell HE.out.T.t 2).trans (show (#[(.slice As ns cs),(.slice Am nm cm),.bool gq]:Array Value)[2]? = some (.bool gq) from rfl)
     have hf2:=blk_frozen HE.out.T.t 2
     refine Go.Proofs.YtejpijgfpbcibaaGreat.M.step_skip (w1:=wq.setCell ⟨gt,2,none⟩ (.bool true)) rfl rfl (by go_simp) ?_
     clear hc2 hf2
     have HEn:=Aside0.mk (HE.out.setG true)
     clear HE
     have HE:=HEn
     clear HEn
     refine hK.out _ _ ?_
     clear hK K
     obtain⟨wd,hwd⟩:∃wd:World,wd=wq.setCell ⟨gt,2,none⟩ (.bool true):=⟨_,rfl⟩
     rw [←hwd] at HE ⊢
     clear hwd hHeld
     try clear wq
     obtain⟨wq,rfl⟩:∃wq:World,wq=wd:=⟨_,rfl⟩
     refine done_ (by kernel_rfl) ?_
     have HEQ:Aside0 (stepI ⟨st,mk,gq⟩ ⟨x0,x1,x2⟩=⟨layL st x2,mk,true⟩):=⟨(if_pos HHB0.out.symm).trans (by rw [←HLB1.out];rfl)⟩
     go_wp2
     go_roundg (l6.length - (i+1))
     case measure=>have:=Hi.out;have:=HLT.out;omega
     case rel=>exact⟨i+1,by first|rfl|rw [show wrap64 ((i:Int)+1)=((i+1:Nat):Int) by have:=HLT.out;have:=HI6.out.2;unfold wrap64;omega],⟨HLT.out,Nat.le_refl _⟩,⟨by rw [HN.out,HEQ.out];exact HE.out.T⟩,⟨HE.out.F⟩,⟨HE.out.A⟩⟩
    | false=>
     iterate 8 (first|(refine pn_ (v:=?_) (a':=?_) rfl (rfl (a:=some _)) (by kernel_rfl) (fun _ _ _ h=>h) (Or.inl ⟨by rfl,?_⟩) ?_ ?_;rotate_left;(intro w';go_simp;with_reducible rfl);rotate_left;(simp only [Act.put,M.sq3,i64_w,i32_w];rfl))|(refine tn_ (v:=?_) (a':=?_) rfl (rfl (a:=some _)) (by kernel_rfl) (fun _ _ _ h=>h) (Or.inl ⟨by rfl,?_⟩) hHeld ?_ ?_;rotate_left;(intro w' hS_;obtain⟨s0,s1,s2,s3,s4,s5⟩:=hS_;go_simp;with_reducible rfl);rotate_left;(simp only [Act.put,M.sq3,i64_w,i32_w];rfl)))
     refine last_ (i:=16) (N:=none) (pm 17 0) rfl rfl (by kernel_rfl) (by decide) (fun K hK=>?_)
     have hc2:=(blk_cell HE.out.T.t 2).trans (show (#[(.slice As ns cs),(.slice Am nm cm),.bool gq]:Array Value)[2]? = some (.bool gq) from rfl)
     have hf2:=blk_frozen HE.out.T.t 2
     refine Go.Proofs.YtejpijgfpbcibaaGreat.M.step_skip (w1:=wq.setCell ⟨gt,2,none⟩ (.bool gq)) rfl rfl (by go_simp) ?_
     clear hc2 hf2
     have HEn:=Aside0.mk (HE.out.setG gq)
     clear HE
     have HE:=HEn
     clear HEn
     refine hK.out _ _ ?_
     clear hK K
     obtain⟨wd,hwd⟩:∃wd:World,wd=wq.setCell ⟨gt,2,none⟩ (.bool gq):=⟨_,rfl⟩
     rw [←hwd] at HE ⊢
     clear hwd hHeld
     try clear wq
     obtain⟨wq,rfl⟩:∃wq:World,wq=wd:=⟨_,rfl⟩
     refine done_ (by kernel_rfl) ?_
     have HEQ:Aside0 (stepI ⟨st,mk,gq⟩ ⟨x0,x1,x2⟩=⟨layL st x2,mk,gq⟩):=⟨(if_pos HHB0.out.symm).trans (by rw [←HLB1.out];rfl)⟩
     go_wp2
     go_roundg (l6.length - (i+1))
     case measure=>have:=Hi.out;have:=HLT.out;omega
     case rel=>exact⟨i+1,by first|rfl|rw [show wrap64 ((i:Int)+1)=((i+1:Nat):Int) by have:=HLT.out;have:=HI6.out.2;unfold wrap64;omega],⟨HLT.out,Nat.le_refl _⟩,⟨by rw [HN.out,HEQ.out];exact HE.out.T⟩,⟨HE.out.F⟩,⟨HE.out.A⟩⟩
  have hlt := Classical.not_not.1 hlt
  have HLT:=Aside0.mk hlt
  obtain⟨ad,eA,k0,k1,k2,k3⟩:=at_T38 (Kd.C_below HI5.out.1 HT.out.below) (i:Int) (by omega) (by omega)
  have hrd:rd_T38 l5 (i:Int)=l5[i]:=by unfold rd_T38;rw [Int.toNat_natCast,List.getD_eq_getElem?_getD,List.getElem?_eq_getElem hlt];rfl
  rw [hrd,Int.toNat_natCast] at k0 k1 k2 k3
  have HN:=Aside0.mk (foldl_next stepC (l4.foldl stepO s) l5 i hlt)
  generalize l5[i]=x at HN k0 k1 k2 k3
  obtain⟨x0,x1,x2,x3⟩:=x
  clear hrd
  generalize (l5.take i).foldl stepC (l4.foldl stepO s)=sq at HN HT
  obtain⟨st,mk,gq⟩:=sq
  have HT1:Aside0 (TrimR wq w0 gt (.slice As ns cs) (.slice Am nm cm) st mk gq):=HT
  clear HT
  have t1:=eq_true hlt
  have t2:=eq_true (show (0:Int)≤(i:Int) by omega)
  have t3:=eq_true (show (i:Int) < (l5.length:Int) by omega)
  subst eA
  clear hlt
  have HE:Aside0 (RE w (wq.alloc (.cells #[.int .i64 x0,.int .i64 x1,.int .i64 x2,.int .i64 x3] 38)) w0 gt (.slice As ns cs) (.slice Am nm cm) st mk gq ga (.cells #[.int .i64 n,.int .i64 g,.slice A2 l2.length c2,.slice A3 l3.length c3,.slice A4 l4.length c4,.slice (some ad) l5.length c5,.slice A6 l6.length c6] 30 (0,0)) wq.heap.size (.cells #[.int .i64 x0,.int .i64 x1,.int .i64 x2,.int .i64 x3] 38 (0,0))):=⟨⟨TrimR.then_ HT1.out (below_alloc (Below.refl _ wq) _),HF.out.below (below_alloc (Below.refl _ wq) _),blk_old H2.out _,blk_newAt _ rfl,HNB.out,fun h=>by have:=TrimR.lt HT1.out _ h;omega⟩⟩
  clear HT1 HF H2
  go_upto_region 11 with (fail)
  obtain⟨wv,hwv⟩:∃wv:World,wv=wq.alloc (.cells #[.int .i64 x0,.int .i64 x1,.int .i64 x2,.int .i64 x3] 38):=⟨_,rfl⟩
  rw [←hwv] at HE ⊢
  generalize wq.heap.size=vb at HE ⊢
  clear hwv t1 t2 t3 k0 k1 k2 k3
  try clear wq
  obtain⟨wq,rfl⟩:∃wq:World,wq=wv:=⟨_,rfl⟩
  refine start_ (n:=21) (S:=fun w'=>w'.cell? ⟨gt,0,none⟩=some (.slice As ns cs)∧w'.cell? ⟨gt,1,none⟩=some (.slice Am nm cm)∧w'.cell? ⟨gt,2,none⟩=some (.bool gq)∧w'.cell? ⟨vb,0,none⟩=some (.int .i64 x0)∧w'.cell? ⟨vb,1,none⟩=some (.int .i64 x1)∧w'.cell? ⟨vb,2,none⟩=some (.int .i64 x2)∧w'.cell? ⟨vb,3,none⟩=some (.int .i64 x3)) (ds:=[]) (pm 0 21) (by kernel_rfl) rfl rfl ⟨(blk_cell (HE.out.drew).T.t 0).trans rfl,(blk_cell (HE.out.drew).T.t 1).trans rfl,(blk_cell (HE.out.drew).T.t 2).trans rfl,(blk_cell (HE.out.drew).X 0).trans rfl,(blk_cell (HE.out.drew).X 1).trans rfl,(blk_cell (HE.out.drew).X 2).trans rfl,(blk_cell (HE.out.drew).X 3).trans rfl⟩ (fun hHeld=>?_)
  have HEn:=Aside0.mk HE.out.drew
  clear HE
  have HE:=HEn
  clear HEn
  obtain⟨wd,hwd⟩:∃wd:World,wd=wq.drew:=⟨_,rfl⟩
  rw [←hwd] at HE hHeld ⊢
  clear hwd
  try clear wq
  obtain⟨wq,rfl⟩:∃wq:World,wq=wd:=⟨_,rfl⟩
  iterate 6 (first|(refine pn_ (v:=?_) (a':=?_) rfl (rfl (a:=some _)) (by kernel_rfl) (fun _ _ _ h=>h) (Or.inl ⟨by rfl,?_⟩) ?_ ?_;rotate_left;(intro w';go_simp;with_reducible rfl);rotate_left;(simp only [Act.put,M.sq3,i64_w,i32_w];rfl))|(refine tn_ (v:=?_) (a':=?_) rfl (rfl (a:=some _)) (by kernel_rfl) (fun _ _ _ h=>h) (Or.inl ⟨by rfl,?_⟩) hHeld ?_ ?_;rotate_left;(intro w' hS_;obtain⟨s0,s1,s2,s3,s4,s5,s6⟩:=hS_;go_simp;with_reducible rfl);rotate_left;(simp only [Act.put,M.sq3,i64_w,i32_w];rfl)))
  refine one_ (i:=6) (N:=(some 70)) (pm 7 14) rfl rfl (by kernel_rfl) (by decide) (fun K hK=>?_)
  refine goes_ Tryz.func54 (by kernel_rfl) rfl #[(.slice As ns cs),.int .i64 x0] rfl rfl rfl (by(try simp only [List.map_toArray,List.map_cons,List.map_nil]);rfl) ?_
  refine(TrimR.hasS HE.out.T x0).mono ?_
  rintro e we ⟨rfl,hb⟩
  have HEn:=Aside0.mk (HE.out.below hb)
  clear hb
  clear HE
  have HE:=HEn
  clear HEn
  refine⟨_,rfl,?_⟩
  clear hHeld
  refine hK.out _ _ ⟨(blk_cell HE.out.T.t 0).trans rfl,(blk_cell HE.out.T.t 1).trans rfl,(blk_cell HE.out.T.t 2).trans rfl,(blk_cell HE.out.X 0).trans rfl,(blk_cell HE.out.X 1).trans rfl,(blk_cell HE.out.X 2).trans rfl,(blk_cell HE.out.X 3).trans rfl⟩ (fun hHeld=>?_)
  clear hK K
  obtain⟨wq,rfl⟩:∃wq:World,wq=we:=⟨_,rfl⟩
  obtain⟨hb0,hhb⟩:∃hb:Bool,hb=hasB st x0:=⟨_,rfl⟩
  rw [←hhb]
  have HHB0:=Aside0.mk hhb
  clear hhb
  refine norm_ (a':=?_) ?_ ?_
  rotate_left
  ·show Act.put _ (some 70) _ = _
   simp only [Act.put,M.sq3,i64_w,i32_w]
   rfl
  cases hb0 with
  | false=>
   refine pn_ (v:=?_) (a':=?_) rfl (rfl (a:=some _)) (by kernel_rfl) (fun _ _ _ h=>h) (Or.inl ⟨by rfl,?_⟩) ?_ ?_;rotate_left;(intro w';go_simp;with_reducible rfl);rotate_left;(simp only [Act.put,M.sq3,i64_w,i32_w];rfl)
   iterate 12 (refine pn_ (v:=undef) (a':=?_) rfl (rfl (a:=some _)) (by kernel_rfl) (fun _ _ _ h=>h) (Or.inr ⟨by rfl,rfl⟩) ?_ ?_;rotate_left;(simp only [Act.put,M.sq3,i64_w,i32_w];rfl))
   refine pn_ (v:=?_) (a':=?_) rfl (rfl (a:=some _)) (by kernel_rfl) (fun _ _ _ h=>h) (Or.inl ⟨by rfl,?_⟩) ?_ ?_;rotate_left;(intro w';go_simp;with_reducible rfl);rotate_left;(simp only [Act.put,M.sq3,i64_w,i32_w];rfl)
   refine done_ (by kernel_rfl) ?_
   have HC:Aside0 (¬(hasB st x0 && (decide (x2=0) || hasB mk x2))=true):=⟨by rw [←HHB0.out];simp⟩
   go_wp2
   go_roundg (l5.length - (i+1))
   case measure=>have:=Hi.out;have:=HLT.out;omega
   case rel=>exact⟨i+1,by first|rfl|rw [show wrap64 ((i:Int)+1)=((i+1:Nat):Int) by have:=HLT.out;have:=HI5.out.2;unfold wrap64;omega],⟨HLT.out,Nat.le_refl _⟩,⟨by rw [HN.out,show stepC ⟨st,mk,gq⟩ ⟨x0,x1,x2,x3⟩=⟨st,mk,gq⟩ from if_neg HC.out];exact HE.out.T⟩,⟨HE.out.F⟩,⟨HE.out.A⟩⟩
  | true=>
   by_cases hx:x2=0
   ·have HC : Aside0 ((hasB st x0 && (decide (x2 = 0) || hasB mk x2)) = true) := ⟨by rw [← HHB0.out, decide_eq_true hx]; rfl⟩
    have z1:=eq_true hx
    have z2:(x2 == 0)=true:=beq_iff_eq.2 hx
    clear hx
    iterate 5 (first|(refine pn_ (v:=?_) (a':=?_) rfl (rfl (a:=some _)) (by kernel_rfl) (fun _ _ _ h=>h) (Or.inl ⟨by rfl,?_⟩) ?_ ?_;rotate_left;(intro w';go_simp;with_reducible rfl);rotate_left;(simp only [Act.put,M.sq3,i64_w,i32_w];rfl))|(refine tn_ (v:=?_) (a':=?_) rfl (rfl (a:=some _)) (by kernel_rfl) (fun _ _ _ h=>h) (Or.inl ⟨by rfl,?_⟩) hHeld ?_ ?_;rotate_left;(intro w' hS_;obtain⟨s0,s1,s2,s3,s4,s5,s6⟩:=hS_;go_simp;with_reducible rfl);rotate_left;(simp only [Act.put,M.sq3,i64_w,i32_w];rfl)))
    iterate 7 (refine pn_ (v:=undef) (a':=?_) rfl (rfl (a:=some _)) (by kernel_rfl) (fun _ _ _ h=>h) (Or.inr ⟨by rfl,rfl⟩) ?_ ?_;rotate_left;(simp only [Act.put,M.sq3,i64_w,i32_w];rfl))
    iterate 2 (refine pn_ (v:=?_) (a':=?_) rfl (rfl (a:=some _)) (by kernel_rfl) (fun _ _ _ h=>h) (Or.inl ⟨by rfl,?_⟩) ?_ ?_;rotate_left;(intro w';go_simp;with_reducible rfl);rotate_left;(simp only [Act.put,M.sq3,i64_w,i32_w];rfl))
    refine done_ (by kernel_rfl) ?_
    clear z1 z2
    go_upto_region 12 with (fail)
    refine start_ (n:=17) (S:=fun w'=>w'.cell? ⟨gt,0,none⟩=some (.slice As ns cs)∧w'.cell? ⟨gt,1,none⟩=some (.slice Am nm cm)∧w'.cell? ⟨gt,2,none⟩=some (.bool gq)∧w'.cell? ⟨vb,0,none⟩=some (.int .i64 x0)∧w'.cell? ⟨vb,1,none⟩=some (.int .i64 x1)∧w'.cell? ⟨vb,2,none⟩=some (.int .i64 x2)∧w'.cell? ⟨vb,3,none⟩=some (.int .i64 x3)) (ds:=[16]) (pm 0 17) (by kernel_rfl) rfl rfl ⟨(blk_cell (HE.out.drew).T.t 0).trans rfl,(blk_cell (HE.out.drew).T.t 1).trans rfl,(blk_cell (HE.out.drew).T.t 2).trans rfl,(blk_cell (HE.out.drew).X 0).trans rfl,(blk_cell (HE.out.drew).X 1).trans rfl,(blk_cell (HE.out.drew).X 2).trans rfl,(blk_cell (HE.out.drew).X 3).trans rfl⟩ (fun hHeld=>?_)
    have HEn:=Aside0.mk HE.out.drew
    clear HE
    have HE:=HEn
    clear HEn
    obtain⟨wd,hwd⟩:∃wd:World,wd=wq.drew:=⟨_,rfl⟩
    rw [←hwd] at HE hHeld ⊢
    clear hwd
    try clear wq
    obtain⟨wq,rfl⟩:∃wq:World,wq=wd:=⟨_,rfl⟩
    iterate 7 (first|(refine pn_ (v:=?_) (a':=?_) rfl (rfl (a:=some _)) (by kernel_rfl) (fun _ _ _ h=>h) (Or.inl ⟨by rfl,?_⟩) ?_ ?_;rotate_left;(intro w';go_simp;with_reducible rfl);rotate_left;(simp only [Act.put,M.sq3,i64_w,i32_w];rfl))|(refine tn_ (v:=?_) (a':=?_) rfl (rfl (a:=some _)) (by kernel_rfl) (fun _ _ _ h=>h) (Or.inl ⟨by rfl,?_⟩) hHeld ?_ ?_;rotate_left;(intro w' hS_;obtain⟨s0,s1,s2,s3,s4,s5,s6⟩:=hS_;go_simp;with_reducible rfl);rotate_left;(simp only [Act.put,M.sq3,i64_w,i32_w];rfl)))
    refine one_ (i:=7) (N:=(some 92)) (pm 8 9) rfl rfl (by kernel_rfl) (by decide) (fun K hK=>?_)
    refine goes_ Tryz.func55 (by kernel_rfl) rfl #[(.slice As ns cs),.int .i64 x3] rfl rfl rfl (by(try simp only [List.map_toArray,List.map_cons,List.map_nil]);rfl) ?_
    refine(TrimR.layS HE.out.T x3).mono ?_
    rintro e we ⟨rfl,ht,hf⟩
    have HEn:=Aside0.mk (HE.out.lay ht hf)
    clear hf ht
    clear HE
    have HE:=HEn
    clear HEn
    refine⟨_,rfl,?_⟩
    clear hHeld
    refine hK.out _ _ ⟨(blk_cell HE.out.T.t 0).trans rfl,(blk_cell HE.out.T.t 1).trans rfl,(blk_cell HE.out.T.t 2).trans rfl,(blk_cell HE.out.X 0).trans rfl,(blk_cell HE.out.X 1).trans rfl,(blk_cell HE.out.X 2).trans rfl,(blk_cell HE.out.X 3).trans rfl⟩ (fun hHeld=>?_)
    clear hK K
    obtain⟨wq,rfl⟩:∃wq:World,wq=we:=⟨_,rfl⟩
    obtain⟨lb,hlb⟩:∃lb:Bool,lb=layB st x3:=⟨_,rfl⟩
    rw [←hlb]
    have HLB1:=Aside0.mk hlb
    clear hlb
    refine norm_ (a':=?_) ?_ ?_
    rotate_left
    ·show Act.put _ (some 92) _ = _
     simp only [Act.put,M.sq3,i64_w,i32_w]
     rfl
    cases lb with
    | true=>
     refine pn_ (v:=?_) (a':=?_) rfl (rfl (a:=some _)) (by kernel_rfl) (fun _ _ _ h=>h) (Or.inl ⟨by rfl,?_⟩) ?_ ?_;rotate_left;(intro w';go_simp;with_reducible rfl);rotate_left;(simp only [Act.put,M.sq3,i64_w,i32_w];rfl)
     iterate 4 (refine pn_ (v:=undef) (a':=?_) rfl (rfl (a:=some _)) (by kernel_rfl) (fun _ _ _ h=>h) (Or.inr ⟨by rfl,rfl⟩) ?_ ?_;rotate_left;(simp only [Act.put,M.sq3,i64_w,i32_w];rfl))
     iterate 3 (refine pn_ (v:=?_) (a':=?_) rfl (rfl (a:=some _)) (by kernel_rfl) (fun _ _ _ h=>h) (Or.inl ⟨by rfl,?_⟩) ?_ ?_;rotate_left;(intro w';go_simp;with_reducible rfl);rotate_left;(simp only [Act.put,M.sq3,i64_w,i32_w];rfl))
     refine last_ (i:=16) (N:=none) (pm 17 0) rfl rfl (by kernel_rfl) (by decide) (fun K hK=>?_)
     have hc2:=(blk_cell HE.out.T.t 2).trans (show (#[(.slice As ns cs),(.slice Am nm cm),.bool gq]:Array Value)[2]? = some (.bool gq) from rfl)
     have hf2:=blk_frozen HE.out.T.t 2
     refine Go.Proofs.YtejpijgfpbcibaaGreat.M.step_skip (w1:=wq.setCell ⟨gt,2,none⟩ (.bool true)) rfl rfl (by go_simp) ?_
     clear hc2 hf2
     have HEn:=Aside0.mk (HE.out.setG true)
     clear HE
     have HE:=HEn
     clear HEn
     refine hK.out _ _ ?_
     clear hK K
     obtain⟨wd,hwd⟩:∃wd:World,wd=wq.setCell ⟨gt,2,none⟩ (.bool true):=⟨_,rfl⟩
     rw [←hwd] at HE ⊢
     clear hwd hHeld
     try clear wq
     obtain⟨wq,rfl⟩:∃wq:World,wq=wd:=⟨_,rfl⟩
     refine done_ (by kernel_rfl) ?_
     have HEQ:Aside0 (stepC ⟨st,mk,gq⟩ ⟨x0,x1,x2,x3⟩=⟨layL st x3,mk,true⟩):=⟨(if_pos HC.out).trans (by rw [←HLB1.out];rfl)⟩
     go_wp2
     go_roundg (l5.length - (i+1))
     case measure=>have:=Hi.out;have:=HLT.out;omega
     case rel=>exact⟨i+1,by first|rfl|rw [show wrap64 ((i:Int)+1)=((i+1:Nat):Int) by have:=HLT.out;have:=HI5.out.2;unfold wrap64;omega],⟨HLT.out,Nat.le_refl _⟩,⟨by rw [HN.out,HEQ.out];exact HE.out.T⟩,⟨HE.out.F⟩,⟨HE.out.A⟩⟩
    | false=>
     iterate 8 (first|(refine pn_ (v:=?_) (a':=?_) rfl (rfl (a:=some _)) (by kernel_rfl) (fun _ _ _ h=>h) (Or.inl ⟨by rfl,?_⟩) ?_ ?_;rotate_left;(intro w';go_simp;with_reducible rfl);rotate_left;(simp only [Act.put,M.sq3,i64_w,i32_w];rfl))|(refine tn_ (v:=?_) (a':=?_) rfl (rfl (a:=some _)) (by kernel_rfl) (fun _ _ _ h=>h) (Or.inl ⟨by rfl,?_⟩) hHeld ?_ ?_;rotate_left;(intro w' hS_;obtain⟨s0,s1,s2,s3,s4,s5,s6⟩:=hS_;go_simp;with_reducible rfl);rotate_left;(simp only [Act.put,M.sq3,i64_w,i32_w];rfl)))
     refine last_ (i:=16) (N:=none) (pm 17 0) rfl rfl (by kernel_rfl) (by decide) (fun K hK=>?_)
     have hc2:=(blk_cell HE.out.T.t 2).trans (show (#[(.slice As ns cs),(.slice Am nm cm),.bool gq]:Array Value)[2]? = some (.bool gq) from rfl)
     have hf2:=blk_frozen HE.out.T.t 2
     refine Go.Proofs.YtejpijgfpbcibaaGreat.M.step_skip (w1:=wq.setCell ⟨gt,2,none⟩ (.bool gq)) rfl rfl (by go_simp) ?_
     clear hc2 hf2
     have HEn:=Aside0.mk (HE.out.setG gq)
     clear HE
     have HE:=HEn
     clear HEn
     refine hK.out _ _ ?_
     clear hK K
     obtain⟨wd,hwd⟩:∃wd:World,wd=wq.setCell ⟨gt,2,none⟩ (.bool gq):=⟨_,rfl⟩
     rw [←hwd] at HE ⊢
     clear hwd hHeld
     try clear wq
     obtain⟨wq,rfl⟩:∃wq:World,wq=wd:=⟨_,rfl⟩
     refine done_ (by kernel_rfl) ?_
     have HEQ:Aside0 (stepC ⟨st,mk,gq⟩ ⟨x0,x1,x2,x3⟩=⟨layL st x3,mk,gq⟩):=⟨(if_pos HC.out).trans (by rw [←HLB1.out];rfl)⟩
     go_wp2
     go_roundg (l5.length - (i+1))
     case measure=>have:=Hi.out;have:=HLT.out;omega
     case rel=>exact⟨i+1,by first|rfl|rw [show wrap64 ((i:Int)+1)=((i+1:Nat):Int) by have:=HLT.out;have:=HI5.out.2;unfold wrap64;omega],⟨HLT.out,Nat.le_refl _⟩,⟨by rw [HN.out,HEQ.out];exact HE.out.T⟩,⟨HE.out.F⟩,⟨HE.out.A⟩⟩
   have HX0 := Aside0.mk hx
   have z1:=eq_false hx
   have z2:(x2 == 0)=false:=beq_eq_false_iff_ne.2 hx
   clear hx
   iterate 11 (first|(refine pn_ (v:=?_) (a':=?_) rfl (rfl (a:=some _)) (by kernel_rfl) (fun _ _ _ h=>h) (Or.inl ⟨by rfl,?_⟩) ?_ ?_;rotate_left;(intro w';go_simp;with_reducible rfl);rotate_left;(simp only [Act.put,M.sq3,i64_w,i32_w];rfl))|(refine tn_ (v:=?_) (a':=?_) rfl (rfl (a:=some _)) (by kernel_rfl) (fun _ _ _ h=>h) (Or.inl ⟨by rfl,?_⟩) hHeld ?_ ?_;rotate_left;(intro w' hS_;obtain⟨s0,s1,s2,s3,s4,s5,s6⟩:=hS_;go_simp;with_reducible rfl);rotate_left;(simp only [Act.put,M.sq3,i64_w,i32_w];rfl)))
   refine one_ (i:=18) (N:=(some 82)) (pm 19 2) rfl rfl (by kernel_rfl) (by decide) (fun K hK=>?_)
   refine goes_ Tryz.func54 (by kernel_rfl) rfl #[(.slice Am nm cm),.int .i64 x2] rfl rfl rfl (by(try simp only [List.map_toArray,List.map_cons,List.map_nil]);rfl) ?_
   refine(TrimR.hasM HE.out.T x2).mono ?_
   rintro e we ⟨rfl,hb⟩
   have HEn:=Aside0.mk (HE.out.below hb)
   clear hb
   clear HE
   have HE:=HEn
   clear HEn
   refine⟨_,rfl,?_⟩
   clear hHeld
   refine hK.out _ _ ⟨(blk_cell HE.out.T.t 0).trans rfl,(blk_cell HE.out.T.t 1).trans rfl,(blk_cell HE.out.T.t 2).trans rfl,(blk_cell HE.out.X 0).trans rfl,(blk_cell HE.out.X 1).trans rfl,(blk_cell HE.out.X 2).trans rfl,(blk_cell HE.out.X 3).trans rfl⟩ (fun hHeld=>?_)
   clear hK K
   obtain⟨wq,rfl⟩:∃wq:World,wq=we:=⟨_,rfl⟩
   obtain⟨hb1,hhb⟩:∃hb:Bool,hb=hasB mk x2:=⟨_,rfl⟩
   rw [←hhb]
   have HHB1:=Aside0.mk hhb
   clear hhb
   refine norm_ (a':=?_) ?_ ?_
   rotate_left
   ·show Act.put _ (some 82) _ = _
    simp only [Act.put,M.sq3,i64_w,i32_w]
    rfl
   clear z1 z2
   cases hb1 with
   | false=>
    iterate 2 (refine pn_ (v:=?_) (a':=?_) rfl (rfl (a:=some _)) (by kernel_rfl) (fun _ _ _ h=>h) (Or.inl ⟨by rfl,?_⟩) ?_ ?_;rotate_left;(intro w';go_simp;with_reducible rfl);rotate_left;(simp only [Act.put,M.sq3,i64_w,i32_w];rfl))
    refine done_ (by kernel_rfl) ?_
    have HC:Aside0 (¬(hasB st x0 && (decide (x2=0) || hasB mk x2))=true):=⟨by rw [←HHB0.out,←HHB1.out,decide_eq_false HX0.out];simp⟩
    go_wp2
    go_roundg (l5.length - (i+1))
    case measure=>have:=Hi.out;have:=HLT.out;omega
    case rel=>exact⟨i+1,by first|rfl|rw [show wrap64 ((i:Int)+1)=((i+1:Nat):Int) by have:=HLT.out;have:=HI5.out.2;unfold wrap64;omega],⟨HLT.out,Nat.le_refl _⟩,⟨by rw [HN.out,show stepC ⟨st,mk,gq⟩ ⟨x0,x1,x2,x3⟩=⟨st,mk,gq⟩ from if_neg HC.out];exact HE.out.T⟩,⟨HE.out.F⟩,⟨HE.out.A⟩⟩
   | true=>
    iterate 2 (refine pn_ (v:=?_) (a':=?_) rfl (rfl (a:=some _)) (by kernel_rfl) (fun _ _ _ h=>h) (Or.inl ⟨by rfl,?_⟩) ?_ ?_;rotate_left;(intro w';go_simp;with_reducible rfl);rotate_left;(simp only [Act.put,M.sq3,i64_w,i32_w];rfl))
    refine done_ (by kernel_rfl) ?_
    have HC:Aside0 ((hasB st x0 && (decide (x2=0) || hasB mk x2))=true):=⟨by rw [←HHB0.out,←HHB1.out];simp⟩
    go_upto_region 12 with (fail)
    refine start_ (n:=17) (S:=fun w'=>w'.cell? ⟨gt,0,none⟩=some (.slice As ns cs)∧w'.cell? ⟨gt,1,none⟩=some (.slice Am nm cm)∧w'.cell? ⟨gt,2,none⟩=some (.bool gq)∧w'.cell? ⟨vb,0,none⟩=some (.int .i64 x0)∧w'.cell? ⟨vb,1,none⟩=some (.int .i64 x1)∧w'.cell? ⟨vb,2,none⟩=some (.int .i64 x2)∧w'.cell? ⟨vb,3,none⟩=some (.int .i64 x3)) (ds:=[16]) (pm 0 17) (by kernel_rfl) rfl rfl ⟨(blk_cell (HE.out.drew).T.t 0).trans rfl,(blk_cell (HE.out.drew).T.t 1).trans rfl,(blk_cell (HE.out.drew).T.t 2).trans rfl,(blk_cell (HE.out.drew).X 0).trans rfl,(blk_cell (HE.out.drew).X 1).trans rfl,(blk_cell (HE.out.drew).X 2).trans rfl,(blk_cell (HE.out.drew).X 3).trans rfl⟩ (fun hHeld=>?_)
    have HEn:=Aside0.mk HE.out.drew
    clear HE
    have HE:=HEn
    clear HEn
    obtain⟨wd,hwd⟩:∃wd:World,wd=wq.drew:=⟨_,rfl⟩
    rw [←hwd] at HE hHeld ⊢
    clear hwd
    try clear wq
    obtain⟨wq,rfl⟩:∃wq:World,wq=wd:=⟨_,rfl⟩
    iterate 7 (first|(refine pn_ (v:=?_) (a':=?_) rfl (rfl (a:=some _)) (by kernel_rfl) (fun _ _ _ h=>h) (Or.inl ⟨by rfl,?_⟩) ?_ ?_;rotate_left;(intro w';go_simp;with_reducible rfl);rotate_left;(simp only [Act.put,M.sq3,i64_w,i32_w];rfl))|(refine tn_ (v:=?_) (a':=?_) rfl (rfl (a:=some _)) (by kernel_rfl) (fun _ _ _ h=>h) (Or.inl ⟨by rfl,?_⟩) hHeld ?_ ?_;rotate_left;(intro w' hS_;obtain⟨s0,s1,s2,s3,s4,s5,s6⟩:=hS_;go_simp;with_reducible rfl);rotate_left;(simp only [Act.put,M.sq3,i64_w,i32_w];rfl)))
    refine one_ (i:=7) (N:=(some 92)) (pm 8 9) rfl rfl (by kernel_rfl) (by decide) (fun K hK=>?_)
    refine goes_ Tryz.func55 (by kernel_rfl) rfl #[(.slice As ns cs),.int .i64 x3] rfl rfl rfl (by(try simp only [List.map_toArray,List.map_cons,List.map_nil]);rfl) ?_
    refine(TrimR.layS HE.out.T x3).mono ?_
    rintro e we ⟨rfl,ht,hf⟩
    have HEn:=Aside0.mk (HE.out.lay ht hf)
    clear hf ht
    clear HE
    have HE:=HEn
    clear HEn
    refine⟨_,rfl,?_⟩
    clear hHeld
    refine hK.out _ _ ⟨(blk_cell HE.out.T.t 0).trans rfl,(blk_cell HE.out.T.t 1).trans rfl,(blk_cell HE.out.T.t 2).trans rfl,(blk_cell HE.out.X 0).trans rfl,(blk_cell HE.out.X 1).trans rfl,(blk_cell HE.out.X 2).trans rfl,(blk_cell HE.out.X 3).trans rfl⟩ (fun hHeld=>?_)
    clear hK K
    obtain⟨wq,rfl⟩:∃wq:World,wq=we:=⟨_,rfl⟩
    obtain⟨lb,hlb⟩:∃lb:Bool,lb=layB st x3:=⟨_,rfl⟩
    rw [←hlb]
    have HLB1:=Aside0.mk hlb
    clear hlb
    refine norm_ (a':=?_) ?_ ?_
    rotate_left
    ·show Act.put _ (some 92) _ = _
     simp only [Act.put,M.sq3,i64_w,i32_w]
     rfl
    cases lb with
    | true=>
     refine pn_ (v:=?_) (a':=?_) rfl (rfl (a:=some _)) (by kernel_rfl) (fun _ _ _ h=>h) (Or.inl ⟨by rfl,?_⟩) ?_ ?_;rotate_left;(intro w';go_simp;with_reducible rfl);rotate_left;(simp only [Act.put,M.sq3,i64_w,i32_w];rfl)
     iterate 4 (refine pn_ (v:=undef) (a':=?_) rfl (rfl (a:=some _)) (by kernel_rfl) (fun _ _ _ h=>h) (Or.inr ⟨by rfl,rfl⟩) ?_ ?_;rotate_left;(simp only [Act.put,M.sq3,i64_w,i32_w];rfl))
     iterate 3 (refine pn_ (v:=?_) (a':=?_) rfl (rfl (a:=some _)) (by kernel_rfl) (fun _ _ _ h=>h) (Or.inl ⟨by rfl,?_⟩) ?_ ?_;rotate_left;(intro w';go_simp;with_reducible rfl);rotate_left;(simp only [Act.put,M.sq3,i64_w,i32_w];rfl))
     refine last_ (i:=16) (N:=none) (pm 17 0) rfl rfl (by kernel_rfl) (by decide) (fun K hK=>?_)
     have hc2:=(blk_cell HE.out.T.t 2).trans (show (#[(.slice As ns cs),(.slice Am nm cm),.bool gq]:Array Value)[2]? = some (.bool gq) from rfl)
     have hf2:=blk_frozen HE.out.T.t 2
     refine Go.Proofs.YtejpijgfpbcibaaGreat.M.step_skip (w1:=wq.setCell ⟨gt,2,none⟩ (.bool true)) rfl rfl (by go_simp) ?_
     clear hc2 hf2
     have HEn:=Aside0.mk (HE.out.setG true)
     clear HE
     have HE:=HEn
     clear HEn
     refine hK.out _ _ ?_
     clear hK K
     obtain⟨wd,hwd⟩:∃wd:World,wd=wq.setCell ⟨gt,2,none⟩ (.bool true):=⟨_,rfl⟩
     rw [←hwd] at HE ⊢
     clear hwd hHeld
     try clear wq
     obtain⟨wq,rfl⟩:∃wq:World,wq=wd:=⟨_,rfl⟩
     refine done_ (by kernel_rfl) ?_
     have HEQ:Aside0 (stepC ⟨st,mk,gq⟩ ⟨x0,x1,x2,x3⟩=⟨layL st x3,mk,true⟩):=⟨(if_pos HC.out).trans (by rw [←HLB1.out];rfl)⟩
     go_wp2
     go_roundg (l5.length - (i+1))
     case measure=>have:=Hi.out;have:=HLT.out;omega
     case rel=>exact⟨i+1,by first|rfl|rw [show wrap64 ((i:Int)+1)=((i+1:Nat):Int) by have:=HLT.out;have:=HI5.out.2;unfold wrap64;omega],⟨HLT.out,Nat.le_refl _⟩,⟨by rw [HN.out,HEQ.out];exact HE.out.T⟩,⟨HE.out.F⟩,⟨HE.out.A⟩⟩
    | false=>
     iterate 8 (first|(refine pn_ (v:=?_) (a':=?_) rfl (rfl (a:=some _)) (by kernel_rfl) (fun _ _ _ h=>h) (Or.inl ⟨by rfl,?_⟩) ?_ ?_;rotate_left;(intro w';go_simp;with_reducible rfl);rotate_left;(simp only [Act.put,M.sq3,i64_w,i32_w];rfl))|(refine tn_ (v:=?_) (a':=?_) rfl (rfl (a:=some _)) (by kernel_rfl) (fun _ _ _ h=>h) (Or.inl ⟨by rfl,?_⟩) hHeld ?_ ?_;rotate_left;(intro w' hS_;obtain⟨s0,s1,s2,s3,s4,s5,s6⟩:=hS_;go_simp;with_reducible rfl);rotate_left;(simp only [Act.put,M.sq3,i64_w,i32_w];rfl)))
     refine last_ (i:=16) (N:=none) (pm 17 0) rfl rfl (by kernel_rfl) (by decide) (fun K hK=>?_)
     have hc2:=(blk_cell HE.out.T.t 2).trans (show (#[(.slice As ns cs),(.slice Am nm cm),.bool gq]:Array Value)[2]? = some (.bool gq) from rfl)
     have hf2:=blk_frozen HE.out.T.t 2
     refine Go.Proofs.YtejpijgfpbcibaaGreat.M.step_skip (w1:=wq.setCell ⟨gt,2,none⟩ (.bool gq)) rfl rfl (by go_simp) ?_
     clear hc2 hf2
     have HEn:=Aside0.mk (HE.out.setG gq)
     clear HE
     have HE:=HEn
     clear HEn
     refine hK.out _ _ ?_
     clear hK K
     obtain⟨wd,hwd⟩:∃wd:World,wd=wq.setCell ⟨gt,2,none⟩ (.bool gq):=⟨_,rfl⟩
     rw [←hwd] at HE ⊢
     clear hwd hHeld
     try clear wq
     obtain⟨wq,rfl⟩:∃wq:World,wq=wd:=⟨_,rfl⟩
     refine done_ (by kernel_rfl) ?_
     have HEQ:Aside0 (stepC ⟨st,mk,gq⟩ ⟨x0,x1,x2,x3⟩=⟨layL st x3,mk,gq⟩):=⟨(if_pos HC.out).trans (by rw [←HLB1.out];rfl)⟩
     go_wp2
     go_roundg (l5.length - (i+1))
     case measure=>have:=Hi.out;have:=HLT.out;omega
     case rel=>exact⟨i+1,by first|rfl|rw [show wrap64 ((i:Int)+1)=((i+1:Nat):Int) by have:=HLT.out;have:=HI5.out.2;unfold wrap64;omega],⟨HLT.out,Nat.le_refl _⟩,⟨by rw [HN.out,HEQ.out];exact HE.out.T⟩,⟨HE.out.F⟩,⟨HE.out.A⟩⟩
 have hlt := Classical.not_not.1 hlt
 have HLT:=Aside0.mk hlt
 obtain⟨ad,eA,k0,k1,k2,k3⟩:=at_T36 (Kd.C_below HI4.out.1 HT.out.below) (i:Int) (by omega) (by omega)
 have hrd:rd_T36 l4 (i:Int)=l4[i]:=by unfold rd_T36;rw [Int.toNat_natCast,List.getD_eq_getElem?_getD,List.getElem?_eq_getElem hlt];rfl
 rw [hrd,Int.toNat_natCast] at k0 k1 k2 k3
 have HN:=Aside0.mk (foldl_next stepO s l4 i hlt)
 generalize l4[i]=x at HN k0 k1 k2 k3
 obtain⟨x0,x1,x2,x3⟩:=x
 clear hrd
 generalize (l4.take i).foldl stepO s=sq at HN HT
 obtain⟨st,mk,gq⟩:=sq
 have HT1:Aside0 (TrimR wq w0 gt (.slice As ns cs) (.slice Am nm cm) st mk gq):=HT
 clear HT
 have t1:=eq_true hlt
 have t2:=eq_true (show (0:Int)≤(i:Int) by omega)
 have t3:=eq_true (show (i:Int) < (l4.length:Int) by omega)
 subst eA
 clear hlt
 have HE:Aside0 (RE w (wq.alloc (.cells #[.int .i64 x0,.int .i64 x1,.int .i64 x2,.int .i64 x3] 36)) w0 gt (.slice As ns cs) (.slice Am nm cm) st mk gq ga (.cells #[.int .i64 n,.int .i64 g,.slice A2 l2.length c2,.slice A3 l3.length c3,.slice (some ad) l4.length c4,.slice A5 l5.length c5,.slice A6 l6.length c6] 30 (0,0)) wq.heap.size (.cells #[.int .i64 x0,.int .i64 x1,.int .i64 x2,.int .i64 x3] 36 (0,0))):=⟨⟨TrimR.then_ HT1.out (below_alloc (Below.refl _ wq) _),HF.out.below (below_alloc (Below.refl _ wq) _),blk_old H2.out _,blk_newAt _ rfl,HNB.out,fun h=>by have:=TrimR.lt HT1.out _ h;omega⟩⟩
 clear HT1 HF H2
 go_upto_region 4 with (fail)
 obtain⟨wv,hwv⟩:∃wv:World,wv=wq.alloc (.cells #[.int .i64 x0,.int .i64 x1,.int .i64 x2,.int .i64 x3] 36):=⟨_,rfl⟩
 rw [←hwv] at HE ⊢
 generalize wq.heap.size=vb at HE ⊢
 clear hwv t1 t2 t3 k0 k1 k2 k3
 try clear wq
 obtain⟨wq,rfl⟩:∃wq:World,wq=wv:=⟨_,rfl⟩
 refine start_ (n:=7) (S:=fun w'=>w'.cell? ⟨gt,0,none⟩=some (.slice As ns cs)∧w'.cell? ⟨gt,1,none⟩=some (.slice Am nm cm)∧w'.cell? ⟨gt,2,none⟩=some (.bool gq)∧w'.cell? ⟨vb,0,none⟩=some (.int .i64 x0)∧w'.cell? ⟨vb,1,none⟩=some (.int .i64 x1)∧w'.cell? ⟨vb,2,none⟩=some (.int .i64 x2)∧w'.cell? ⟨vb,3,none⟩=some (.int .i64 x3)) (ds:=[]) (pm 0 7) (by kernel_rfl) rfl rfl ⟨(blk_cell (HE.out.drew).T.t 0).trans rfl,(blk_cell (HE.out.drew).T.t 1).trans rfl,(blk_cell (HE.out.drew).T.t 2).trans rfl,(blk_cell (HE.out.drew).X 0).trans rfl,(blk_cell (HE.out.drew).X 1).trans rfl,(blk_cell (HE.out.drew).X 2).trans rfl,(blk_cell (HE.out.drew).X 3).trans rfl⟩ (fun hHeld=>?_)
 have HEn:=Aside0.mk HE.out.drew
 clear HE
 have HE:=HEn
 clear HEn
 obtain⟨wd,hwd⟩:∃wd:World,wd=wq.drew:=⟨_,rfl⟩
 rw [←hwd] at HE hHeld ⊢
 clear hwd
 try clear wq
 obtain⟨wq,rfl⟩:∃wq:World,wq=wd:=⟨_,rfl⟩
 iterate 6 (first|(refine pn_ (v:=?_) (a':=?_) rfl (rfl (a:=some _)) (by kernel_rfl) (fun _ _ _ h=>h) (Or.inl ⟨by rfl,?_⟩) ?_ ?_;rotate_left;(intro w';go_simp;with_reducible rfl);rotate_left;(simp only [Act.put,M.sq3,i64_w,i32_w];rfl))|(refine tn_ (v:=?_) (a':=?_) rfl (rfl (a:=some _)) (by kernel_rfl) (fun _ _ _ h=>h) (Or.inl ⟨by rfl,?_⟩) hHeld ?_ ?_;rotate_left;(intro w' hS_;obtain⟨s0,s1,s2,s3,s4,s5,s6⟩:=hS_;go_simp;with_reducible rfl);rotate_left;(simp only [Act.put,M.sq3,i64_w,i32_w];rfl)))
 refine one_ (i:=6) (N:=(some 23)) (pm 7 0) rfl rfl (by kernel_rfl) (by decide) (fun K hK=>?_)
 refine goes_ Tryz.func54 (by kernel_rfl) rfl #[(.slice As ns cs),.int .i64 x0] rfl rfl rfl (by(try simp only [List.map_toArray,List.map_cons,List.map_nil]);rfl) ?_
 refine(TrimR.hasS HE.out.T x0).mono ?_
 rintro e we ⟨rfl,hb⟩
 have HEn:=Aside0.mk (HE.out.below hb)
 clear hb
 clear HE
 have HE:=HEn
 clear HEn
 refine⟨_,rfl,?_⟩
 clear hHeld
 refine hK.out _ _ ⟨(blk_cell HE.out.T.t 0).trans rfl,(blk_cell HE.out.T.t 1).trans rfl,(blk_cell HE.out.T.t 2).trans rfl,(blk_cell HE.out.X 0).trans rfl,(blk_cell HE.out.X 1).trans rfl,(blk_cell HE.out.X 2).trans rfl,(blk_cell HE.out.X 3).trans rfl⟩ (fun hHeld=>?_)
 clear hK K
 obtain⟨wq,rfl⟩:∃wq:World,wq=we:=⟨_,rfl⟩
 obtain⟨hb0,hhb⟩:∃hb:Bool,hb=hasB st x0:=⟨_,rfl⟩
 rw [←hhb]
 have HHB0:=Aside0.mk hhb
 clear hhb
 refine norm_ (a':=?_) ?_ ?_
 rotate_left
 ·show Act.put _ (some 23) _ = _
  simp only [Act.put,M.sq3,i64_w,i32_w]
  rfl
 refine done_ (by kernel_rfl) ?_
 cases hb0 with
 | false=>
  go_wp2
  go_roundg (l4.length - (i+1))
  case measure=>have:=Hi.out;have:=HLT.out;omega
  case rel=>exact⟨i+1,by first|rfl|rw [show wrap64 ((i:Int)+1)=((i+1:Nat):Int) by have:=HLT.out;have:=HI4.out.2;unfold wrap64;omega],⟨HLT.out,Nat.le_refl _⟩,⟨by rw [HN.out,show stepO ⟨st,mk,gq⟩ ⟨x0,x1,x2,x3⟩=⟨st,mk,gq⟩ from if_neg (by rw [←HHB0.out];decide)];exact HE.out.T⟩,⟨HE.out.F⟩,⟨HE.out.A⟩⟩
 | true=>
  go_upto_region 5 with (fail)
  refine start_ (n:=17) (S:=fun w'=>w'.cell? ⟨gt,0,none⟩=some (.slice As ns cs)∧w'.cell? ⟨gt,1,none⟩=some (.slice Am nm cm)∧w'.cell? ⟨gt,2,none⟩=some (.bool gq)∧w'.cell? ⟨vb,0,none⟩=some (.int .i64 x0)∧w'.cell? ⟨vb,1,none⟩=some (.int .i64 x1)∧w'.cell? ⟨vb,2,none⟩=some (.int .i64 x2)∧w'.cell? ⟨vb,3,none⟩=some (.int .i64 x3)) (ds:=[16]) (pm 0 17) (by kernel_rfl) rfl rfl ⟨(blk_cell (HE.out.drew).T.t 0).trans rfl,(blk_cell (HE.out.drew).T.t 1).trans rfl,(blk_cell (HE.out.drew).T.t 2).trans rfl,(blk_cell (HE.out.drew).X 0).trans rfl,(blk_cell (HE.out.drew).X 1).trans rfl,(blk_cell (HE.out.drew).X 2).trans rfl,(blk_cell (HE.out.drew).X 3).trans rfl⟩ (fun hHeld=>?_)
  have HEn:=Aside0.mk HE.out.drew
  clear HE
  have HE:=HEn
  clear HEn
  obtain⟨wd,hwd⟩:∃wd:World,wd=wq.drew:=⟨_,rfl⟩
  rw [←hwd] at HE hHeld ⊢
  clear hwd
  try clear wq
  obtain⟨wq,rfl⟩:∃wq:World,wq=wd:=⟨_,rfl⟩
  iterate 7 (first|(refine pn_ (v:=?_) (a':=?_) rfl (rfl (a:=some _)) (by kernel_rfl) (fun _ _ _ h=>h) (Or.inl ⟨by rfl,?_⟩) ?_ ?_;rotate_left;(intro w';go_simp;with_reducible rfl);rotate_left;(simp only [Act.put,M.sq3,i64_w,i32_w];rfl))|(refine tn_ (v:=?_) (a':=?_) rfl (rfl (a:=some _)) (by kernel_rfl) (fun _ _ _ h=>h) (Or.inl ⟨by rfl,?_⟩) hHeld ?_ ?_;rotate_left;(intro w' hS_;obtain⟨s0,s1,s2,s3,s4,s5,s6⟩:=hS_;go_simp;with_reducible rfl);rotate_left;(simp only [Act.put,M.sq3,i64_w,i32_w];rfl)))
  refine one_ (i:=7) (N:=(some 31)) (pm 8 9) rfl rfl (by kernel_rfl) (by decide) (fun K hK=>?_)
  refine goes_ Tryz.func55 (by kernel_rfl) rfl #[(.slice As ns cs),.int .i64 x2] rfl rfl rfl (by(try simp only [List.map_toArray,List.map_cons,List.map_nil]);rfl) ?_
  refine(TrimR.layS HE.out.T x2).mono ?_
  rintro e we ⟨rfl,ht,hf⟩
  have HEn:=Aside0.mk (HE.out.lay ht hf)
  clear hf ht
  clear HE
  have HE:=HEn
  clear HEn
  refine⟨_,rfl,?_⟩
  clear hHeld
  refine hK.out _ _ ⟨(blk_cell HE.out.T.t 0).trans rfl,(blk_cell HE.out.T.t 1).trans rfl,(blk_cell HE.out.T.t 2).trans rfl,(blk_cell HE.out.X 0).trans rfl,(blk_cell HE.out.X 1).trans rfl,(blk_cell HE.out.X 2).trans rfl,(blk_cell HE.out.X 3).trans rfl⟩ (fun hHeld=>?_)
  clear hK K
  obtain⟨wq,rfl⟩:∃wq:World,wq=we:=⟨_,rfl⟩
  obtain⟨lb,hlb⟩:∃lb:Bool,lb=layB st x2:=⟨_,rfl⟩
  rw [←hlb]
  have HLB1:=Aside0.mk hlb
  clear hlb
  refine norm_ (a':=?_) ?_ ?_
  rotate_left
  ·show Act.put _ (some 31) _ = _
   simp only [Act.put,M.sq3,i64_w,i32_w]
   rfl
  cases lb with
  | true=>
   refine pn_ (v:=?_) (a':=?_) rfl (rfl (a:=some _)) (by kernel_rfl) (fun _ _ _ h=>h) (Or.inl ⟨by rfl,?_⟩) ?_ ?_;rotate_left;(intro w';go_simp;with_reducible rfl);rotate_left;(simp only [Act.put,M.sq3,i64_w,i32_w];rfl)
   iterate 4 (refine pn_ (v:=undef) (a':=?_) rfl (rfl (a:=some _)) (by kernel_rfl) (fun _ _ _ h=>h) (Or.inr ⟨by rfl,rfl⟩) ?_ ?_;rotate_left;(simp only [Act.put,M.sq3,i64_w,i32_w];rfl))
   iterate 3 (refine pn_ (v:=?_) (a':=?_) rfl (rfl (a:=some _)) (by kernel_rfl) (fun _ _ _ h=>h) (Or.inl ⟨by rfl,?_⟩) ?_ ?_;rotate_left;(intro w';go_simp;with_reducible rfl);rotate_left;(simp only [Act.put,M.sq3,i64_w,i32_w];rfl))
   refine last_ (i:=16) (N:=none) (pm 17 0) rfl rfl (by kernel_rfl) (by decide) (fun K hK=>?_)
   have hc2:=(blk_cell HE.out.T.t 2).trans (show (#[(.slice As ns cs),(.slice Am nm cm),.bool gq]:Array Value)[2]? = some (.bool gq) from rfl)
   have hf2:=blk_frozen HE.out.T.t 2
   refine Go.Proofs.YtejpijgfpbcibaaGreat.M.step_skip (w1:=wq.setCell ⟨gt,2,none⟩ (.bool true)) rfl rfl (by go_simp) ?_
   clear hc2 hf2
   have HEn:=Aside0.mk (HE.out.setG true)
   clear HE
   have HE:=HEn
   clear HEn
   refine hK.out _ _ ?_
   clear hK K
   obtain⟨wd,hwd⟩:∃wd:World,wd=wq.setCell ⟨gt,2,none⟩ (.bool true):=⟨_,rfl⟩
   rw [←hwd] at HE ⊢
   clear hwd hHeld
   try clear wq
   obtain⟨wq,rfl⟩:∃wq:World,wq=wd:=⟨_,rfl⟩
   refine done_ (by kernel_rfl) ?_
   go_upto_region 6 with (fail)
   obtain⟨gp,hgp⟩:∃b:Bool,b=gq:=⟨_,rfl⟩
   have HGP:=Aside0.mk hgp
   clear hgp
   obtain⟨gq,hgq⟩:∃b:Bool,b=true:=⟨_,rfl⟩
   rw [←hgq] at HE
   have HGQ:=Aside0.mk hgq
   clear hgq
   refine start_ (n:=17) (S:=fun w'=>w'.cell? ⟨gt,0,none⟩=some (.slice As ns cs)∧w'.cell? ⟨gt,1,none⟩=some (.slice Am nm cm)∧w'.cell? ⟨gt,2,none⟩=some (.bool gq)∧w'.cell? ⟨vb,0,none⟩=some (.int .i64 x0)∧w'.cell? ⟨vb,1,none⟩=some (.int .i64 x1)∧w'.cell? ⟨vb,2,none⟩=some (.int .i64 x2)∧w'.cell? ⟨vb,3,none⟩=some (.int .i64 x3)) (ds:=[16]) (pm 0 17) (by kernel_rfl) rfl rfl ⟨(blk_cell (HE.out.drew).T.t 0).trans rfl,(blk_cell (HE.out.drew).T.t 1).trans rfl,(blk_cell (HE.out.drew).T.t 2).trans rfl,(blk_cell (HE.out.drew).X 0).trans rfl,(blk_cell (HE.out.drew).X 1).trans rfl,(blk_cell (HE.out.drew).X 2).trans rfl,(blk_cell (HE.out.drew).X 3).trans rfl⟩ (fun hHeld=>?_)
   have HEn:=Aside0.mk HE.out.drew
   clear HE
   have HE:=HEn
   clear HEn
   obtain⟨wd,hwd⟩:∃wd:World,wd=wq.drew:=⟨_,rfl⟩
   rw [←hwd] at HE hHeld ⊢
   clear hwd
   try clear wq
   obtain⟨wq,rfl⟩:∃wq:World,wq=wd:=⟨_,rfl⟩
   iterate 7 (first|(refine pn_ (v:=?_) (a':=?_) rfl (rfl (a:=some _)) (by kernel_rfl) (fun _ _ _ h=>h) (Or.inl ⟨by rfl,?_⟩) ?_ ?_;rotate_left;(intro w';go_simp;with_reducible rfl);rotate_left;(simp only [Act.put,M.sq3,i64_w,i32_w];rfl))|(refine tn_ (v:=?_) (a':=?_) rfl (rfl (a:=some _)) (by kernel_rfl) (fun _ _ _ h=>h) (Or.inl ⟨by rfl,?_⟩) hHeld ?_ ?_;rotate_left;(intro w' hS_;obtain⟨s0,s1,s2,s3,s4,s5,s6⟩:=hS_;go_simp;with_reducible rfl);rotate_left;(simp only [Act.put,M.sq3,i64_w,i32_w];rfl)))
   refine one_ (i:=7) (N:=(some 47)) (pm 8 9) rfl rfl (by kernel_rfl) (by decide) (fun K hK=>?_)
   refine goes_ Tryz.func55 (by kernel_rfl) rfl #[(.slice Am nm cm),.int .i64 x3] rfl rfl rfl (by(try simp only [List.map_toArray,List.map_cons,List.map_nil]);rfl) ?_
   refine(TrimR.layM HE.out.T x3).mono ?_
   rintro e we ⟨rfl,ht,hf⟩
   have HEn:=Aside0.mk (HE.out.lay ht hf)
   clear hf ht
   clear HE
   have HE:=HEn
   clear HEn
   refine⟨_,rfl,?_⟩
   clear hHeld
   refine hK.out _ _ ⟨(blk_cell HE.out.T.t 0).trans rfl,(blk_cell HE.out.T.t 1).trans rfl,(blk_cell HE.out.T.t 2).trans rfl,(blk_cell HE.out.X 0).trans rfl,(blk_cell HE.out.X 1).trans rfl,(blk_cell HE.out.X 2).trans rfl,(blk_cell HE.out.X 3).trans rfl⟩ (fun hHeld=>?_)
   clear hK K
   obtain⟨wq,rfl⟩:∃wq:World,wq=we:=⟨_,rfl⟩
   obtain⟨lb,hlb⟩:∃lb:Bool,lb=layB mk x3:=⟨_,rfl⟩
   rw [←hlb]
   have HLB2:=Aside0.mk hlb
   clear hlb
   refine norm_ (a':=?_) ?_ ?_
   rotate_left
   ·show Act.put _ (some 47) _ = _
    simp only [Act.put,M.sq3,i64_w,i32_w]
    rfl
   cases lb with
   | true=>
    refine pn_ (v:=?_) (a':=?_) rfl (rfl (a:=some _)) (by kernel_rfl) (fun _ _ _ h=>h) (Or.inl ⟨by rfl,?_⟩) ?_ ?_;rotate_left;(intro w';go_simp;with_reducible rfl);rotate_left;(simp only [Act.put,M.sq3,i64_w,i32_w];rfl)
    iterate 4 (refine pn_ (v:=undef) (a':=?_) rfl (rfl (a:=some _)) (by kernel_rfl) (fun _ _ _ h=>h) (Or.inr ⟨by rfl,rfl⟩) ?_ ?_;rotate_left;(simp only [Act.put,M.sq3,i64_w,i32_w];rfl))
    iterate 3 (refine pn_ (v:=?_) (a':=?_) rfl (rfl (a:=some _)) (by kernel_rfl) (fun _ _ _ h=>h) (Or.inl ⟨by rfl,?_⟩) ?_ ?_;rotate_left;(intro w';go_simp;with_reducible rfl);rotate_left;(simp only [Act.put,M.sq3,i64_w,i32_w];rfl))
    refine last_ (i:=16) (N:=none) (pm 17 0) rfl rfl (by kernel_rfl) (by decide) (fun K hK=>?_)
    have hc2:=(blk_cell HE.out.T.t 2).trans (show (#[(.slice As ns cs),(.slice Am nm cm),.bool gq]:Array Value)[2]? = some (.bool gq) from rfl)
    have hf2:=blk_frozen HE.out.T.t 2
    refine Go.Proofs.YtejpijgfpbcibaaGreat.M.step_skip (w1:=wq.setCell ⟨gt,2,none⟩ (.bool true)) rfl rfl (by go_simp) ?_
    clear hc2 hf2
    have HEn:=Aside0.mk (HE.out.setG true)
    clear HE
    have HE:=HEn
    clear HEn
    refine hK.out _ _ ?_
    clear hK K
    obtain⟨wd,hwd⟩:∃wd:World,wd=wq.setCell ⟨gt,2,none⟩ (.bool true):=⟨_,rfl⟩
    rw [←hwd] at HE ⊢
    clear hwd hHeld
    try clear wq
    obtain⟨wq,rfl⟩:∃wq:World,wq=wd:=⟨_,rfl⟩
    refine done_ (by kernel_rfl) ?_
    have HEQ:Aside0 (stepO ⟨st,mk,gp⟩ ⟨x0,x1,x2,x3⟩=⟨layL st x2,layL mk x3,true⟩):=⟨(if_pos HHB0.out.symm).trans (by rw [←HLB1.out,←HLB2.out];rfl)⟩
    go_wp2
    go_roundg (l4.length - (i+1))
    case measure=>have:=Hi.out;have:=HLT.out;omega
    case rel=>exact⟨i+1,by first|rfl|rw [show wrap64 ((i:Int)+1)=((i+1:Nat):Int) by have:=HLT.out;have:=HI4.out.2;unfold wrap64;omega],⟨HLT.out,Nat.le_refl _⟩,⟨by rw [HN.out,←HGP.out,HEQ.out];exact HE.out.T⟩,⟨HE.out.F⟩,⟨HE.out.A⟩⟩
   | false=>
    iterate 8 (first|(refine pn_ (v:=?_) (a':=?_) rfl (rfl (a:=some _)) (by kernel_rfl) (fun _ _ _ h=>h) (Or.inl ⟨by rfl,?_⟩) ?_ ?_;rotate_left;(intro w';go_simp;with_reducible rfl);rotate_left;(simp only [Act.put,M.sq3,i64_w,i32_w];rfl))|(refine tn_ (v:=?_) (a':=?_) rfl (rfl (a:=some _)) (by kernel_rfl) (fun _ _ _ h=>h) (Or.inl ⟨by rfl,?_⟩) hHeld ?_ ?_;rotate_left;(intro w' hS_;obtain⟨s0,s1,s2,s3,s4,s5,s6⟩:=hS_;go_simp;with_reducible rfl);rotate_left;(simp only [Act.put,M.sq3,i64_w,i32_w];rfl)))
    refine last_ (i:=16) (N:=none) (pm 17 0) rfl rfl (by kernel_rfl) (by decide) (fun K hK=>?_)
    have hc2:=(blk_cell HE.out.T.t 2).trans (show (#[(.slice As ns cs),(.slice Am nm cm),.bool gq]:Array Value)[2]? = some (.bool gq) from rfl)
    have hf2:=blk_frozen HE.out.T.t 2
    refine Go.Proofs.YtejpijgfpbcibaaGreat.M.step_skip (w1:=wq.setCell ⟨gt,2,none⟩ (.bool gq)) rfl rfl (by go_simp) ?_
    clear hc2 hf2
    have HEn:=Aside0.mk (HE.out.setG gq)
    clear HE
    have HE:=HEn
    clear HEn
    refine hK.out _ _ ?_
    clear hK K
    obtain⟨wd,hwd⟩:∃wd:World,wd=wq.setCell ⟨gt,2,none⟩ (.bool gq):=⟨_,rfl⟩
    rw [←hwd] at HE ⊢
    clear hwd hHeld
    try clear wq
    obtain⟨wq,rfl⟩:∃wq:World,wq=wd:=⟨_,rfl⟩
    refine done_ (by kernel_rfl) ?_
    have HEQ:Aside0 (stepO ⟨st,mk,gp⟩ ⟨x0,x1,x2,x3⟩=⟨layL st x2,layL mk x3,gq⟩):=⟨(if_pos HHB0.out.symm).trans (by rw [←HLB1.out,←HLB2.out,HGQ.out];rfl)⟩
    go_wp2
    go_roundg (l4.length - (i+1))
    case measure=>have:=Hi.out;have:=HLT.out;omega
    case rel=>exact⟨i+1,by first|rfl|rw [show wrap64 ((i:Int)+1)=((i+1:Nat):Int) by have:=HLT.out;have:=HI4.out.2;unfold wrap64;omega],⟨HLT.out,Nat.le_refl _⟩,⟨by rw [HN.out,←HGP.out,HEQ.out];exact HE.out.T⟩,⟨HE.out.F⟩,⟨HE.out.A⟩⟩
  | false=>
   iterate 8 (first|(refine pn_ (v:=?_) (a':=?_) rfl (rfl (a:=some _)) (by kernel_rfl) (fun _ _ _ h=>h) (Or.inl ⟨by rfl,?_⟩) ?_ ?_;rotate_left;(intro w';go_simp;with_reducible rfl);rotate_left;(simp only [Act.put,M.sq3,i64_w,i32_w];rfl))|(refine tn_ (v:=?_) (a':=?_) rfl (rfl (a:=some _)) (by kernel_rfl) (fun _ _ _ h=>h) (Or.inl ⟨by rfl,?_⟩) hHeld ?_ ?_;rotate_left;(intro w' hS_;obtain⟨s0,s1,s2,s3,s4,s5,s6⟩:=hS_;go_simp;with_reducible rfl);rotate_left;(simp only [Act.put,M.sq3,i64_w,i32_w];rfl)))
   refine last_ (i:=16) (N:=none) (pm 17 0) rfl rfl (by kernel_rfl) (by decide) (fun K hK=>?_)
   have hc2:=(blk_cell HE.out.T.t 2).trans (show (#[(.slice As ns cs),(.slice Am nm cm),.bool gq]:Array Value)[2]? = some (.bool gq) from rfl)
   have hf2:=blk_frozen HE.out.T.t 2
   refine Go.Proofs.YtejpijgfpbcibaaGreat.M.step_skip (w1:=wq.setCell ⟨gt,2,none⟩ (.bool gq)) rfl rfl (by go_simp) ?_
   clear hc2 hf2
   have HEn:=Aside0.mk (HE.out.setG gq)
   clear HE
   have HE:=HEn
   clear HEn
   refine hK.out _ _ ?_
   clear hK K
   obtain⟨wd,hwd⟩:∃wd:World,wd=wq.setCell ⟨gt,2,none⟩ (.bool gq):=⟨_,rfl⟩
   rw [←hwd] at HE ⊢
   clear hwd hHeld
   try clear wq
   obtain⟨wq,rfl⟩:∃wq:World,wq=wd:=⟨_,rfl⟩
   refine done_ (by kernel_rfl) ?_
   go_upto_region 6 with (fail)
   obtain⟨gp,hgp⟩:∃b:Bool,b=gq:=⟨_,rfl⟩
   have HGP:=Aside0.mk hgp
   clear hgp
   have HGQ:Aside0 (gq=gp):=⟨HGP.out.symm⟩
   refine start_ (n:=17) (S:=fun w'=>w'.cell? ⟨gt,0,none⟩=some (.slice As ns cs)∧w'.cell? ⟨gt,1,none⟩=some (.slice Am nm cm)∧w'.cell? ⟨gt,2,none⟩=some (.bool gq)∧w'.cell? ⟨vb,0,none⟩=some (.int .i64 x0)∧w'.cell? ⟨vb,1,none⟩=some (.int .i64 x1)∧w'.cell? ⟨vb,2,none⟩=some (.int .i64 x2)∧w'.cell? ⟨vb,3,none⟩=some (.int .i64 x3)) (ds:=[16]) (pm 0 17) (by kernel_rfl) rfl rfl ⟨(blk_cell (HE.out.drew).T.t 0).trans rfl,(blk_cell (HE.out.drew).T.t 1).trans rfl,(blk_cell (HE.out.drew).T.t 2).trans rfl,(blk_cell (HE.out.drew).X 0).trans rfl,(blk_cell (HE.out.drew).X 1).trans rfl,(blk_cell (HE.out.drew).X 2).trans rfl,(blk_cell (HE.out.drew).X 3).trans rfl⟩ (fun hHeld=>?_)
   have HEn:=Aside0.mk HE.out.drew
   clear HE
   have HE:=HEn
   clear HEn
   obtain⟨wd,hwd⟩:∃wd:World,wd=wq.drew:=⟨_,rfl⟩
   rw [←hwd] at HE hHeld ⊢
   clear hwd
   try clear wq
   obtain⟨wq,rfl⟩:∃wq:World,wq=wd:=⟨_,rfl⟩
   iterate 7 (first|(refine pn_ (v:=?_) (a':=?_) rfl (rfl (a:=some _)) (by kernel_rfl) (fun _ _ _ h=>h) (Or.inl ⟨by rfl,?_⟩) ?_ ?_;rotate_left;(intro w';go_simp;with_reducible rfl);rotate_left;(simp only [Act.put,M.sq3,i64_w,i32_w];rfl))|(refine tn_ (v:=?_) (a':=?_) rfl (rfl (a:=some _)) (by kernel_rfl) (fun _ _ _ h=>h) (Or.inl ⟨by rfl,?_⟩) hHeld ?_ ?_;rotate_left;(intro w' hS_;obtain⟨s0,s1,s2,s3,s4,s5,s6⟩:=hS_;go_simp;with_reducible rfl);rotate_left;(simp only [Act.put,M.sq3,i64_w,i32_w];rfl)))
   refine one_ (i:=7) (N:=(some 47)) (pm 8 9) rfl rfl (by kernel_rfl) (by decide) (fun K hK=>?_)
   refine goes_ Tryz.func55 (by kernel_rfl) rfl #[(.slice Am nm cm),.int .i64 x3] rfl rfl rfl (by(try simp only [List.map_toArray,List.map_cons,List.map_nil]);rfl) ?_
   refine(TrimR.layM HE.out.T x3).mono ?_
   rintro e we ⟨rfl,ht,hf⟩
   have HEn:=Aside0.mk (HE.out.lay ht hf)
   clear hf ht
   clear HE
   have HE:=HEn
   clear HEn
   refine⟨_,rfl,?_⟩
   clear hHeld
   refine hK.out _ _ ⟨(blk_cell HE.out.T.t 0).trans rfl,(blk_cell HE.out.T.t 1).trans rfl,(blk_cell HE.out.T.t 2).trans rfl,(blk_cell HE.out.X 0).trans rfl,(blk_cell HE.out.X 1).trans rfl,(blk_cell HE.out.X 2).trans rfl,(blk_cell HE.out.X 3).trans rfl⟩ (fun hHeld=>?_)
   clear hK K
   obtain⟨wq,rfl⟩:∃wq:World,wq=we:=⟨_,rfl⟩
   obtain⟨lb,hlb⟩:∃lb:Bool,lb=layB mk x3:=⟨_,rfl⟩
   rw [←hlb]
   have HLB2:=Aside0.mk hlb
   clear hlb
   refine norm_ (a':=?_) ?_ ?_
   rotate_left
   ·show Act.put _ (some 47) _ = _
    simp only [Act.put,M.sq3,i64_w,i32_w]
    rfl
   cases lb with
   | true=>
    refine pn_ (v:=?_) (a':=?_) rfl (rfl (a:=some _)) (by kernel_rfl) (fun _ _ _ h=>h) (Or.inl ⟨by rfl,?_⟩) ?_ ?_;rotate_left;(intro w';go_simp;with_reducible rfl);rotate_left;(simp only [Act.put,M.sq3,i64_w,i32_w];rfl)
    iterate 4 (refine pn_ (v:=undef) (a':=?_) rfl (rfl (a:=some _)) (by kernel_rfl) (fun _ _ _ h=>h) (Or.inr ⟨by rfl,rfl⟩) ?_ ?_;rotate_left;(simp only [Act.put,M.sq3,i64_w,i32_w];rfl))
    iterate 3 (refine pn_ (v:=?_) (a':=?_) rfl (rfl (a:=some _)) (by kernel_rfl) (fun _ _ _ h=>h) (Or.inl ⟨by rfl,?_⟩) ?_ ?_;rotate_left;(intro w';go_simp;with_reducible rfl);rotate_left;(simp only [Act.put,M.sq3,i64_w,i32_w];rfl))
    refine last_ (i:=16) (N:=none) (pm 17 0) rfl rfl (by kernel_rfl) (by decide) (fun K hK=>?_)
    have hc2:=(blk_cell HE.out.T.t 2).trans (show (#[(.slice As ns cs),(.slice Am nm cm),.bool gq]:Array Value)[2]? = some (.bool gq) from rfl)
    have hf2:=blk_frozen HE.out.T.t 2
    refine Go.Proofs.YtejpijgfpbcibaaGreat.M.step_skip (w1:=wq.setCell ⟨gt,2,none⟩ (.bool true)) rfl rfl (by go_simp) ?_
    clear hc2 hf2
    have HEn:=Aside0.mk (HE.out.setG true)
    clear HE
    have HE:=HEn
    clear HEn
    refine hK.out _ _ ?_
    clear hK K
    obtain⟨wd,hwd⟩:∃wd:World,wd=wq.setCell ⟨gt,2,none⟩ (.bool true):=⟨_,rfl⟩
    rw [←hwd] at HE ⊢
    clear hwd hHeld
    try clear wq
    obtain⟨wq,rfl⟩:∃wq:World,wq=wd:=⟨_,rfl⟩
    refine done_ (by kernel_rfl) ?_
    have HEQ:Aside0 (stepO ⟨st,mk,gp⟩ ⟨x0,x1,x2,x3⟩=⟨layL st x2,layL mk x3,true⟩):=⟨(if_pos HHB0.out.symm).trans (by rw [←HLB1.out,←HLB2.out];rfl)⟩
    go_wp2
    go_roundg (l4.length - (i+1))
    case measure=>have:=Hi.out;have:=HLT.out;omega
    case rel=>exact⟨i+1,by first|rfl|rw [show wrap64 ((i:Int)+1)=((i+1:Nat):Int) by have:=HLT.out;have:=HI4.out.2;unfold wrap64;omega],⟨HLT.out,Nat.le_refl _⟩,⟨by rw [HN.out,←HGP.out,HEQ.out];exact HE.out.T⟩,⟨HE.out.F⟩,⟨HE.out.A⟩⟩
   | false=>
    iterate 8 (first|(refine pn_ (v:=?_) (a':=?_) rfl (rfl (a:=some _)) (by kernel_rfl) (fun _ _ _ h=>h) (Or.inl ⟨by rfl,?_⟩) ?_ ?_;rotate_left;(intro w';go_simp;with_reducible rfl);rotate_left;(simp only [Act.put,M.sq3,i64_w,i32_w];rfl))|(refine tn_ (v:=?_) (a':=?_) rfl (rfl (a:=some _)) (by kernel_rfl) (fun _ _ _ h=>h) (Or.inl ⟨by rfl,?_⟩) hHeld ?_ ?_;rotate_left;(intro w' hS_;obtain⟨s0,s1,s2,s3,s4,s5,s6⟩:=hS_;go_simp;with_reducible rfl);rotate_left;(simp only [Act.put,M.sq3,i64_w,i32_w];rfl)))
    refine last_ (i:=16) (N:=none) (pm 17 0) rfl rfl (by kernel_rfl) (by decide) (fun K hK=>?_)
    have hc2:=(blk_cell HE.out.T.t 2).trans (show (#[(.slice As ns cs),(.slice Am nm cm),.bool gq]:Array Value)[2]? = some (.bool gq) from rfl)
    have hf2:=blk_frozen HE.out.T.t 2
    refine Go.Proofs.YtejpijgfpbcibaaGreat.M.step_skip (w1:=wq.setCell ⟨gt,2,none⟩ (.bool gq)) rfl rfl (by go_simp) ?_
    clear hc2 hf2
    have HEn:=Aside0.mk (HE.out.setG gq)
    clear HE
    have HE:=HEn
    clear HEn
    refine hK.out _ _ ?_
    clear hK K
    obtain⟨wd,hwd⟩:∃wd:World,wd=wq.setCell ⟨gt,2,none⟩ (.bool gq):=⟨_,rfl⟩
    rw [←hwd] at HE ⊢
    clear hwd hHeld
    try clear wq
    obtain⟨wq,rfl⟩:∃wq:World,wq=wd:=⟨_,rfl⟩
    refine done_ (by kernel_rfl) ?_
    have HEQ:Aside0 (stepO ⟨st,mk,gp⟩ ⟨x0,x1,x2,x3⟩=⟨layL st x2,layL mk x3,gq⟩):=⟨(if_pos HHB0.out.symm).trans (by rw [←HLB1.out,←HLB2.out,HGQ.out];rfl)⟩
    go_wp2
    go_roundg (l4.length - (i+1))
    case measure=>have:=Hi.out;have:=HLT.out;omega
    case rel=>exact⟨i+1,by first|rfl|rw [show wrap64 ((i:Int)+1)=((i+1:Nat):Int) by have:=HLT.out;have:=HI4.out.2;unfold wrap64;omega],⟨HLT.out,Nat.le_refl _⟩,⟨by rw [HN.out,←HGP.out,HEQ.out];exact HE.out.T⟩,⟨HE.out.F⟩,⟨HE.out.A⟩⟩
end Go.Proofs.YtejpijgfpbcibaaGreat.P
