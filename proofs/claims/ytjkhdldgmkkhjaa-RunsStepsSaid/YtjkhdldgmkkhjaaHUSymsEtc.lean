/- Words and walks of this claim: USyms, UMk. -/
import Derived.Test.YtjkhdldgmkkhjaaHPCanopylaw1Syms
import Derived.Test.YtjkhdldgmkkhjaaHP0Etc
set_option linter.unusedVariables false
set_option linter.unusedSimpArgs false
set_option linter.unnecessarySimpa false
section
namespace Go.Proofs.Ytjkhdldgmkkhjaa.P
open Go.RowKit Go.Proofs.YtjkhdldgmkkhjaaW.PrintWords Go.Proofs.YtjkhdldgmkkhjaaW.PrintLast Go.Proofs.YtjkhdldgmkkhjaaW.PrintMore
theorem wrap_id {n:Int} (h0 : -9223372036854775808≤n) (h1:n < 9223372036854775808):wrap64 n=n:=by unfold wrap64;omega
theorem within_go {a n:Int} (h:0 < n) (hn:n < 4611686018427387904):(if n=0 then (none:Option Int) else (if (Int.tmod a n) < 0 then (some (wrap64 ((Int.tmod a n)+n))) else (some (Int.tmod a n))))=some (a % n):=by
 rw [if_neg (by omega)]
 have h1:=Int.emod_nonneg a (show n≠0 by omega)
 have h2:=Int.emod_lt_of_pos a h
 by_cases ha:0≤a
 ·rw [Int.tmod_eq_emod_of_nonneg ha,if_neg (by omega)]
 have e : Int.tmod a n = a % n - ((if 0 ≤ a ∨ n ∣ a then 0 else Int.natAbs n : Nat) : Int) := Int.tmod_eq_emod
 by_cases hd:n ∣ a
 ·rw [if_pos (.inr hd)] at e
  rw [e,if_neg (by omega)]
  congr 1
  omega
 rw [if_neg (by simp [hd]; omega)] at e
 have h3:a % n≠0:=fun h=>hd (Int.dvd_of_emod_eq_zero h)
 rw [e,if_pos (by omega),wrap_id (by omega) (by omega)]
 congr 1
 omega
theorem leO_le {α:Type} {f:Nat→Option α} (h:∀k,LeO (f k) (f (k+1))) {j k:Nat} (hk:j≤k) {r:α} (e:f j=some r):f k=some r:=by
 induction k with
 | zero => obtain rfl : j = 0 := by omega
           exact e
 | succ k ih=>
  by_cases hj:j=k+1
  ·subst hj;exact e
  exact h k _ (ih (by omega))
theorem within1_eq {a n:Int} (h:0 < n) (hn:n < 4611686018427387904):canopylaw1_within.f a n=some (a % n):=within_go h hn
abbrev SSym:=S46
def symOk (l:List SSym):Prop:=0 < l.length∧l.length≤7∧∀s∈l,s.f1=1∨s.f1=2∨s.f1=3
def sevenSyms:List SSym:=[⟨⟨#[97]⟩,1⟩,⟨⟨#[97]⟩,2⟩,⟨⟨#[98]⟩,3⟩,⟨⟨#[99]⟩,1⟩,⟨⟨#[99]⟩,2⟩,⟨⟨#[100]⟩,3⟩,⟨⟨#[120]⟩,2⟩]
def symsL (a:Int) (l:List Int):List SSym:=
 if a % 7=1 then [sevenSyms.getD 2 z46,sevenSyms.getD 1 z46,sevenSyms.getD 0 z46]
 else if a % 11=2∧0 < l.length then [sevenSyms.getD ((rd l 0) % 7).toNat z46]
 else sevenSyms.take (3+a % 5).toNat
theorem syms_eq (a:Int) (l:List Int) (hl:l.length≤maxLen):canopylaw1_Syms.f a l=some (symsL a l):=by
 have h5:=Int.emod_nonneg a (show (5:Int)≠0 by omega)
 have h5':=Int.emod_lt_of_pos a (show (0:Int) < 5 by omega)
 unfold canopylaw1_Syms.f
 rw [within1_eq (by omega) (by omega),within1_eq (by omega) (by omega),within1_eq (by omega) (by omega),within1_eq (by omega) (by omega)]
 simp only [Option.bind_some]
 rw [wrap_id (by omega) (by omega)]
 have e7:(List.length sevenSyms:Int)=7:=rfl
 change (if a % 7=1 then (if 2 < (sevenSyms.length:Int) then (if 1 < (sevenSyms.length:Int) then (if 0 < (sevenSyms.length:Int) then (some [sevenSyms.getD 2 z46,sevenSyms.getD 1 z46,sevenSyms.getD 0 z46]) else none) else none) else none) else (if a % 11=2 then (if (l.length:Int) > 0 then (if 0 < (l.length:Int) then (if 0≤(rd l 0) % 7 then (if (rd l 0) % 7 < (sevenSyms.length:Int) then (some [sevenSyms.getD ((rd l 0) % 7).toNat z46]) else none) else none) else none) else (if 0≤3+a % 5 then (if 3+a % 5≤(sevenSyms.length:Int) then (some (sevenSyms.take (3+a % 5).toNat)) else none) else none)) else (if 0≤3+a % 5 then (if 3+a % 5≤(sevenSyms.length:Int) then (some (sevenSyms.take (3+a % 5).toNat)) else none) else none)))=_
 rw [e7]
 unfold symsL
 have hr:=Int.emod_nonneg (rd l 0) (show (7:Int)≠0 by omega)
 have hr':=Int.emod_lt_of_pos (rd l 0) (show (0:Int) < 7 by omega)
 by_cases h7:a % 7=1
 ·rw [if_pos h7,if_pos h7,if_pos (by omega),if_pos (by omega),if_pos (by omega)]
 rw [if_neg h7, if_neg h7]
 by_cases h11:a % 11=2
 ·rw [if_pos h11]
  by_cases hl:0 < l.length
  ·rw [if_pos (show (l.length:Int) > 0 by omega),if_pos (show 0 < (l.length:Int) by omega),if_pos hr,if_pos hr',if_pos (show a % 11=2∧0 < l.length from⟨h11,hl⟩)]
  rw [if_neg (show ¬(l.length:Int) > 0 by omega),if_pos (show 0≤3+a % 5 by omega),if_pos (show 3+a % 5≤7 by omega),if_neg (show ¬(a % 11=2∧0 < l.length) from fun h=>hl h.2)]
 rw [if_neg h11,if_neg (show ¬(a % 11=2∧0 < l.length) from fun h=>h11 h.1),if_pos (show 0≤3+a % 5 by omega),if_pos (show 3+a % 5≤7 by omega)]
theorem symOk_of {l:List SSym} (h0:0 < l.length) (h1:l.length≤7) (h:∀s∈l,s∈sevenSyms):symOk l:=⟨h0,h1,fun s hs=>by
 have:=h s hs
 simp only [sevenSyms,List.mem_cons,List.not_mem_nil,or_false] at this
 rcases this with rfl|rfl|rfl|rfl|rfl|rfl|rfl<;>simp⟩
theorem symsL_ok (a:Int) (l:List Int):symOk (symsL a l):=by
 have h5:=Int.emod_nonneg a (show (5:Int)≠0 by omega)
 have h5':=Int.emod_lt_of_pos a (show (0:Int) < 5 by omega)
 have hr:=Int.emod_nonneg (rd l 0) (show (7:Int)≠0 by omega)
 have hr':=Int.emod_lt_of_pos (rd l 0) (show (0:Int) < 7 by omega)
 have e7:List.length sevenSyms=7:=rfl
 unfold symsL
 split
 ·exact symOk_of (by simp) (by simp) (fun s hs=>by
   simp only [List.mem_cons,List.not_mem_nil,or_false] at hs
   rcases hs with rfl|rfl|rfl<;>simp [sevenSyms])
 split
 ·refine symOk_of (by simp) (by simp) (fun s hs => ?_)
  simp only [List.mem_cons,List.not_mem_nil,or_false] at hs
  subst hs
  rw [List.getD_eq_getElem?_getD,List.getElem?_eq_getElem (by omega)]
  exact List.getElem_mem _
 exact symOk_of (by simp [e7];omega) (by simp [e7];omega) (fun s hs=>List.mem_of_mem_take hs)
theorem take_last (l:List Int) (i:Int) (h0:0≤i) (h1:i < l.length):l.take (i+1).toNat=l.take i.toNat ++ [rd l i]:=by
 have e:(i+1).toNat=i.toNat+1:=by omega
 have hi:i.toNat < l.length:=by omega
 rw [e,List.take_add_one,List.getElem?_eq_getElem hi]
 simp [rd,List.getD_eq_getElem?_getD,List.getElem?_eq_getElem hi]
def wordL (l:List SSym) (ns:List Int) (most:Int):List Int:=(ns.take most.toNat).map fun n=>n % l.length
theorem word_loop (l:List SSym) (hl:symOk l) (ns:List Int) (hns:ns.length≤maxLen) (most:Int) (hm:0≤most) (hm2:most≤1000):∀(d:Nat) (i:Int),0≤i→i≤most→i≤ns.length→most - i=d→∀acc,acc=(ns.take i.toNat).map (fun n=>n % (l.length:Int))→∀k,d < k→
 canopylaw1_Word.l0 k l ns most acc i=some (wordL l ns most)
 | d,i,h0,h1,h2,hd,acc,ha,k+1,hk=>by
  obtain⟨l0,l1,_⟩:=hl
  unfold canopylaw1_Word.l0
  have full:∀(h:most≤i∨(ns.length:Int)≤i),acc=wordL l ns most:=by
   intro h
   rw [ha,wordL]
   congr 1
   rcases h with h|h
   ·rw [show i=most by omega]
   rw [List.take_of_length_le (by omega),List.take_of_length_le (by omega)]
  by_cases c1:i < (ns.length:Int)
  ·rw [if_pos c1]
   by_cases c2:i < most
   ·rw [if_pos c2, if_pos h0, within1_eq (by omega) (by omega)]
    have hlen:acc.length≤1000:=by rw [ha];simp;omega
    simp only [Option.bind_some]
    rw [if_pos (by omega),wrap_id (by omega) (by omega)]
    obtain⟨d,rfl⟩:∃e,d=e+1:=⟨d - 1,by omega⟩
    exact word_loop l ⟨l0,l1,by assumption⟩ ns hns most hm hm2 d (i+1) (by omega) (by omega) (by omega) (by omega) _ (by rw [take_last ns i h0 c1,List.map_append,ha];rfl) k (by omega)
   rw [if_neg c2,full (.inl (by omega))]
  rw [if_neg c1,full (.inr (by omega))]
theorem word_eq {l:List SSym} (hl:symOk l) (ns:List Int) (hns:ns.length≤maxLen) (most:Int) (hm:0≤most) (hm2:most≤1000) (k:Nat) (hk:1001 < k):canopylaw1_Word.f k l ns most=some (wordL l ns most):=
 word_loop l hl ns hns most hm hm2 most.toNat 0 (by omega) hm (by omega) (by omega) _ (by simp) k (by omega)
theorem wordL_len (l:List SSym) (ns:List Int) (most:Int):(wordL l ns most).length≤most.toNat:=by simp [wordL];omega
theorem wordL_mem {l:List SSym} (hl:symOk l) {ns:List Int} {most x:Int} (h:x∈wordL l ns most):0≤x∧x < l.length:=by
 obtain⟨l0,l1,_⟩:=hl
 simp only [wordL,List.mem_map] at h
 obtain⟨n,_,rfl⟩:=h
 exact⟨Int.emod_nonneg _ (by omega),Int.emod_lt_of_pos _ (by omega)⟩
end Go.Proofs.Ytjkhdldgmkkhjaa.P
end
section
namespace Go.Proofs.Ytjkhdldgmkkhjaa.P
open Go.RowKit Go.Proofs.YtjkhdldgmkkhjaaW.PrintWords Go.Proofs.YtjkhdldgmkkhjaaW.PrintLast Go.Proofs.YtjkhdldgmkkhjaaW.PrintMore
theorem within3_eq {a n:Int} (h:0 < n) (hn:n < 4611686018427387904):canopylaw3_within.f a n=some (a % n):=within_go h hn
abbrev MOpen:=S52
abbrev MClose:=S54
abbrev MInner:=S56
def symKind (l:List SSym) (kind s:Int):Prop:=0≤s∧s < l.length∧(rd_T46 l s).f1=kind
theorem pick_loop {l:List SSym} (hl:symOk l) (kind n:Int) (hn:0≤n):∀(d:Nat) (i:Int),0≤i→i≤l.length→l.length - i=d→∀acc:List Int,acc.length≤i→(∀x∈acc,symKind l kind x)→∀k,d < k→
 ∃s,canopylaw3_pick.l0 k l kind n acc i=some s∧(s = -1∨symKind l kind s)
 | d,i,h0,h1,hd,acc,ha,hx,k+1,hk=>by
  have hl7:=hl.2.1
  unfold canopylaw3_pick.l0
  by_cases c1:i < (l.length:Int)
  ·obtain ⟨d, rfl⟩ : ∃ e, d = e + 1 := ⟨d - 1, by omega⟩
   rw [if_pos c1,if_pos h0,wrap_id (by omega) (by omega)]
   by_cases c2:(rd_T46 l i).f1=kind
   ·rw [if_pos c2, if_pos (by omega)]
    exact pick_loop hl kind n hn d (i+1) (by omega) (by omega) (by omega) _ (by simp;omega) (fun x hx2=>by
     rcases List.mem_append.1 hx2 with h|h
     ·exact hx x h
     rw [List.mem_singleton.1 h];exact⟨h0,c1,c2⟩) k (by omega)
   rw [if_neg c2]
   exact pick_loop hl kind n hn d (i+1) (by omega) (by omega) (by omega) _ (by omega) hx k (by omega)
  rw [if_neg c1]
  by_cases c2:(acc.length:Int)=0
  ·rw [if_pos c2];exact⟨_,rfl,.inl rfl⟩
  rw [if_neg c2, Int.tmod_eq_emod_of_nonneg hn]
  have e0:=Int.emod_nonneg n c2
  have e1:=Int.emod_lt_of_pos n (show (0:Int) < acc.length by omega)
  rw [if_pos e0,if_pos e1]
  refine⟨_,rfl,.inr (hx _ ?_)⟩
  unfold rd
  rw [List.getD_eq_getElem?_getD,List.getElem?_eq_getElem (by omega)]
  exact List.getElem_mem _
def pickL (l:List SSym) (kind n:Int):Int:=(canopylaw3_pick.f 100 l kind n).getD (-1)
theorem pick_eq {l:List SSym} (hl:symOk l) (kind n:Int) (hn:0≤n) (k:Nat) (hk:100≤k):canopylaw3_pick.f k l kind n=some (pickL l kind n):=by
 obtain⟨s,h,_⟩:=pick_loop hl kind n hn l.length 0 (by omega) (by omega) (by omega) [] (by simp) (by simp) 100 (by have:=hl.2.1;omega)
 have h' : canopylaw3_pick.f 100 l kind n=some s:=h
 rw [leO_le (f:=fun k=>canopylaw3_pick.f k l kind n) (fun k=>canopylaw3_pick.mono l kind n k) hk h',pickL,h'];rfl
theorem pick_ok {l:List SSym} (hl:symOk l) (kind n:Int) (hn:0≤n):pickL l kind n = -1∨symKind l kind (pickL l kind n):=by
 obtain⟨s,h,h2⟩:=pick_loop hl kind n hn l.length 0 (by omega) (by omega) (by omega) [] (by simp) (by simp) 100 (by have:=hl.2.1;omega)
 have h' : canopylaw3_pick.f 100 l kind n=some s:=h
 rw [pickL,h'];exact h2
structure MSt where
 i:List Int
 f:List Int
 o:List MOpen
 c:List MClose
 n:List MInner
def mkT (l:List SSym) (N G:Int) (st:MSt) (t:Int):MSt:=
 if t % 8=0 then ⟨st.i ++ [t / 8 % N],st.f,st.o,st.c,st.n⟩
 else if t % 8=1 then ⟨st.i,st.f ++ [t / 8 % N],st.o,st.c,st.n⟩
 else if t % 8=2∨t % 8=3 then (if 0≤pickL l 1 (t / 800 % 7) then ⟨st.i,st.f,st.o ++ [⟨t / 8 % N,pickL l 1 (t / 800 % 7),t / 80 % N,1+t / 8000 % G⟩],st.c,st.n⟩ else st)
 else if t % 8=4∨t % 8=5 then (if 0≤pickL l 2 (t / 800 % 7) then ⟨st.i,st.f,st.o,st.c ++ [⟨t / 8 % N,pickL l 2 (t / 800 % 7),t / 8000 % (G+1),t / 80 % N⟩],st.n⟩ else st)
 else if 0≤pickL l 3 (t / 800 % 7) then ⟨st.i,st.f,st.o,st.c,st.n ++ [⟨t / 8 % N,pickL l 3 (t / 800 % 7),t / 80 % N⟩]⟩ else st
def mkOne (l:List SSym) (N G:Int) (st:MSt) (x:Int):MSt:=mkT l N G st (x % 1099511627776)
def mkAll (l:List SSym) (N G:Int) (ns:List Int):MSt:=(ns.take 24).foldl (mkOne l N G) ⟨[],[],[],[],[]⟩
structure MkInv (l:List SSym) (N G:Int) (st:MSt):Prop where
 i:∀x∈st.i,0≤x∧x < N
 f:∀x∈st.f,0≤x∧x < N
 o:∀r∈st.o,(0≤r.f0∧r.f0 < N)∧symKind l 1 r.f1∧(0≤r.f2∧r.f2 < N)∧1≤r.f3∧r.f3≤G
 c:∀r∈st.c,(0≤r.f0∧r.f0 < N)∧symKind l 2 r.f1∧(0≤r.f2∧r.f2≤G)∧0≤r.f3∧r.f3 < N
 n:∀r∈st.n,(0≤r.f0∧r.f0 < N)∧symKind l 3 r.f1∧0≤r.f2∧r.f2 < N
def MkLen (st:MSt) (n:Nat):Prop:=st.i.length≤n∧st.f.length≤n∧st.o.length≤n∧st.c.length≤n∧st.n.length≤n
theorem emod_in {a N:Int} (h:0 < N):0≤a % N∧a % N < N:=⟨Int.emod_nonneg _ (by omega),Int.emod_lt_of_pos _ h⟩
theorem mem_snoc {α:Type} {P:α→Prop} {l:List α} {y:α} (h:∀x∈l,P x) (hy:P y):∀x∈l ++ [y],P x:=fun x hx=>by
 rcases List.mem_append.1 hx with h1|h1
 ·exact h x h1
 rw [List.mem_singleton.1 h1];exact hy
theorem mkOne_inv {l:List SSym} (hl:symOk l) {N G:Int} (hN:0 < N) (hG:0 < G) {st:MSt} (h:MkInv l N G st) (x:Int):MkInv l N G (mkOne l N G st x):=by
 have hp:∀kind,0≤pickL l kind (x % 1099511627776 / 800 % 7)→symKind l kind (pickL l kind (x % 1099511627776 / 800 % 7)):=fun kind h0=>by
  rcases pick_ok hl kind (x % 1099511627776 / 800 % 7) (by omega) with h|h
  ·omega
  exact h
 have hG1:=emod_in (a:=x % 1099511627776 / 8000) hG
 have hG2:=emod_in (a:=x % 1099511627776 / 8000) (show 0 < G+1 by omega)
 unfold mkOne mkT
 split
 ·exact⟨mem_snoc h.i (emod_in hN),h.f,h.o,h.c,h.n⟩
 split
 ·exact⟨h.i,mem_snoc h.f (emod_in hN),h.o,h.c,h.n⟩
 split
 ·split
  ·exact⟨h.i,h.f,mem_snoc h.o ⟨emod_in hN,hp 1 (by assumption),emod_in hN,by show 1≤1+_;omega,by show 1+_≤G;omega⟩,h.c,h.n⟩
  exact h
 split
 ·split
  ·exact⟨h.i,h.f,h.o,mem_snoc h.c ⟨emod_in hN,hp 2 (by assumption),⟨hG2.1,by show _ % _≤G;omega⟩,emod_in hN⟩,h.n⟩
  exact h
 split
 ·exact⟨h.i,h.f,h.o,h.c,mem_snoc h.n ⟨emod_in hN,hp 3 (by assumption),emod_in hN⟩⟩
 exact h
theorem mkOne_len {l:List SSym} {N G:Int} {st:MSt} {n:Nat} (h:MkLen st n) (x:Int):MkLen (mkOne l N G st x) (n+1):=by
 obtain⟨h1,h2,h3,h4,h5⟩:=h
 unfold mkOne mkT
 repeat' split
 all_goals (refine⟨?_,?_,?_,?_,?_⟩<;>(try simp only [List.length_append,List.length_cons,List.length_nil])<;>omega)
theorem foldl_inv {l:List SSym} (hl:symOk l) {N G:Int} (hN:0 < N) (hG:0 < G):∀(ns:List Int) {st:MSt} {n:Nat},MkInv l N G st→MkLen st n→MkInv l N G (ns.foldl (mkOne l N G) st)∧MkLen (ns.foldl (mkOne l N G) st) (n+ns.length)
 | [],_,_,h,h2=>⟨h,h2⟩
 | x :: ns,st,n,h,h2=>by
  have:=foldl_inv hl hN hG ns (mkOne_inv hl hN hG h x) (mkOne_len (l:=l) (N:=N) (G:=G) h2 x)
  rw [List.length_cons,show n+(ns.length+1)=n+1+ns.length by omega]
  exact this
theorem mkAll_inv {l:List SSym} (hl:symOk l) {N G:Int} (hN:0 < N) (hG:0 < G) (ns:List Int):MkInv l N G (mkAll l N G ns)∧MkLen (mkAll l N G ns) 24:=by
 have h:=foldl_inv hl hN hG (ns.take 24) (st:=⟨[],[],[],[],[]⟩) (n:=0) ⟨by simp,by simp,by simp,by simp,by simp⟩ ⟨by simp,by simp,by simp,by simp,by simp⟩
 refine⟨h.1,?_⟩
 obtain⟨_,h1,h2,h3,h4,h5⟩:=h
 have:(ns.take 24).length≤24:=by simp;omega
 unfold mkAll
 exact⟨by omega,by omega,by omega,by omega,by omega⟩
def mkFin (N G:Int) (st:MSt):Int × Int × List Int × List Int × List MOpen × List MClose × List MInner:=(N,G,(if (st.i.length:Int)=0 then [0] else st.i),st.f,st.o,st.c,st.n)
def makeN (size most:Int):Int:=1+size % most
def makeG (size:Int):Int:=1+wrap64 (Int.tdiv size 7) % 2
theorem makeN_in (size:Int) {most:Int} (h:0 < most):1≤makeN size most∧makeN size most≤most:=by
 have:=emod_in (a:=size) h
 unfold makeN
 omega
theorem makeG_in (size:Int):1≤makeG size∧makeG size≤2:=by
 have:=emod_in (a:=wrap64 (Int.tdiv size 7)) (show (0:Int) < 2 by omega)
 unfold makeG
 omega
end Go.Proofs.Ytjkhdldgmkkhjaa.P
end
