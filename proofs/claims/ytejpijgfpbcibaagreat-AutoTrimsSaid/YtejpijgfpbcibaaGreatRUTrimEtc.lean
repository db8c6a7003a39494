/- Words and walks of this claim: UTrim, UOut, SRefTakes. -/
import Derived.Test.YtejpijgfpbcibaaGreatRSRound
import Derived.Test.YtejpijgfpbcibaaGreatRSCheck
import Derived.Test.YtejpijgfpbcibaaGreatRP0Etc
import Derived.Test.YtejpijgfpbcibaaGreatRMHasEtc
import Derived.Test.YtejpijgfpbcibaaGreatRSTkRef
set_option linter.unusedVariables false
set_option linter.unusedSimpArgs false
set_option linter.unnecessarySimpa false
section
namespace Go.Proofs.YtejpijgfpbcibaaGreat.P
open Go.RowKit Go.Proofs.YtejpijgfpbcibaaGreatW.PrintWords Go.Proofs.YtejpijgfpbcibaaGreatW.PrintLast Go.Proofs.YtejpijgfpbcibaaGreatW.PrintMore Go.Proofs.YtejpijgfpbcibaaGreat.M
def numR:List Bool→Int→List Int × Int
 | [],n=>([],n)
 | true :: l,n=>(n :: (numR l (wrap64 (n+1))).1,(numR l (wrap64 (n+1))).2)
 | false :: l,n=>(0 :: (numR l n).1,(numR l n).2)
theorem numR_len:∀(l:List Bool) (n:Int),(numR l n).1.length=l.length
 | [],n=>rfl
 | true :: l,n=>by simp [numR,numR_len l]
 | false :: l,n=>by simp [numR,numR_len l]
theorem numbers_go (len:Nat) (hlen:len≤1000000000):∀(suf pre:List Bool) (done:List Int) (n:Int) (k:Nat),done.length=pre.length→pre.length+suf.length=len→suf.length < k→
 auto_numbers.l0 k (done ++ List.replicate suf.length 0) n (pre ++ suf) (len:Int) (pre.length:Int)=some (done ++ (numR suf n).1,(numR suf n).2)
 | [],pre,done,n,k+1,h1,h2,h3=>by
  unfold auto_numbers.l0
  rw [if_neg (by simp at h2;omega)]
  simp [numR]
 | b :: suf,pre,done,n,k+1,h1,h2,h3=>by
  simp only [List.length_cons] at h2 h3
  unfold auto_numbers.l0
  rw [if_pos (by omega),if_pos (by omega),if_pos (by simp;omega)]
  have e1:rdOf false (pre ++ b :: suf) (pre.length:Int)=b:=by
   unfold rdOf
   simp [List.getD_eq_getElem?_getD]
  have e2:wrap64 ((pre.length:Int)+1)=(((pre ++ [b]).length:Nat):Int):=by rw [List.length_append];simp only [List.length_cons,List.length_nil];unfold wrap64;omega
  have e3:pre ++ b :: suf=(pre ++ [b]) ++ suf:=by simp
  rw [e1]
  cases b with
  | true=>
   rw [if_pos rfl,if_pos (by simp;omega),e2,e3]
   have e4:(done ++ List.replicate (true :: suf).length 0).set (pre.length:Int).toNat n=(done ++ [n]) ++ List.replicate suf.length 0:=by
    rw [Int.toNat_natCast,←h1,List.set_append_right _ _ (Nat.le_refl _)]
    simp [List.replicate_succ]
   rw [e4,numbers_go len hlen suf (pre ++ [true]) (done ++ [n]) (wrap64 (n+1)) k (by simp [h1]) (by simp;omega) (by omega)]
   simp [numR]
  | false=>
   rw [if_neg (by decide),e2,e3]
   have e4:done ++ List.replicate (false :: suf).length 0=(done ++ [0]) ++ List.replicate suf.length (0:Int):=by simp [List.replicate_succ]
   rw [e4,numbers_go len hlen suf (pre ++ [false]) (done ++ [0]) n k (by simp [h1]) (by simp;omega) (by omega)]
   simp [numR]
theorem numbers_f (l:List Bool) (n:Int) (hl:l.length≤1000000000):auto_numbers.f (l.length+1) l n=some (numR l n):=by
 unfold auto_numbers.f
 rw [if_pos (by omega),if_pos (by omega),Int.toNat_natCast]
 have:=numbers_go l.length hl l [] [] n (l.length+1) rfl (by simp) (by omega)
 simpa using this
def offN (l:List Bool):Nat:=l.countP fun b=>!b
theorem off_set {l:List Bool} {k:Nat} (h:k < l.length) (hb:l[k]=false):offN (l.set k true) < offN l:=by
 induction l generalizing k with
 | nil=>simp at h
 | cons b l ih=>
  cases k with
  | zero=>
   simp at hb
   subst hb
   simp [offN]
  | succ k=>
   simp at h hb
   have:=ih h hb
   unfold offN at this ⊢
   simp only [List.set_cons_succ,List.countP_cons]
   omega
theorem off_lay (l:List Bool) (k:Int):offN (layL l k)+(if layB l k=true then 1 else 0)≤offN l:=by
 unfold layL
 split
 ·rename_i h
  have h2:=h
  unfold layB rdOf at h2
  simp only [Bool.and_eq_true,decide_eq_true_eq,Bool.not_eq_true'] at h2
  obtain⟨h3,h4,h5⟩:=h2
  have hk:k.toNat < l.length:=by omega
  rw [List.getD_eq_getElem?_getD,List.getElem?_eq_getElem hk] at h5
  have:=off_set hk h5
  omega
 simp
def unset (s:TS):Nat:=offN s.st+offN s.mr
def less (s s' : TS):Prop:=unset s'≤unset s∧(s'.gr=true→s.gr=true∨unset s' < unset s)
theorem less.refl (s:TS):less s s:=⟨Nat.le_refl _,Or.inl⟩
theorem less.trans {a b c:TS} (h:less a b) (k:less b c):less a c:=⟨Nat.le_trans k.1 h.1,fun hc=>by
 rcases k.2 hc with hb|hb
 ·rcases h.2 hb with ha | ha
  ·exact .inl ha
  exact .inr (Nat.lt_of_le_of_lt k.1 ha)
 exact .inr (Nat.lt_of_lt_of_le hb h.1)⟩
theorem less_stepO (s:TS) (r:TOpen):less s (stepO s r):=by
 unfold stepO
 split
 ·have h1 := off_lay s.st r.f2
  have h2:=off_lay s.mr r.f3
  refine⟨by simp only [unset];split at h1<;>split at h2<;>omega,fun h=>?_⟩
  simp only [Bool.or_eq_true] at h
  rcases h with h|h|h
  ·rw [if_pos h] at h2
   right;simp only [unset];split at h1<;>omega
  ·rw [if_pos h] at h1
   right;simp only [unset];split at h2<;>omega
  exact .inl h
 exact less.refl s
theorem less_stepC (s:TS) (r:TClose):less s (stepC s r):=by
 unfold stepC
 split
 ·have h1 := off_lay s.st r.f3
  refine⟨by simp only [unset];split at h1<;>omega,fun h=>?_⟩
  simp only [Bool.or_eq_true] at h
  rcases h with h|h
  ·rw [if_pos h] at h1
   right;simp only [unset];omega
  exact .inl h
 exact less.refl s
theorem less_stepI (s:TS) (r:TInner):less s (stepI s r):=by
 unfold stepI
 split
 ·have h1 := off_lay s.st r.f2
  refine⟨by simp only [unset];split at h1<;>omega,fun h=>?_⟩
  simp only [Bool.or_eq_true] at h
  rcases h with h|h
  ·rw [if_pos h] at h1
   right;simp only [unset];omega
  exact .inl h
 exact less.refl s
theorem less_fold {α:Type} (f:TS→α→TS) (h:∀s r,less s (f s r)):∀(l:List α) (s:TS),less s (l.foldl f s)
 | [],s=>less.refl s
 | r :: l,s=>(h s r).trans (less_fold f h l (f s r))
theorem less_round (s:TS) (o:List TOpen) (c:List TClose) (p:List TInner):less s (roundL s o c p):=
 ((less_fold stepO less_stepO o s).trans (less_fold stepC less_stepC c _)).trans (less_fold stepI less_stepI p _)
def again (s:TS) (o:List TOpen) (c:List TClose) (p:List TInner):TS:=roundL ⟨s.st,s.mr,false⟩ o c p
def meas (s:TS):Nat:=2*unset s+(if s.gr=true then 1 else 0)
theorem meas_again {s:TS} (h:s.gr=true) (o:List TOpen) (c:List TClose) (p:List TInner):meas (again s o c p) < meas s:=by
 have hl:=less_round ⟨s.st,s.mr,false⟩ o c p
 have hu:unset (⟨s.st,s.mr,false⟩:TS)=unset s:=rfl
 unfold less at hl
 rw [hu] at hl
 unfold meas
 rw [if_pos h]
 unfold again
 split
 ·rename_i hg
  rcases hl.2 hg with h2|h2
  ·cases h2
  omega
 have := hl.1
 omega
def trimK (o:List TOpen) (c:List TClose) (p:List TInner):Nat→TS→TS
 | 0,s=>s
 | k+1,s=>if s.gr=true then trimK o c p k (again s o c p) else s
theorem trimK_more (o:List TOpen) (c:List TClose) (p:List TInner):∀(k j:Nat) (s:TS),meas s≤k→meas s≤j→trimK o c p k s=trimK o c p j s
 | 0,0,s,_,_=>rfl
 | 0,j+1,s,h,_=>by
  have hg:¬s.gr=true:=fun hg=>by unfold meas at h;rw [if_pos hg] at h;omega
  show s=if s.gr=true then _ else s
  rw [if_neg hg]
 | k+1,0,s,_,h=>by
  have hg:¬s.gr=true:=fun hg=>by unfold meas at h;rw [if_pos hg] at h;omega
  show (if s.gr=true then _ else s)=s
  rw [if_neg hg]
 | k+1,j+1,s,h1,h2=>by
  show (if s.gr=true then _ else s)=if s.gr=true then _ else s
  by_cases hg:s.gr=true
  ·rw [if_pos hg, if_pos hg]
   have:=meas_again hg o c p
   exact trimK_more o c p k j _ (by omega) (by omega)
  rw [if_neg hg,if_neg hg]
def trimF (s:TS) (o:List TOpen) (c:List TClose) (p:List TInner):TS:=trimK o c p (meas s) s
theorem trimF_go {s:TS} (h:s.gr=true) (o:List TOpen) (c:List TClose) (p:List TInner):trimF (again s o c p) o c p=trimF s o c p:=by
 have:=meas_again h o c p
 unfold trimF
 obtain⟨k,hk⟩:∃k,meas s=k+1:=⟨meas s - 1,by omega⟩
 rw [hk]
 show _=if s.gr=true then _ else s
 rw [if_pos h]
 exact trimK_more o c p _ _ _ (Nat.le_refl _) (by omega)
theorem trimF_end {s:TS} (h:s.gr=false) (o:List TOpen) (c:List TClose) (p:List TInner):trimF s o c p=s:=by
 unfold trimF
 cases meas s with
 | zero=>rfl
 | succ k=>show (if s.gr=true then _ else s)=s;rw [if_neg (by rw [h];decide)]
theorem len_stepO (s:TS) (r:TOpen):(stepO s r).st.length=s.st.length∧(stepO s r).mr.length=s.mr.length:=by
 unfold stepO;split<;>simp [layL_len]
theorem len_stepC (s:TS) (r:TClose):(stepC s r).st.length=s.st.length∧(stepC s r).mr.length=s.mr.length:=by
 unfold stepC;split<;>simp [layL_len]
theorem len_stepI (s:TS) (r:TInner):(stepI s r).st.length=s.st.length∧(stepI s r).mr.length=s.mr.length:=by
 unfold stepI;split<;>simp [layL_len]
theorem len_fold {α:Type} (f:TS→α→TS) (h:∀s r,(f s r).st.length=s.st.length∧(f s r).mr.length=s.mr.length):∀(l:List α) (s:TS),(l.foldl f s).st.length=s.st.length∧(l.foldl f s).mr.length=s.mr.length
 | [],s=>⟨rfl,rfl⟩
 | r :: l,s=>⟨(len_fold f h l _).1.trans (h s r).1,(len_fold f h l _).2.trans (h s r).2⟩
theorem len_round (s:TS) (o:List TOpen) (c:List TClose) (p:List TInner):(roundL s o c p).st.length=s.st.length∧(roundL s o c p).mr.length=s.mr.length:=
 ⟨((len_fold stepI len_stepI p _).1.trans (len_fold stepC len_stepC c _).1).trans (len_fold stepO len_stepO o s).1,((len_fold stepI len_stepI p _).2.trans (len_fold stepC len_stepC c _).2).trans (len_fold stepO len_stepO o s).2⟩
theorem len_trimK (o:List TOpen) (c:List TClose) (p:List TInner):∀(k:Nat) (s:TS),(trimK o c p k s).st.length=s.st.length∧(trimK o c p k s).mr.length=s.mr.length
 | 0,s=>⟨rfl,rfl⟩
 | k+1,s=>by
  show (if s.gr=true then _ else s).st.length=_∧(if s.gr=true then _ else s).mr.length=_
  by_cases hg:s.gr=true
  ·rw [if_pos hg]
   exact⟨(len_trimK o c p k _).1.trans (len_round _ o c p).1,(len_trimK o c p k _).2.trans (len_round _ o c p).2⟩
  rw [if_neg hg];exact⟨rfl,rfl⟩
def initS (n g:Int) (i:List Int):TS:=⟨i.foldl (fun l k=>l.set k.toNat true) (List.replicate n.toNat false),List.replicate (g+1).toNat false,true⟩
def rdB (l:List Bool) (k:Int):Bool:=rdOf false l k
def rdI (l:List Int) (k:Int):Int:=rdOf 0 l k
def trimO (st:List Bool) (ns gs:List Int) (l:List TOpen):List TOpen:=(l.filter fun r=>rdB st r.f0).map fun r=>⟨rdI ns r.f0,r.f1,rdI ns r.f2,rdI gs r.f3⟩
def trimC (st mk:List Bool) (ns gs:List Int) (l:List TClose):List TClose:=(l.filter fun r=>rdB st r.f0 && (decide (r.f2=0) || rdB mk r.f2)).map fun r=>⟨rdI ns r.f0,r.f1,rdI gs r.f2,rdI ns r.f3⟩
def trimI (st:List Bool) (ns:List Int) (l:List TInner):List TInner:=(l.filter fun r=>rdB st r.f0).map fun r=>⟨rdI ns r.f0,r.f1,rdI ns r.f2⟩
end Go.Proofs.YtejpijgfpbcibaaGreat.P
end
section
namespace Go.Proofs.YtejpijgfpbcibaaGreat.P
open Go.RowKit Go.Proofs.YtejpijgfpbcibaaGreatW.PrintWords Go.Proofs.YtejpijgfpbcibaaGreatW.PrintLast Go.Proofs.YtejpijgfpbcibaaGreatW.PrintMore Go.Proofs.YtejpijgfpbcibaaGreat.M
theorem numbers_n (A:Option Addr) (c m:Nat) (l:List Bool) (a:Int) (w:World) (hn:m=l.length) (hr:Kd.C Kd.bool w A l.length l) (hc:m≤c) (hl:l.length≤1000000000) :
 Calls Tryz.prog 37 #[.slice A m c,.int .i64 a] w fun e w'=>∃v0_:Value,e=.returned (.tuple #[v0_,.int .i64 (numR l a).2])∧Kd.R (Kd.int .i64) 3 w' w.heap.size (fun _=>True) v0_ (numR l a).1∧Below w.heap.size w w':=by
 subst hn
 exact auto_numbers.calls (l.length+1) A c l a _ _ w hr hc (numbers_f l a hl)
theorem rowN_form {w:World} {base:Nat} {ok:Nat→Prop} {v:Value} {xs:List Int} (h:Kd.R (Kd.int .i64) 3 w base ok v xs) {m:Nat} (hm:xs.length=m):∃A c,v=.slice A m c:=by
 subst hm
 exact Kd.R_slice h
theorem num_at {w:World} {A:Option Addr} {xs:List Int} {n:Nat} (h:Kd.C (Kd.int .i64) w A n xs) (x:Int) (h0:0≤x) (h1:x < (xs.length:Int)):∃ad,A=some ad∧w.cell? (ad.add x.toNat)=some (.int .i64 (rdI xs x)):=by
 obtain⟨ad,e,hc⟩:=int_at h x.toNat (by omega)
 refine⟨ad,e,hc.trans ?_⟩
 unfold rdI rdOf
 rw [List.getD_eq_getElem?_getD,List.getElem?_eq_getElem (show x.toNat < xs.length by omega)]
 rfl
theorem filter_next {α:Type} (p:α→Bool) (l:List α) (i:Nat) (h:i < l.length):(l.take (i+1)).filter p=(l.take i).filter p ++ (if p l[i]=true then [l[i]] else []):=by
 rw [List.take_add_one,List.getElem?_eq_getElem h,List.filter_append]
 congr 1
 show List.filter p [l[i]]=_
 cases hp:p l[i]<;>simp [hp]
end Go.Proofs.YtejpijgfpbcibaaGreat.P
end
section
namespace Go.Proofs.YtejpijgfpbcibaaGreat.P
open Go.RowKit Go.Proofs.YtejpijgfpbcibaaGreatW.PrintWords Go.Proofs.YtejpijgfpbcibaaGreatW.PrintLast Go.Proofs.YtejpijgfpbcibaaGreatW.PrintMore Go.Proofs.YtejpijgfpbcibaaGreat.M
def canopyref4_Takes.f (l0:List TSym) (a1_0 a1_1:Int) (l1_2 l1_3:List Int) (l1_4:List TOpen) (l1_5:List TClose) (l1_6:List TInner) (l2:List Int):Option Bool:=
 if l0.length≤1000000∧l1_2.length≤1000000∧l1_3.length≤1000000∧l1_4.length≤1000000∧l1_5.length≤1000000∧l1_6.length≤1000000∧l2.length≤1000000 then some (takesR a1_0 l0 l1_2 l1_3 l1_4 l1_5 l1_6 l2) else none
theorem canopyref4_Takes.calls (A0:Option Addr) (c0:Nat) (l0:List TSym) (a1_0 a1_1:Int) (A1_2:Option Addr) (c1_2:Nat) (l1_2:List Int) (A1_3:Option Addr) (c1_3:Nat) (l1_3:List Int) (A1_4:Option Addr) (c1_4:Nat) (l1_4:List TOpen) (A1_5:Option Addr) (c1_5:Nat) (l1_5:List TClose) (A1_6:Option Addr) (c1_6:Nat) (l1_6:List TInner) (A2:Option Addr) (c2:Nat) (l2:List Int) (r:Bool) (w:World)
 (hr0:Kd.C k51 w A0 l0.length l0) (hc0:l0.length≤c0) (hr1_2:Kd.C (Kd.int .i64) w A1_2 l1_2.length l1_2) (hc1_2:l1_2.length≤c1_2) (hr1_3:Kd.C (Kd.int .i64) w A1_3 l1_3.length l1_3) (hc1_3:l1_3.length≤c1_3) (hr1_4:Kd.C k36 w A1_4 l1_4.length l1_4) (hc1_4:l1_4.length≤c1_4) (hr1_5:Kd.C k38 w A1_5 l1_5.length l1_5) (hc1_5:l1_5.length≤c1_5) (hr1_6:Kd.C k40 w A1_6 l1_6.length l1_6) (hc1_6:l1_6.length≤c1_6) (hr2:Kd.C (Kd.int .i64) w A2 l2.length l2) (hc2:l2.length≤c2)
 (h:canopyref4_Takes.f l0 a1_0 a1_1 l1_2 l1_3 l1_4 l1_5 l1_6 l2=some r) :
 Calls Tryz.prog 27 #[.slice A0 l0.length c0,.agg #[.int .i64 a1_0,.int .i64 a1_1,.slice A1_2 l1_2.length c1_2,.slice A1_3 l1_3.length c1_3,.slice A1_4 l1_4.length c1_4,.slice A1_5 l1_5.length c1_5,.slice A1_6 l1_6.length c1_6],.slice A2 l2.length c2] w fun e w'=>e=.returned (.bool r)∧Below w.heap.size w w':=by
 unfold canopyref4_Takes.f at h
 split at h
 case isFalse=>cases h
 rename_i hs
 obtain⟨s0,s1,s2,s3,s4,s5,s6⟩:=hs
 obtain rfl:=Option.some.inj h
 exact reftk_own a1_0 a1_1 A0 c0 l0 A1_2 c1_2 l1_2 A1_3 c1_3 l1_3 A1_4 c1_4 l1_4 A1_5 c1_5 l1_5 A1_6 c1_6 l1_6 A2 c2 l2 w hr0 hc0 s0 hr1_2 hc1_2 s1 hr1_3 hc1_3 s2 hr1_4 hc1_4 s3 hr1_5 hc1_5 s4 hr1_6 hc1_6 s5 hr2 hc2 s6
end Go.Proofs.YtejpijgfpbcibaaGreat.P
end
