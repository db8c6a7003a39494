/- Words and walks of this claim: UTrim, UOut, SRefNorm. -/
import Derived.Test.YtejpijgfpbcibaaGreatQSRound
import Derived.Test.YtejpijgfpbcibaaGreatQSCheck
import Derived.Test.YtejpijgfpbcibaaGreatQP0Etc
import Derived.Test.YtejpijgfpbcibaaGreatQMHasEtc
import Derived.Test.YtejpijgfpbcibaaGreatQSNormRef
import Derived.Test.YtejpijgfpbcibaaGreatQSNorm
set_option linter.unusedVariables false
set_option linter.unusedSimpArgs false
set_option linter.unnecessarySimpa false
section
namespace Go.Proofs.YtejpijgfpbcibaaGreat.P
open Go.RowKit Go.Proofs.YtejpijgfpbcibaaGreatW.PrintWords Go.Proofs.YtejpijgfpbcibaaGreatW.PrintLast Go.Proofs.YtejpijgfpbcibaaGreatW.PrintMore Go.Proofs.YtejpijgfpbcibaaGreat.M
def numR:List Bool→Int→List Int × Int
 | [],n=>([],n)
 | true :: l,n=>(n :: (numR l (wrap64 (n+1))).1,(numR l (wrap64 (n+1))).2)
 | false :: l,n=>(0 :: (numR l n).1,(numR l n).2)
theorem numR_len:∀(l:List Bool) (n:Int),(numR l n).1.length=l.length
 | [],n=>rfl
 | true :: l,n=>by simp [numR,numR_len l]
 | false :: l,n=>by simp [numR,numR_len l]
theorem numbers_go (len:Nat) (hlen:len≤1000000000):∀(suf pre:List Bool) (done:List Int) (n:Int) (k:Nat),done.length=pre.length→pre.length+suf.length=len→suf.length < k→
 auto_numbers.l0 k (done ++ List.replicate suf.length 0) n (pre ++ suf) (len:Int) (pre.length:Int)=some (done ++ (numR suf n).1,(numR suf n).2)
 | [],pre,done,n,k+1,h1,h2,h3=>by
  unfold auto_numbers.l0
  rw [if_neg (by simp at h2;omega)]
  simp [numR]
 | b :: suf,pre,done,n,k+1,h1,h2,h3=>by
  simp only [List.length_cons] at h2 h3
  unfold auto_numbers.l0
  rw [if_pos (by omega),if_pos (by omega),if_pos (by simp;omega)]
  have e1:rdOf false (pre ++ b :: suf) (pre.length:Int)=b:=by
   unfold rdOf
   simp [List.getD_eq_getElem?_getD]
  have e2:wrap64 ((pre.length:Int)+1)=(((pre ++ [b]).length:Nat):Int):=by rw [List.length_append];simp only [List.length_cons,List.length_nil];unfold wrap64;omega
  have e3:pre ++ b :: suf=(pre ++ [b]) ++ suf:=by simp
  rw [e1]
  cases b with
  | true=>
   rw [if_pos rfl,if_pos (by simp;omega),e2,e3]
   have e4:(done ++ List.replicate (true :: suf).length 0).set (pre.length:Int).toNat n=(done ++ [n]) ++ List.replicate suf.length 0:=by
    rw [Int.toNat_natCast,←h1,List.set_append_right _ _ (Nat.le_refl _)]
    simp [List.replicate_succ]
   rw [e4,numbers_go len hlen suf (pre ++ [true]) (done ++ [n]) (wrap64 (n+1)) k (by simp [h1]) (by simp;omega) (by omega)]
   simp [numR]
  | false=>
   rw [if_neg (by decide),e2,e3]
   have e4:done ++ List.replicate (false :: suf).length 0=(done ++ [0]) ++ List.replicate suf.length (0:Int):=by simp [List.replicate_succ]
   rw [e4,numbers_go len hlen suf (pre ++ [false]) (done ++ [0]) n k (by simp [h1]) (by simp;omega) (by omega)]
   simp [numR]
theorem numbers_f (l:List Bool) (n:Int) (hl:l.length≤1000000000):auto_numbers.f (l.length+1) l n=some (numR l n):=by
 unfold auto_numbers.f
 rw [if_pos (by omega),if_pos (by omega),Int.toNat_natCast]
 have:=numbers_go l.length hl l [] [] n (l.length+1) rfl (by simp) (by omega)
 simpa using this
def offN (l:List Bool):Nat:=l.countP fun b=>!b
theorem off_set {l:List Bool} {k:Nat} (h:k < l.length) (hb:l[k]=false):offN (l.set k true) < offN l:=by
 induction l generalizing k with
 | nil=>simp at h
 | cons b l ih=>
  cases k with
  | zero=>
   simp at hb
   subst hb
   simp [offN]
  | succ k=>
   simp at h hb
   have:=ih h hb
   unfold offN at this ⊢
   simp only [List.set_cons_succ,List.countP_cons]
   omega
theorem off_lay (l:List Bool) (k:Int):offN (layL l k)+(if layB l k=true then 1 else 0)≤offN l:=by
 unfold layL
 split
 ·rename_i h
  have h2:=h
  unfold layB rdOf at h2
  simp only [Bool.and_eq_true,decide_eq_true_eq,Bool.not_eq_true'] at h2
  obtain⟨h3,h4,h5⟩:=h2
  have hk:k.toNat < l.length:=by omega
  rw [List.getD_eq_getElem?_getD,List.getElem?_eq_getElem hk] at h5
  have:=off_set hk h5
  omega
 simp
def unset (s:TS):Nat:=offN s.st+offN s.mr
def less (s s' : TS):Prop:=unset s'≤unset s∧(s'.gr=true→s.gr=true∨unset s' < unset s)
theorem less.refl (s:TS):less s s:=⟨Nat.le_refl _,Or.inl⟩
theorem less.trans {a b c:TS} (h:less a b) (k:less b c):less a c:=⟨Nat.le_trans k.1 h.1,fun hc=>by
 rcases k.2 hc with hb|hb
 ·rcases h.2 hb with ha | ha
  ·exact .inl ha
  exact .inr (Nat.lt_of_le_of_lt k.1 ha)
 exact .inr (Nat.lt_of_lt_of_le hb h.1)⟩
theorem less_stepO (s:TS) (r:TOpen):less s (stepO s r):=by
 unfold stepO
 split
 ·have h1 := off_lay s.st r.f2
  have h2:=off_lay s.mr r.f3
  refine⟨by simp only [unset];split at h1<;>split at h2<;>omega,fun h=>?_⟩
  simp only [Bool.or_eq_true] at h
  rcases h with h|h|h
  ·rw [if_pos h] at h2
   right;simp only [unset];split at h1<;>omega
  ·rw [if_pos h] at h1
   right;simp only [unset];split at h2<;>omega
  exact .inl h
 exact less.refl s
theorem less_stepC (s:TS) (r:TClose):less s (stepC s r):=by
 unfold stepC
 split
 ·have h1 := off_lay s.st r.f3
  refine⟨by simp only [unset];split at h1<;>omega,fun h=>?_⟩
  simp only [Bool.or_eq_true] at h
  rcases h with h|h
  ·rw [if_pos h] at h1
   right;simp only [unset];omega
  exact .inl h
 exact less.refl s
theorem less_stepI (s:TS) (r:TInner):less s (stepI s r):=by
 unfold stepI
 split
 ·have h1 := off_lay s.st r.f2
  refine⟨by simp only [unset];split at h1<;>omega,fun h=>?_⟩
  simp only [Bool.or_eq_true] at h
  rcases h with h|h
  ·rw [if_pos h] at h1
   right;simp only [unset];omega
  exact .inl h
 exact less.refl s
theorem less_fold {α:Type} (f:TS→α→TS) (h:∀s r,less s (f s r)):∀(l:List α) (s:TS),less s (l.foldl f s)
 | [],s=>less.refl s
 | r :: l,s=>(h s r).trans (less_fold f h l (f s r))
theorem less_round (s:TS) (o:List TOpen) (c:List TClose) (p:List TInner):less s (roundL s o c p):=
 ((less_fold stepO less_stepO o s).trans (less_fold stepC less_stepC c _)).trans (less_fold stepI less_stepI p _)
def again (s:TS) (o:List TOpen) (c:List TClose) (p:List TInner):TS:=roundL ⟨s.st,s.mr,false⟩ o c p
def meas (s:TS):Nat:=2*unset s+(if s.gr=true then 1 else 0)
theorem meas_again {s:TS} (h:s.gr=true) (o:List TOpen) (c:List TClose) (p:List TInner):meas (again s o c p) < meas s:=by
 have hl:=less_round ⟨s.st,s.mr,false⟩ o c p
 have hu:unset (⟨s.st,s.mr,false⟩:TS)=unset s:=rfl
 unfold less at hl
 rw [hu] at hl
 unfold meas
 rw [if_pos h]
 unfold again
 split
 ·rename_i hg
  rcases hl.2 hg with h2|h2
  ·cases h2
  omega
 have := hl.1
 omega
def trimK (o:List TOpen) (c:List TClose) (p:List TInner):Nat→TS→TS
 | 0,s=>s
 | k+1,s=>if s.gr=true then trimK o c p k (again s o c p) else s
theorem trimK_more (o:List TOpen) (c:List TClose) (p:List TInner):∀(k j:Nat) (s:TS),meas s≤k→meas s≤j→trimK o c p k s=trimK o c p j s
 | 0,0,s,_,_=>rfl
 | 0,j+1,s,h,_=>by
  have hg:¬s.gr=true:=fun hg=>by unfold meas at h;rw [if_pos hg] at h;omega
  show s=if s.gr=true then _ else s
  rw [if_neg hg]
 | k+1,0,s,_,h=>by
  have hg:¬s.gr=true:=fun hg=>by unfold meas at h;rw [if_pos hg] at h;omega
  show (if s.gr=true then _ else s)=s
  rw [if_neg hg]
 | k+1,j+1,s,h1,h2=>by
  show (if s.gr=true then _ else s)=if s.gr=true then _ else s
  by_cases hg:s.gr=true
  ·rw [if_pos hg, if_pos hg]
   have:=meas_again hg o c p
   exact trimK_more o c p k j _ (by omega) (by omega)
  rw [if_neg hg,if_neg hg]
def trimF (s:TS) (o:List TOpen) (c:List TClose) (p:List TInner):TS:=trimK o c p (meas s) s
theorem trimF_go {s:TS} (h:s.gr=true) (o:List TOpen) (c:List TClose) (p:List TInner):trimF (again s o c p) o c p=trimF s o c p:=by
 have:=meas_again h o c p
 unfold trimF
 obtain⟨k,hk⟩:∃k,meas s=k+1:=⟨meas s - 1,by omega⟩
 rw [hk]
 show _=if s.gr=true then _ else s
 rw [if_pos h]
 exact trimK_more o c p _ _ _ (Nat.le_refl _) (by omega)
theorem trimF_end {s:TS} (h:s.gr=false) (o:List TOpen) (c:List TClose) (p:List TInner):trimF s o c p=s:=by
 unfold trimF
 cases meas s with
 | zero=>rfl
 | succ k=>show (if s.gr=true then _ else s)=s;rw [if_neg (by rw [h];decide)]
def initS (n g:Int) (i:List Int):TS:=⟨i.foldl (fun l k=>l.set k.toNat true) (List.replicate n.toNat false),List.replicate (g+1).toNat false,true⟩
def rdB (l:List Bool) (k:Int):Bool:=rdOf false l k
def rdI (l:List Int) (k:Int):Int:=rdOf 0 l k
def trimO (st:List Bool) (ns gs:List Int) (l:List TOpen):List TOpen:=(l.filter fun r=>rdB st r.f0).map fun r=>⟨rdI ns r.f0,r.f1,rdI ns r.f2,rdI gs r.f3⟩
def trimC (st mk:List Bool) (ns gs:List Int) (l:List TClose):List TClose:=(l.filter fun r=>rdB st r.f0 && (decide (r.f2=0) || rdB mk r.f2)).map fun r=>⟨rdI ns r.f0,r.f1,rdI gs r.f2,rdI ns r.f3⟩
def trimI (st:List Bool) (ns:List Int) (l:List TInner):List TInner:=(l.filter fun r=>rdB st r.f0).map fun r=>⟨rdI ns r.f0,r.f1,rdI ns r.f2⟩
end Go.Proofs.YtejpijgfpbcibaaGreat.P
end
section
namespace Go.Proofs.YtejpijgfpbcibaaGreat.P
open Go.RowKit Go.Proofs.YtejpijgfpbcibaaGreatW.PrintWords Go.Proofs.YtejpijgfpbcibaaGreatW.PrintLast Go.Proofs.YtejpijgfpbcibaaGreatW.PrintMore Go.Proofs.YtejpijgfpbcibaaGreat.M
theorem numbers_n (A:Option Addr) (c m:Nat) (l:List Bool) (a:Int) (w:World) (hn:m=l.length) (hr:Kd.C Kd.bool w A l.length l) (hc:m≤c) (hl:l.length≤1000000000) :
 Calls Tryz.prog 37 #[.slice A m c,.int .i64 a] w fun e w'=>∃v0_:Value,e=.returned (.tuple #[v0_,.int .i64 (numR l a).2])∧Kd.R (Kd.int .i64) 3 w' w.heap.size (fun _=>True) v0_ (numR l a).1∧Below w.heap.size w w':=by
 subst hn
 exact auto_numbers.calls (l.length+1) A c l a _ _ w hr hc (numbers_f l a hl)
theorem rowN_form {w:World} {base:Nat} {ok:Nat→Prop} {v:Value} {xs:List Int} (h:Kd.R (Kd.int .i64) 3 w base ok v xs) {m:Nat} (hm:xs.length=m):∃A c,v=.slice A m c:=by
 subst hm
 exact Kd.R_slice h
theorem num_at {w:World} {A:Option Addr} {xs:List Int} {n:Nat} (h:Kd.C (Kd.int .i64) w A n xs) (x:Int) (h0:0≤x) (h1:x < (xs.length:Int)):∃ad,A=some ad∧w.cell? (ad.add x.toNat)=some (.int .i64 (rdI xs x)):=by
 obtain⟨ad,e,hc⟩:=int_at h x.toNat (by omega)
 refine⟨ad,e,hc.trans ?_⟩
 unfold rdI rdOf
 rw [List.getD_eq_getElem?_getD,List.getElem?_eq_getElem (show x.toNat < xs.length by omega)]
 rfl
theorem filter_next {α:Type} (p:α→Bool) (l:List α) (i:Nat) (h:i < l.length):(l.take (i+1)).filter p=(l.take i).filter p ++ (if p l[i]=true then [l[i]] else []):=by
 rw [List.take_add_one,List.getElem?_eq_getElem h,List.filter_append]
 congr 1
 show List.filter p [l[i]]=_
 cases hp:p l[i]<;>simp [hp]
end Go.Proofs.YtejpijgfpbcibaaGreat.P
end
section
namespace Go.Proofs.YtejpijgfpbcibaaGreat.P
open Go.RowKit Go.Proofs.YtejpijgfpbcibaaGreatW.PrintWords Go.Proofs.YtejpijgfpbcibaaGreatW.PrintLast Go.Proofs.YtejpijgfpbcibaaGreatW.PrintMore Go.Proofs.YtejpijgfpbcibaaGreat.M
section
variable {α β : Type} {ca : α → α → Int} {cb : β → β → Int}
theorem insC_map (f:α→β) (h:∀x y,cb (f x) (f y)=ca x y):∀(m:List α) (x:α),insC cb (m.map f) (f x)=(insC ca m x).map f
 | [],x=>rfl
 | y :: m,x=>by
  show (if cb (f x) (f y) < 0 then f x :: f y :: m.map f else if cb (f x) (f y)=0 then f y :: m.map f else f y :: insC cb (m.map f) (f x))=(if ca x y < 0 then x :: y :: m else if ca x y=0 then y :: m else y :: insC ca m x).map f
  rw [h,insC_map f h m x]
  by_cases h1:ca x y < 0
  ·rw [if_pos h1,if_pos h1];rfl
  rw [if_neg h1, if_neg h1]
  by_cases h2:ca x y=0
  ·rw [if_pos h2,if_pos h2];rfl
  rw [if_neg h2,if_neg h2];rfl
theorem onceC_map (f:α→β) (h:∀x y,cb (f x) (f y)=ca x y) (l:List α):onceC cb (l.map f)=(onceC ca l).map f:=by
 have go:∀(l m:List α),(l.map f).foldl (insC cb) (m.map f)=(l.foldl (insC ca) m).map f:=by
  intro l
  induction l with
  | nil=>intro m;rfl
  | cons x l ih=>
   intro m
   show (l.map f).foldl (insC cb) (insC cb (m.map f) (f x))=_
   rw [insC_map f h m x]
   exact ih _
 exact go l []
theorem onceC_back (f:α→β) (g:β→α) (h:∀x y,cb (f x) (f y)=ca x y) (hg:∀x,g (f x)=x) (l:List α):(onceC cb (l.map f)).map g=onceC ca l:=by
 rw [onceC_map f h l,List.map_map]
 have e:g ∘ f=id:=funext hg
 rw [e,List.map_id]
end
theorem orInt_zero (a:Int):orInt a 0=a:=by
 unfold orInt
 split<;>omega
theorem code4 (l:List TOpen):(onceC cmpOpen (l.map toOpen4)).map ofOpen4=onceC cmpOpen l:=onceC_back toOpen4 ofOpen4 (fun x y=>rfl) (fun x=>rfl) l
theorem code5 (l:List TClose):(onceC cmpOpen (l.map toOpen5)).map ofOpen5=onceC cmpClose l:=onceC_back toOpen5 ofOpen5 (fun x y=>rfl) (fun x=>rfl) l
theorem code6 (l:List TInner):(onceC cmpOpen (l.map toOpen6)).map ofOpen6=onceC cmpInner l:=onceC_back toOpen6 ofOpen6 (fun x y=>by
 show orInt (cmpInt x.f0 y.f0) (orInt (cmpInt x.f1 y.f1) (orInt (cmpInt x.f2 y.f2) (cmpInt 0 0)))=orInt (cmpInt x.f0 y.f0) (orInt (cmpInt x.f1 y.f1) (cmpInt x.f2 y.f2))
 rw [show cmpInt 0 0=0 from rfl,orInt_zero]) (fun x=>rfl) l
def canopyref3_Norm.f (a0_0 a0_1:Int) (l0_2:List Int) (l0_3:List Int) (l0_4:List TOpen) (l0_5:List TClose) (l0_6:List TInner):Option (Int × Int × List Int × List Int × List TOpen × List TClose × List TInner):=
 auto_Norm.f a0_0 a0_1 l0_2 l0_3 l0_4 l0_5 l0_6
theorem canopyref3_Norm.calls (a0_0 a0_1:Int) (A0_2:Option Addr) (c0_2:Nat) (l0_2:List Int) (A0_3:Option Addr) (c0_3:Nat) (l0_3:List Int) (A0_4:Option Addr) (c0_4:Nat) (l0_4:List TOpen) (A0_5:Option Addr) (c0_5:Nat) (l0_5:List TClose) (A0_6:Option Addr) (c0_6:Nat) (l0_6:List TInner) (r1 r2:Int) (r3 r4:List Int) (r5:List TOpen) (r6:List TClose) (r7:List TInner) (w:World) (hr0_2:Kd.C (Kd.int .i64) w A0_2 l0_2.length l0_2) (hc0_2:l0_2.length≤c0_2) (hr0_3:Kd.C (Kd.int .i64) w A0_3 l0_3.length l0_3) (hc0_3:l0_3.length≤c0_3) (hr0_4:Kd.C k36 w A0_4 l0_4.length l0_4) (hc0_4:l0_4.length≤c0_4) (hr0_5:Kd.C k38 w A0_5 l0_5.length l0_5) (hc0_5:l0_5.length≤c0_5) (hr0_6:Kd.C k40 w A0_6 l0_6.length l0_6) (hc0_6:l0_6.length≤c0_6) (h:canopyref3_Norm.f a0_0 a0_1 l0_2 l0_3 l0_4 l0_5 l0_6=some (r1,r2,r3,r4,r5,r6,r7)) :
 Calls Tryz.prog 28 #[.agg #[.int .i64 a0_0,.int .i64 a0_1,.slice A0_2 l0_2.length c0_2,.slice A0_3 l0_3.length c0_3,.slice A0_4 l0_4.length c0_4,.slice A0_5 l0_5.length c0_5,.slice A0_6 l0_6.length c0_6]] w fun e w'=>∃v2_ v3_ v4_ v5_ v6_:Value,e=.returned (.agg #[.int .i64 r1,.int .i64 r2,v2_,v3_,v4_,v5_,v6_])∧Kd.V (Kd.int .i64) 3 w' w.heap.size (fun k_=>w.heap.size≤k_) v2_ r3∧Kd.V (Kd.int .i64) 3 w' w.heap.size (fun k_=>w.heap.size≤k_) v3_ r4∧Kd.V k36 36 w' w.heap.size (fun k_=>w.heap.size≤k_) v4_ r5∧Kd.V k38 38 w' w.heap.size (fun k_=>w.heap.size≤k_) v5_ r6∧Kd.V k40 40 w' w.heap.size (fun k_=>w.heap.size≤k_) v6_ r7∧Below w.heap.size w w':=by
 unfold canopyref3_Norm.f auto_Norm.f at h
 split at h
 case isFalse=>cases h
 rename_i hl
 obtain⟨q2,q3,q4,q5,q6⟩:=hl
 simp only [Option.some.injEq,Prod.mk.injEq] at h
 obtain⟨rfl,rfl,rfl,rfl,rfl,rfl,rfl⟩:=h
 refine(refnorm_own a0_0 a0_1 A0_2 c0_2 l0_2 A0_3 c0_3 l0_3 A0_4 c0_4 l0_4 A0_5 c0_5 l0_5 A0_6 c0_6 l0_6 w hr0_2 hc0_2 q2 hr0_3 hc0_3 q3 hr0_4 hc0_4 q4 hr0_5 hc0_5 q5 hr0_6 hc0_6 q6).mono ?_
 rintro e w' ⟨v2,v3,v4,v5,v6,rfl,ho,hb⟩
 rw [code4,code5,code6] at ho
 exact⟨v2,v3,v4,v5,v6,rfl,Kd.R_V (Kd.R_mono (Kd.R_bound ho.r2) (fun k hk=>hk.2.1)),Kd.R_V (Kd.R_mono (Kd.R_bound ho.r3) (fun k hk=>hk.2.1)),Kd.R_V (Kd.R_mono (Kd.R_bound ho.r4) (fun k hk=>hk.2.1)),Kd.R_V (Kd.R_mono (Kd.R_bound ho.r5) (fun k hk=>hk.2.1)),Kd.R_V (Kd.R_mono (Kd.R_bound ho.r6) (fun k hk=>hk.2.1)),hb⟩
end Go.Proofs.YtejpijgfpbcibaaGreat.P
end
