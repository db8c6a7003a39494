/- Words and walks of this claim: MAuto, UReach, UTrimM, UTrimI, UTrimT, UTkV. -/
import Derived.Test.YtejpijgfpbcibaaGreatRSMake
import Derived.Test.YtejpijgfpbcibaaGreatRSCheck
import Derived.Test.YtejpijgfpbcibaaGreatRSTrim
import Derived.Test.YtejpijgfpbcibaaGreatRMHasEtc
import Derived.Test.YtejpijgfpbcibaaGreatRUTrimEtc
set_option linter.unusedVariables false
set_option linter.unusedSimpArgs false
set_option linter.unnecessarySimpa false
section
namespace Go.Proofs.YtejpijgfpbcibaaGreat.P
open Go.RowKit Go.Proofs.YtejpijgfpbcibaaGreatW.PrintWords Go.Proofs.YtejpijgfpbcibaaGreatW.PrintLast Go.Proofs.YtejpijgfpbcibaaGreatW.PrintMore Go.Proofs.YtejpijgfpbcibaaGreat.M
section
variable {w w' wO : World} {go B : Nat} {N G v2 v3 v4 v5 v6 x : Value} {r2 r3 : List Int} {r4 : List TOpen} {r5 : List TClose} {r6 : List TInner}
theorem OutR.far (h:OutR w wO go N G v2 v3 v4 v5 v6 r2 r3 r4 r5 r6) (q:Nat) (u:Value):Kd.R (Kd.int .i64) 3 (w.setCell ⟨go,q,none⟩ u) wO.heap.size (fun k=>some k=v2.ownBlock) v2 r2∧Kd.R (Kd.int .i64) 3 (w.setCell ⟨go,q,none⟩ u) wO.heap.size (fun k=>some k=v3.ownBlock) v3 r3∧Kd.R k36 36 (w.setCell ⟨go,q,none⟩ u) wO.heap.size (fun k=>some k=v4.ownBlock) v4 r4∧Kd.R k38 38 (w.setCell ⟨go,q,none⟩ u) wO.heap.size (fun k=>some k=v5.ownBlock) v5 r5∧Kd.R k40 40 (w.setCell ⟨go,q,none⟩ u) wO.heap.size (fun k=>some k=v6.ownBlock) v6 r6:=
 ⟨Kd.R_far h.r2 (fun k hk e=>Kd.R_ne h.r2 h.t (by decide) (by rw [←hk];exact congrArg some e.symm)) _,Kd.R_far h.r3 (fun k hk e=>Kd.R_ne h.r3 h.t (by decide) (by rw [←hk];exact congrArg some e.symm)) _,Kd.R_far h.r4 (fun k hk e=>Kd.R_ne h.r4 h.t (by decide) (by rw [←hk];exact congrArg some e.symm)) _,Kd.R_far h.r5 (fun k hk e=>Kd.R_ne h.r5 h.t (by decide) (by rw [←hk];exact congrArg some e.symm)) _,Kd.R_far h.r6 (fun k hk e=>Kd.R_ne h.r6 h.t (by decide) (by rw [←hk];exact congrArg some e.symm)) _⟩
theorem OutR.setG (h:OutR w wO go N G v2 v3 v4 v5 v6 r2 r3 r4 r5 r6) (u:Value):OutR (w.setCell ⟨go,1,none⟩ u) wO go N u v2 v3 v4 v5 v6 r2 r3 r4 r5 r6:=
 ⟨h.b.setCell h.gin _,h.gin,blk_put h.t 1 u rfl,(h.far 1 u).1,(h.far 1 u).2.1,(h.far 1 u).2.2.1,(h.far 1 u).2.2.2.1,(h.far 1 u).2.2.2.2,h.ne⟩
end
theorem symKind_is {l:List SSym} {k s:Int} (h:symKind l k s):isB l s k=true:=by
 unfold isB
 rw [decide_eq_true h.1,decide_eq_true h.2.1,h.2.2]
 simp
theorem any_none {α:Type} {p:α→Bool} {l:List α} (h:∀x∈l,p x=false):l.any p=false:=by
 rw [List.any_eq_false]
 intro x hx
 rw [h x hx]
 decide
theorem outB_no {n s:Int} (h:0≤s∧s < n):outB n s=false:=by
 unfold outB
 rw [decide_eq_false (by omega),decide_eq_false (by omega)]
 rfl
def mkI (st:MSt):List Int:=if (st.i.length:Int)=0 then [0] else st.i
theorem mkI_len {st:MSt} {n:Nat} (h:MkLen st n):(mkI st).length≤n+1:=by
 unfold mkI
 unfold MkLen at h
 split
 ·simp
 omega
theorem made_ok {l:List SSym} (hl:symOk l) (size:Int) (ns:List Int) {most:Int} (hm:0 < most) (hm2:most≤100) :
 auto_Check.f l (makeN size most) (makeG size) (mkI (mkAll l (makeN size most) (makeG size) ns)) (mkAll l (makeN size most) (makeG size) ns).f (mkAll l (makeN size most) (makeG size) ns).o (mkAll l (makeN size most) (makeG size) ns).c (mkAll l (makeN size most) (makeG size) ns).n=some 0:=by
 have hN:=makeN_in size hm
 have hG:=makeG_in size
 generalize makeN size most=N at hN ⊢
 generalize makeG size=G at hG ⊢
 obtain⟨hi,hlen⟩:=mkAll_inv hl (N:=N) (G:=G) (by omega) (by omega) ns
 generalize mkAll l N G ns=st at hi hlen ⊢
 have h0:=mkI_len hlen
 unfold MkLen at hlen
 have hl7:=hl.2.1
 unfold auto_Check.f
 rw [if_pos (by omega)]
 have e1:bigA N G st.o.length st.c.length st.n.length=false:=by
  unfold bigA
  rw [decide_eq_false (by omega),decide_eq_false (by omega),decide_eq_false (by omega),decide_eq_false (by omega),decide_eq_false (by omega)]
  rfl
 have e2:(mkI st).any (outB N)=false:=any_none fun x hx=>by
  unfold mkI at hx
  split at hx
  ·rw [List.mem_singleton] at hx
   subst hx
   exact outB_no (by omega)
  exact outB_no (hi.i x hx)
 have e3:st.f.any (outB N)=false:=any_none fun x hx=>outB_no (hi.f x hx)
 have e4:st.o.any (badO l N G)=false:=any_none fun x hx=>by
  obtain⟨h1,h2,h3,h4⟩:=hi.o x hx
  unfold badO
  rw [outB_no h1,outB_no h3,symKind_is h2,decide_eq_false (by omega),decide_eq_false (by omega)]
  rfl
 have e5:st.c.any (badC l N G)=false:=any_none fun x hx=>by
  obtain⟨h1,h2,h3,h4⟩:=hi.c x hx
  unfold badC
  rw [outB_no h1,outB_no h4,symKind_is h2,decide_eq_false (by omega),decide_eq_false (by omega)]
  rfl
 have e6:st.n.any (badI l N)=false:=any_none fun x hx=>by
  obtain⟨h1,h2,h3⟩:=hi.n x hx
  unfold badI
  rw [outB_no h1,outB_no h3,symKind_is h2]
  rfl
 rw [e1,e2,e3,e4,e5,e6]
 rfl
end Go.Proofs.YtejpijgfpbcibaaGreat.P
end
section
namespace Go.Proofs.YtejpijgfpbcibaaGreat.P
open Go.RowKit Go.Proofs.YtejpijgfpbcibaaGreatW.PrintWords Go.Proofs.YtejpijgfpbcibaaGreatW.PrintLast Go.Proofs.YtejpijgfpbcibaaGreatW.PrintMore Go.Proofs.YtejpijgfpbcibaaGreat.M
def tt (l:List Bool) (q:Nat):Prop:=l.getD q false=true
theorem tt_lt {l:List Bool} {q:Nat} (h:tt l q):q < l.length:=by
 unfold tt at h
 rw [List.getD_eq_getElem?_getD] at h
 by_cases hq:q < l.length
 ·exact hq
 rw [List.getElem?_eq_none (by omega)] at h
 cases h
theorem has_iff {l:List Bool} {k:Int} : hasB l k=true↔0≤k∧tt l k.toNat:=by
 unfold hasB
 simp only [Bool.and_eq_true,decide_eq_true_eq]
 refine⟨fun h=>⟨h.1,h.2.2⟩,fun h=>⟨h.1,?_,h.2⟩⟩
 have:=tt_lt h.2
 omega
theorem tt_set {l:List Bool} {j q:Nat} : tt (l.set j true) q↔tt l q∨(q=j∧j < l.length):=by
 unfold tt
 rw [List.getD_eq_getElem?_getD,List.getD_eq_getElem?_getD,List.getElem?_set]
 by_cases h:j=q
 ·subst h
  by_cases h2:j < l.length
  ·simp [h2]
  simp [h2]
 rw [if_neg h]
 exact⟨.inl,fun h2=>h2.elim id (fun h3=>absurd h3.1.symm h)⟩
theorem tt_lay {l:List Bool} {k:Int} {q:Nat} (h:tt (layL l k) q):tt l q∨(q=k.toNat∧0≤k):=by
 unfold layL at h
 split at h
 ·rename_i hb
  unfold layB at hb
  simp only [Bool.and_eq_true,decide_eq_true_eq] at hb
  rcases tt_set.1 h with h|h
  ·exact .inl h
  exact .inr ⟨h.1,hb.1⟩
 exact .inl h
theorem lay_mono {l:List Bool} {k:Int} {q:Nat} (h:tt l q):tt (layL l k) q:=by
 unfold layL
 split
 ·exact tt_set.2 (.inl h)
 exact h
theorem lay_no {l:List Bool} {k:Int} (h:layB l k=false) (h0:0≤k) (h1:k < l.length):tt l k.toNat:=by
 unfold layB at h
 rw [decide_eq_true h0,decide_eq_true h1] at h
 have h2:rdOf false l k=true:=by simpa using h
 exact h2
structure Le (s s' : TS):Prop where
 st:∀q,tt s.st q→tt s'.st q
 mr:∀q,tt s.mr q→tt s'.mr q
theorem Le.refl (s:TS):Le s s:=⟨fun _ h=>h,fun _ h=>h⟩
theorem Le.trans {a b c:TS} (h:Le a b) (k:Le b c):Le a c:=⟨fun q hq=>k.st q (h.st q hq),fun q hq=>k.mr q (h.mr q hq)⟩
theorem Le.has {s s' : TS} (h:Le s s') {k:Int} (hk:hasB s.st k=true):hasB s'.st k=true:=has_iff.2 ⟨(has_iff.1 hk).1,h.st _ (has_iff.1 hk).2⟩
theorem Le.hasM {s s' : TS} (h:Le s s') {k:Int} (hk:hasB s.mr k=true):hasB s'.mr k=true:=has_iff.2 ⟨(has_iff.1 hk).1,h.mr _ (has_iff.1 hk).2⟩
section
variable {i : List Int} {o : List TOpen} {c : List TClose} {p : List TInner} {s s' : TS}
def Why (i:List Int) (o:List TOpen) (c:List TClose) (p:List TInner) (s:TS) (q:Nat):Prop:=
 (∃x∈i,x.toNat=q)∨(∃r∈o,hasB s.st r.f0=true∧r.f2.toNat=q)∨(∃r∈c,hasB s.st r.f0=true∧(r.f2=0∨hasB s.mr r.f2=true)∧r.f3.toNat=q)∨(∃r∈p,hasB s.st r.f0=true∧r.f2.toNat=q)
def WhyM (o:List TOpen) (s:TS) (q:Nat):Prop:=∃r∈o,hasB s.st r.f0=true∧r.f3.toNat=q
theorem Why.mono {q:Nat} (h:Why i o c p s q) (hl:Le s s'):Why i o c p s' q:=by
 rcases h with h|⟨r,h1,h2,h3⟩|⟨r,h1,h2,h3,h4⟩|⟨r,h1,h2,h3⟩
 ·exact .inl h
 ·exact .inr (.inl ⟨r,h1,hl.has h2,h3⟩)
 ·exact .inr (.inr (.inl ⟨r,h1,hl.has h2,h3.imp id hl.hasM,h4⟩))
 exact .inr (.inr (.inr ⟨r,h1,hl.has h2,h3⟩))
structure Rch (i:List Int) (o:List TOpen) (c:List TClose) (p:List TInner) (s:TS):Prop where
 st:∀q,tt s.st q→Why i o c p s q
 mr:∀q,tt s.mr q→WhyM o s q
theorem Rch.lift (h:Rch i o c p s) (hl:Le s s') (h1:∀q,tt s'.st q→tt s.st q∨Why i o c p s' q) (h2:∀q,tt s'.mr q→tt s.mr q∨WhyM o s' q):Rch i o c p s':=
 ⟨fun q hq=>(h1 q hq).elim (fun h3=>(h.st q h3).mono hl) id,fun q hq=>(h2 q hq).elim (fun h3=>by obtain⟨r,a,b,d⟩:=h.mr q h3;exact⟨r,a,hl.has b,d⟩) id⟩
theorem Rch.sO (h:Rch i o c p s) {r:TOpen} (hr:r∈o):Rch i o c p (stepO s r)∧Le s (stepO s r):=by
 unfold P.stepO
 split
 ·rename_i hb
  have hl:Le s ⟨layL s.st r.f2,layL s.mr r.f3,layB s.mr r.f3 || (layB s.st r.f2 || s.gr)⟩:=⟨fun q=>lay_mono,fun q=>lay_mono⟩
  refine⟨h.lift hl (fun q hq=>(tt_lay hq).imp id fun h3=>?_) (fun q hq=>(tt_lay hq).imp id fun h3=>?_),hl⟩
  ·exact .inr (.inl ⟨r,hr,hl.has hb,h3.1.symm⟩)
  exact⟨r,hr,hl.has hb,h3.1.symm⟩
 exact⟨h,Le.refl s⟩
theorem Rch.sC (h:Rch i o c p s) {r:TClose} (hr:r∈c):Rch i o c p (stepC s r)∧Le s (stepC s r):=by
 unfold P.stepC
 split
 ·rename_i hb
  simp only [Bool.and_eq_true,Bool.or_eq_true,decide_eq_true_eq] at hb
  have hl:Le s ⟨layL s.st r.f3,s.mr,layB s.st r.f3 || s.gr⟩:=⟨fun q=>lay_mono,fun q h=>h⟩
  refine⟨h.lift hl (fun q hq=>(tt_lay hq).imp id fun h3=>?_) (fun q hq=>.inl hq),hl⟩
  exact .inr (.inr (.inl ⟨r,hr,hl.has hb.1,hb.2.imp id hl.hasM,h3.1.symm⟩))
 exact⟨h,Le.refl s⟩
theorem Rch.sI (h:Rch i o c p s) {r:TInner} (hr:r∈p):Rch i o c p (stepI s r)∧Le s (stepI s r):=by
 unfold P.stepI
 split
 ·rename_i hb
  have hl:Le s ⟨layL s.st r.f2,s.mr,layB s.st r.f2 || s.gr⟩:=⟨fun q=>lay_mono,fun q h=>h⟩
  refine⟨h.lift hl (fun q hq=>(tt_lay hq).imp id fun h3=>?_) (fun q hq=>.inl hq),hl⟩
  exact .inr (.inr (.inr ⟨r,hr,hl.has hb,h3.1.symm⟩))
 exact⟨h,Le.refl s⟩
theorem fold_rch {α:Type} {f:TS→α→TS} {R:TS→Prop} : ∀{m:List α} (hf:∀s,R s→∀r∈m,R (f s r)∧Le s (f s r)) {s:TS},R s→R (m.foldl f s)∧Le s (m.foldl f s)
 | [],_,s,h=>⟨h,Le.refl s⟩
 | r :: m,hf,s,h=>by
  have h1:=hf s h r (List.mem_cons_self ..)
  have h2:=fold_rch (m:=m) (fun s hs r hr=>hf s hs r (List.mem_cons_of_mem _ hr)) h1.1
  exact⟨h2.1,h1.2.trans h2.2⟩
theorem Rch.rnd (h:Rch i o c p s):Rch i o c p (roundL s o c p)∧Le s (roundL s o c p):=by
 have h1:=fold_rch (f:=stepO) (R:=Rch i o c p) (m:=o) (fun s hs r hr=>Rch.sO hs hr) h
 have h2:=fold_rch (f:=stepC) (R:=Rch i o c p) (m:=c) (fun s hs r hr=>Rch.sC hs hr) h1.1
 have h3:=fold_rch (f:=stepI) (R:=Rch i o c p) (m:=p) (fun s hs r hr=>Rch.sI hs hr) h2.1
 exact⟨h3.1,(h1.2.trans h2.2).trans h3.2⟩
theorem Rch.agn (h:Rch i o c p s):Rch i o c p (again s o c p)∧Le s (again s o c p):=
 have h1:=Rch.rnd (s:=⟨s.st,s.mr,false⟩) ⟨h.st,h.mr⟩
 ⟨h1.1,⟨fun q=>h1.2.st q,fun q=>h1.2.mr q⟩⟩
theorem Rch.tk:∀(k:Nat) {s:TS},Rch i o c p s→Rch i o c p (trimK o c p k s)∧Le s (trimK o c p k s)
 | 0,s,h=>⟨h,Le.refl s⟩
 | k+1,s,h=>by
  show Rch i o c p (if s.gr=true then _ else s)∧Le s (if s.gr=true then _ else s)
  split
  ·have h1 := h.agn
   have h2:=Rch.tk k h1.1
   exact⟨h2.1,h1.2.trans h2.2⟩
  exact⟨h,Le.refl s⟩
structure Shut_ (o:List TOpen) (c:List TClose) (p:List TInner) (s:TS):Prop where
 ho:∀r∈o,hasB s.st r.f0=true→layB s.st r.f2=false∧layB s.mr r.f3=false
 hc:∀r∈c,hasB s.st r.f0=true→(r.f2=0∨hasB s.mr r.f2=true)→layB s.st r.f3=false
 hp:∀r∈p,hasB s.st r.f0=true→layB s.st r.f2=false
theorem fold_still {α:Type} {f:TS→α→TS} (hg:∀s r,(f s r).gr=false→s.gr=false∧f s r=s):∀(m:List α) (s:TS),(m.foldl f s).gr=false→m.foldl f s=s∧∀r∈m,f s r=s
 | [],s,h=>⟨rfl,fun r hr=>by cases hr⟩
 | r :: m,s,h=>by
  have h1:=fold_still hg m (f s r) h
  have h2:f s r=s:=(hg s r (by have h3:(m.foldl f (f s r)).gr=false:=h;rw [h1.1] at h3;exact h3)).2
  refine⟨h1.1.trans h2,fun r' hr'=>?_⟩
  rcases List.mem_cons.1 hr' with rfl|hr'
  ·exact h2
  have h4 := h1.2 r' hr'
  rw [h2] at h4
  exact h4
theorem layL_no {l:List Bool} {k:Int} (h:layB l k=false):layL l k=l:=by unfold layL;rw [if_neg (by rw [h];decide)]
theorem stillO (s:TS) (r:TOpen) (h:(stepO s r).gr=false):s.gr=false∧stepO s r=s:=by
 unfold P.stepO at h ⊢
 split at h
 ·rename_i hb
  simp only [Bool.or_eq_false_iff] at h
  rw [if_pos hb,layL_no h.1,layL_no h.2.1,h.1,h.2.1,Bool.false_or,Bool.false_or]
  exact⟨h.2.2,rfl⟩
 rename_i hb
 rw [if_neg hb]
 exact⟨h,rfl⟩
theorem stillC (s:TS) (r:TClose) (h:(stepC s r).gr=false):s.gr=false∧stepC s r=s:=by
 unfold P.stepC at h ⊢
 split at h
 ·rename_i hb
  simp only [Bool.or_eq_false_iff] at h
  rw [if_pos hb,layL_no h.1,h.1,Bool.false_or]
  exact⟨h.2,rfl⟩
 rename_i hb
 rw [if_neg hb]
 exact⟨h,rfl⟩
theorem stillI (s:TS) (r:TInner) (h:(stepI s r).gr=false):s.gr=false∧stepI s r=s:=by
 unfold P.stepI at h ⊢
 split at h
 ·rename_i hb
  simp only [Bool.or_eq_false_iff] at h
  rw [if_pos hb,layL_no h.1,h.1,Bool.false_or]
  exact⟨h.2,rfl⟩
 rename_i hb
 rw [if_neg hb]
 exact⟨h,rfl⟩
theorem round_shut (h:(roundL s o c p).gr=false):roundL s o c p=s∧Shut_ o c p s:=by
 have h3:=fold_still stillI p _ h
 have e3:(c.foldl stepC (o.foldl stepO s)).gr=false:=by rw [←h3.1];exact h
 have h2:=fold_still stillC c _ e3
 have e2:(o.foldl stepO s).gr=false:=by rw [←h2.1];exact e3
 have h1:=fold_still stillO o _ e2
 have e1:s.gr=false:=by rw [←h1.1];exact e2
 rw [h1.1] at h2
 rw [h1.1,h2.1] at h3
 refine⟨by unfold roundL;rw [h1.1,h2.1];exact h3.1,fun r hr hb=>?_,fun r hr hb hm=>?_,fun r hr hb=>?_⟩
 ·have h4 : (stepO s r).gr = false := by rw [h1.2 r hr]; exact e1
  unfold P.stepO at h4
  rw [if_pos hb] at h4
  simp only [Bool.or_eq_false_iff] at h4
  exact⟨h4.2.1,h4.1⟩
 ·have h4 : (stepC s r).gr = false := by rw [h2.2 r hr]; exact e1
  unfold P.stepC at h4
  rw [if_pos (by rw [hb];rcases hm with hm|hm<;>simp [hm])] at h4
  simp only [Bool.or_eq_false_iff] at h4
  exact h4.1
 have h4 : (stepI s r).gr = false := by rw [h3.2 r hr]; exact e1
 unfold P.stepI at h4
 rw [if_pos hb] at h4
 simp only [Bool.or_eq_false_iff] at h4
 exact h4.1
theorem Shut_.of {s s' : TS} (h:Shut_ o c p s) (h1:s'.st=s.st) (h2:s'.mr=s.mr):Shut_ o c p s':=by
 refine⟨?_,?_,?_⟩
 ·rw [h1,h2];exact h.ho
 ·rw [h1,h2];exact h.hc
 rw [h1];exact h.hp
theorem trimK_shut:∀(k:Nat) {s:TS},meas s≤k→(s.gr=false→Shut_ o c p s)→Shut_ o c p (trimK o c p k s)
 | 0,s,hm,h=>h (by
  cases hg:s.gr with
  | false=>rfl
  | true=>unfold meas at hm;rw [if_pos hg] at hm;omega)
 | k+1,s,hm,h=>by
  show Shut_ o c p (if s.gr=true then _ else s)
  split
  ·rename_i hg
   refine trimK_shut k (by have:=meas_again hg o c p;omega) (fun h2=>?_)
   have h3:=round_shut (s:=⟨s.st,s.mr,false⟩) h2
   have h4:P.again s o c p=⟨s.st,s.mr,false⟩:=h3.1
   rw [h4]
   exact h3.2
  rename_i hg
  exact h (by simpa using hg)
end
theorem init_tt (i:List Int):∀(l:List Bool) (q:Nat),tt (i.foldl (fun l k=>l.set k.toNat true) l) q↔tt l q∨∃x∈i,x.toNat=q∧q < l.length:=by
 induction i with
 | nil=>intro l q;simp
 | cons x i ih=>
  intro l q
  rw [List.foldl_cons,ih,tt_set]
  simp only [List.length_set,List.mem_cons]
  constructor
  ·rintro ((h | ⟨rfl, h⟩) | ⟨y, h1, h2⟩)
   ·exact .inl h
   ·exact .inr ⟨x,.inl rfl,rfl,h⟩
   exact .inr ⟨y,.inr h1,h2⟩
  rintro (h | ⟨y, rfl | h1, h2, h3⟩)
  ·exact .inl (.inl h)
  ·exact .inl (.inr ⟨h2.symm,by omega⟩)
  exact .inr ⟨y,h1,h2,h3⟩
theorem tt_rep {n q:Nat} : ¬tt (List.replicate n false) q:=by
 intro h
 have h1:=tt_lt h
 unfold tt at h
 rw [List.getD_eq_getElem?_getD,List.getElem?_eq_getElem h1] at h
 simp at h
theorem numR_spec:∀(l:List Bool) (a:Int),0≤a→a+l.length < 1000000000→
 a≤(numR l a).2∧(numR l a).2≤a+l.length∧(∀q,tt l q→a≤(numR l a).1.getD q 0∧(numR l a).1.getD q 0 < (numR l a).2)∧(∀v,a≤v→v < (numR l a).2→∃q,tt l q∧(numR l a).1.getD q 0=v)
 | [],a,_,_=>⟨Int.le_refl _,by simp [numR],fun q h=>by have:=tt_lt h;simp at this,fun v h1 h2=>by simp [numR] at h2;omega⟩
 | true :: l,a,h0,hb=>by
  simp only [List.length_cons] at hb
  have e:wrap64 (a+1)=a+1:=by unfold wrap64;omega
  obtain⟨h1,h2,h3,h4⟩:=numR_spec l (a+1) (by omega) (by omega)
  simp only [numR,e,List.length_cons]
  refine⟨by omega,by omega,fun q hq=>?_,fun v hv hv2=>?_⟩
  ·cases q with
   | zero=>simp;omega
   | succ q=>
    have:=h3 q hq
    simp only [List.getD_cons_succ]
    omega
  by_cases hva : v = a
  ·exact⟨0,rfl,by simp [hva]⟩
  obtain ⟨q, hq, e2⟩ := h4 v (by omega) hv2
  exact⟨q+1,hq,by simp only [List.getD_cons_succ];exact e2⟩
 | false :: l,a,h0,hb=>by
  simp only [List.length_cons] at hb
  obtain⟨h1,h2,h3,h4⟩:=numR_spec l a h0 (by omega)
  simp only [numR,List.length_cons]
  refine⟨h1,by omega,fun q hq=>?_,fun v hv hv2=>?_⟩
  ·cases q with
   | zero=>cases hq
   | succ q=>
    have:=h3 q hq
    simp only [List.getD_cons_succ]
    exact this
  obtain ⟨q, hq, e2⟩ := h4 v hv hv2
  exact⟨q+1,hq,by simp only [List.getD_cons_succ];exact e2⟩
structure MayBe (l:List S51) (n g:Int) (i f:List Int) (o:List TOpen) (c:List TClose) (p:List TInner):Prop where
 hn:0≤n∧n≤200
 hg:0≤g∧g≤10000
 hz:(o.length:Int)+c.length+p.length≤100000
 hi:∀x∈i,0≤x∧x < n
 hf:∀x∈f,0≤x∧x < n
 ho:∀r∈o,(0≤r.f0∧r.f0 < n)∧(0≤r.f2∧r.f2 < n)∧isB l r.f1 1=true∧1≤r.f3∧r.f3≤g
 hc:∀r∈c,(0≤r.f0∧r.f0 < n)∧(0≤r.f3∧r.f3 < n)∧isB l r.f1 2=true∧0≤r.f2∧r.f2≤g
 hp:∀r∈p,(0≤r.f0∧r.f0 < n)∧(0≤r.f2∧r.f2 < n)∧isB l r.f1 3=true
theorem outB_in {n s:Int} (h:outB n s=false):0≤s∧s < n:=by
 unfold outB at h
 simp only [Bool.or_eq_false_iff,decide_eq_false_iff_not] at h
 omega
theorem any_all {α:Type} {p:α→Bool} {l:List α} (h:l.any p=false):∀x∈l,p x=false:=fun x hx=>by
 have:=List.any_eq_false.1 h x hx
 simpa using this
theorem MayBe.of {l:List S51} {n g:Int} {i f:List Int} {o:List TOpen} {c:List TClose} {p:List TInner} (h:auto_Check.f l n g i f o c p=some 0):MayBe l n g i f o c p:=by
 unfold auto_Check.f at h
 split at h
 ·simp only [Option.some.injEq] at h
  split at h
  ·cases h
  rename_i hb
  split at h
  ·cases h
  rename_i hr
  simp only [Bool.not_eq_true,Bool.or_eq_false_iff] at hr
  obtain⟨⟨⟨⟨h1,h2⟩,h3⟩,h4⟩,h5⟩:=hr
  unfold bigA at hb
  simp only [Bool.or_eq_true,decide_eq_true_eq,not_or] at hb
  refine⟨by omega,by omega,by omega,fun x hx=>outB_in (any_all h1 x hx),fun x hx=>outB_in (any_all h2 x hx),fun r hr=>?_,fun r hr=>?_,fun r hr=>?_⟩
  ·have := any_all h3 r hr
   unfold badO at this
   simp only [Bool.or_eq_false_iff,Bool.not_eq_false',decide_eq_false_iff_not] at this
   exact⟨outB_in this.1,outB_in this.2.1,this.2.2.1,by omega,by omega⟩
  ·have := any_all h4 r hr
   unfold badC at this
   simp only [Bool.or_eq_false_iff,Bool.not_eq_false',decide_eq_false_iff_not] at this
   exact⟨outB_in this.1,outB_in this.2.1,this.2.2.1,by omega,by omega⟩
  have := any_all h5 r hr
  unfold badI at this
  simp only [Bool.or_eq_false_iff,Bool.not_eq_false'] at this
  exact⟨outB_in this.1,outB_in this.2.1,this.2.2⟩
 cases h
theorem MayBe.check {l:List S51} {n g:Int} {i f:List Int} {o:List TOpen} {c:List TClose} {p:List TInner} (h:MayBe l n g i f o c p) (hl:l.length≤1000000000) (hi:i.length≤1000000000) (hf:f.length≤1000000000):auto_Check.f l n g i f o c p=some 0:=by
 have hn:=h.hn
 have hg:=h.hg
 have hz:=h.hz
 unfold auto_Check.f
 rw [if_pos (by omega)]
 have e1:bigA n g o.length c.length p.length=false:=by
  unfold bigA
  rw [decide_eq_false (by omega),decide_eq_false (by omega),decide_eq_false (by omega),decide_eq_false (by omega),decide_eq_false (by omega)]
  rfl
 have e2:i.any (outB n)=false:=any_none fun x hx=>outB_no (h.hi x hx)
 have e3:f.any (outB n)=false:=any_none fun x hx=>outB_no (h.hf x hx)
 have e4:o.any (badO l n g)=false:=any_none fun x hx=>by
  obtain⟨h1,h2,h3,h4⟩:=h.ho x hx
  unfold badO
  rw [outB_no h1,outB_no h2,h3,decide_eq_false (by omega),decide_eq_false (by omega)]
  rfl
 have e5:c.any (badC l n g)=false:=any_none fun x hx=>by
  obtain⟨h1,h2,h3,h4⟩:=h.hc x hx
  unfold badC
  rw [outB_no h1,outB_no h2,h3,decide_eq_false (by omega),decide_eq_false (by omega)]
  rfl
 have e6:p.any (badI l n)=false:=any_none fun x hx=>by
  obtain⟨h1,h2,h3⟩:=h.hp x hx
  unfold badI
  rw [outB_no h1,outB_no h2,h3]
  rfl
 rw [e1,e2,e3,e4,e5,e6]
 rfl
theorem once_le {α:Type} {cmp:α→α→Int} (l:List α):(onceC cmp l).length≤l.length:=by
 have ins:∀(m:List α) (x:α),(insC cmp m x).length≤m.length+1:=by
  intro m x
  induction m with
  | nil=>simp [insC]
  | cons y m ih=>
   simp only [insC]
   split
   ·simp
   split
   ·simp
   simp only [List.length_cons];omega
 have go:∀(l m:List α),(l.foldl (insC cmp) m).length≤m.length+l.length:=by
  intro l
  induction l with
  | nil=>intro m;simp
  | cons x l ih=>
   intro m
   have h1:=ih (insC cmp m x)
   have h2:=ins m x
   simp only [List.foldl_cons,List.length_cons]
   omega
 have:=go l []
 simpa [onceC] using this
structure Left (l:List S51) (i:List Int) (f:List Int) (o:List TOpen) (c:List TClose) (p:List TInner) (n g:Int) (v:Int × Int × List Int × List Int × List TOpen × List TClose × List TInner):Prop where
 may:MayBe l v.1 v.2.1 v.2.2.1 v.2.2.2.1 v.2.2.2.2.1 v.2.2.2.2.2.1 v.2.2.2.2.2.2
 at_:∀x,0≤x→x < v.1→x∈v.2.2.1∨(∃r∈v.2.2.2.2.1,r.f2=x)∨(∃r∈v.2.2.2.2.2.1,r.f3=x)∨(∃r∈v.2.2.2.2.2.2,r.f2=x)
 up:∀x,1≤x→x≤v.2.1→∃r∈v.2.2.2.2.1,r.f3=x
 le:v.1≤n∧v.2.1≤g
 li:v.2.2.1.length≤i.length
 lf:v.2.2.2.1.length≤f.length
 lo:v.2.2.2.2.1.length≤o.length
 lc:v.2.2.2.2.2.1.length≤c.length
 lp:v.2.2.2.2.2.2.length≤p.length
theorem trim_left {l:List S51} {n g:Int} {i f:List Int} {o:List TOpen} {c:List TClose} {p:List TInner} (h:MayBe l n g i f o c p):Left l i f o c p n g (trimV (trimS n g i o c p) i f o c p):=by
 have hn:=h.hn
 have hg:=h.hg
 obtain⟨s0,hs0⟩:∃s0,s0=initS n g i:=⟨_,rfl⟩
 obtain⟨s,hs⟩:∃s,s=trimS n g i o c p:=⟨_,rfl⟩
 have es:s=trimK o c p (meas s0) s0:=by rw [hs,hs0];rfl
 have hlen:=len_trimK o c p (meas s0) s0
 rw [←es] at hlen
 have l0:s0.st.length=n.toNat∧s0.mr.length=(g+1).toNat:=by
  rw [hs0]
  refine⟨?_,by simp [initS]⟩
  have:∀(i:List Int) (m:List Bool),(i.foldl (fun l k=>l.set k.toNat true) m).length=m.length:=by
   intro i
   induction i with
   | nil=>intro m;rfl
   | cons x i ih=>intro m;rw [List.foldl_cons,ih,List.length_set]
  show (i.foldl (fun l k=>l.set k.toNat true) (List.replicate n.toNat false)).length=_
  rw [this,List.length_replicate]
 have ls:s.st.length=n.toNat:=hlen.1.trans l0.1
 have lm:s.mr.length=(g+1).toNat:=hlen.2.trans l0.2
 have r0:Rch i o c p s0:=by
  rw [hs0]
  refine⟨fun q hq=>?_,fun q hq=>absurd hq tt_rep⟩
  rcases(init_tt i _ q).1 hq with h1|⟨x,hx,e,_⟩
  ·exact absurd h1 tt_rep
  exact .inl ⟨x,hx,e⟩
 have rk:=Rch.tk (meas s0) r0
 rw [←es] at rk
 obtain⟨rs,hle⟩:=rk
 have sh:Shut_ o c p s:=by
  rw [es]
  refine trimK_shut _ (Nat.le_refl _) (fun hg=>?_)
  rw [hs0] at hg
  cases hg
 have iS:∀x∈i,tt s.st x.toNat:=fun x hx=>hle.st _ (by
  have h1:=h.hi x hx
  rw [hs0]
  exact(init_tt i _ _).2 (.inr ⟨x,hx,rfl,by rw [List.length_replicate];omega⟩))
 have mr0:¬tt s.mr 0:=fun h0=>by
  obtain⟨r,hr,_,e⟩:=rs.mr 0 h0
  have:=(h.ho r hr).2.2.2.1
  omega
 obtain⟨S1,S2,S3,S4⟩:=numR_spec s.st 0 (by omega) (by omega)
 obtain⟨M1,M2,M3,M4⟩:=numR_spec s.mr 1 (by omega) (by omega)
 have M5:(numR s.mr 1).2≤1+g∧(numR s.mr 1).1.getD 0 0=0:=by
  cases hm:s.mr with
  | nil=>rw [hm] at lm;simp at lm;omega
  | cons b tl=>
   rw [hm] at mr0 lm
   cases b with
   | true=>exact absurd rfl mr0
   | false=>
    simp only [List.length_cons] at lm
    have:=(numR_spec tl 1 (by omega) (by omega)).2.1
    simp only [numR]
    exact⟨by omega,rfl⟩
 obtain⟨N,hN⟩:∃N,N=(numR s.st 0).2:=⟨_,rfl⟩
 obtain⟨ns,hns⟩:∃ns,ns=(numR s.st 0).1:=⟨_,rfl⟩
 obtain⟨M,hM⟩:∃M,M=(numR s.mr 1).2:=⟨_,rfl⟩
 obtain⟨ms,hms⟩:∃ms,ms=(numR s.mr 1).1:=⟨_,rfl⟩
 have ev:trimV (trimS n g i o c p) i f o c p=(N,wrap64 (M - 1),onceC cmpInt (i.map (rdI ns)),onceC cmpInt ((f.filter (rdB s.st)).map (rdI ns)),onceC cmpOpen (trimO s.st ns ms o),onceC cmpClose (trimC s.st s.mr ns ms c),onceC cmpInner (trimI s.st ns p)):=by
  rw [←hs,hN,hns,hM,hms];rfl
 rw [←hN] at S1 S2 S3 S4
 rw [←hns] at S3 S4
 rw [←hM] at M1 M2 M3 M4 M5
 rw [←hms] at M3 M4 M5
 have eG:wrap64 (M - 1)=M - 1:=by unfold wrap64;omega
 rw [ev,eG]
 clear ev eG hN hns hM hms hs es hs0
 have inS:∀{k:Int},tt s.st k.toNat→0≤rdI ns k∧rdI ns k < N:=fun hk=>S3 _ hk
 have inM:∀{k:Int},tt s.mr k.toNat→1≤rdI ms k∧rdI ms k < M:=fun hk=>M3 _ hk
 have oS:∀r∈o,tt s.st r.f0.toNat→tt s.st r.f2.toNat∧tt s.mr r.f3.toNat:=fun r hr ht=>by
  have h1:=h.ho r hr
  have h2:=sh.ho r hr (has_iff.2 ⟨h1.1.1,ht⟩)
  exact⟨lay_no h2.1 h1.2.1.1 (by omega),lay_no h2.2 (by omega) (by omega)⟩
 have cS:∀r∈c,tt s.st r.f0.toNat→(r.f2=0∨tt s.mr r.f2.toNat)→tt s.st r.f3.toNat:=fun r hr ht hm=>by
  have h1:=h.hc r hr
  have h2:=sh.hc r hr (has_iff.2 ⟨h1.1.1,ht⟩) (hm.imp id fun hm=>has_iff.2 ⟨h1.2.2.2.1,hm⟩)
  exact lay_no h2 h1.2.1.1 (by omega)
 have pS:∀r∈p,tt s.st r.f0.toNat→tt s.st r.f2.toNat:=fun r hr ht=>by
  have h1:=h.hp r hr
  have h2:=sh.hp r hr (has_iff.2 ⟨h1.1.1,ht⟩)
  exact lay_no h2 h1.2.1.1 (by omega)
 have mI:∀{v:Int},v∈onceC cmpInt (i.map (rdI ns))↔∃x∈i,rdI ns x=v:=by
  intro v;rw [totalInt.mem_once,List.mem_map]
 have mO:∀{v:TOpen},v∈onceC cmpOpen (trimO s.st ns ms o)↔∃r∈o,tt s.st r.f0.toNat∧(⟨rdI ns r.f0,r.f1,rdI ns r.f2,rdI ms r.f3⟩:TOpen)=v:=by
  intro v;rw [totalOpen.mem_once];unfold trimO;rw [List.mem_map]
  exact⟨fun ⟨r,h1,h2⟩=>⟨r,(List.mem_filter.1 h1).1,(List.mem_filter.1 h1).2,h2⟩,fun ⟨r,h1,h2,h3⟩=>⟨r,List.mem_filter.2 ⟨h1,h2⟩,h3⟩⟩
 have mC:∀{v:TClose},v∈onceC cmpClose (trimC s.st s.mr ns ms c)↔∃r∈c,tt s.st r.f0.toNat∧(r.f2=0∨tt s.mr r.f2.toNat)∧(⟨rdI ns r.f0,r.f1,rdI ms r.f2,rdI ns r.f3⟩:TClose)=v:=by
  intro v;rw [totalClose.mem_once];unfold trimC;rw [List.mem_map]
  refine⟨fun ⟨r,h1,h2⟩=>?_,fun ⟨r,h1,h2,h3,h4⟩=>⟨r,List.mem_filter.2 ⟨h1,?_⟩,h4⟩⟩
  ·have h3 := (List.mem_filter.1 h1).2
   simp only [Bool.and_eq_true,Bool.or_eq_true,decide_eq_true_eq] at h3
   exact⟨r,(List.mem_filter.1 h1).1,h3.1,h3.2,h2⟩
  simp only [Bool.and_eq_true, Bool.or_eq_true, decide_eq_true_eq]
  exact⟨h2,h3⟩
 have mP:∀{v:TInner},v∈onceC cmpInner (trimI s.st ns p)↔∃r∈p,tt s.st r.f0.toNat∧(⟨rdI ns r.f0,r.f1,rdI ns r.f2⟩:TInner)=v:=by
  intro v;rw [totalInner.mem_once];unfold trimI;rw [List.mem_map]
  exact⟨fun ⟨r,h1,h2⟩=>⟨r,(List.mem_filter.1 h1).1,(List.mem_filter.1 h1).2,h2⟩,fun ⟨r,h1,h2,h3⟩=>⟨r,List.mem_filter.2 ⟨h1,h2⟩,h3⟩⟩
 have zO:(onceC cmpOpen (trimO s.st ns ms o)).length≤o.length:=Nat.le_trans (once_le _) (by unfold trimO;rw [List.length_map];exact List.length_filter_le _ _)
 have zC:(onceC cmpClose (trimC s.st s.mr ns ms c)).length≤c.length:=Nat.le_trans (once_le _) (by unfold trimC;rw [List.length_map];exact List.length_filter_le _ _)
 have zP:(onceC cmpInner (trimI s.st ns p)).length≤p.length:=Nat.le_trans (once_le _) (by unfold trimI;rw [List.length_map];exact List.length_filter_le _ _)
 have hz:=h.hz
 have hasT:∀{k:Int},hasB s.st k=true→tt s.st k.toNat:=fun hk=>(has_iff.1 hk).2
 refine⟨⟨⟨by show 0≤N;omega,by show N≤200;omega⟩,⟨by show 0≤M - 1;omega,by show M - 1≤10000;omega⟩,by show ((onceC cmpOpen (trimO s.st ns ms o)).length:Int)+(onceC cmpClose (trimC s.st s.mr ns ms c)).length+(onceC cmpInner (trimI s.st ns p)).length≤100000;omega,fun x hx=>?_,fun x hx=>?_,fun r hr=>?_,fun r hr=>?_,fun r hr=>?_⟩,fun x h1 h2=>?_,fun x h1 h2=>?_,⟨by show N≤n;omega,by show M - 1≤g;omega⟩,Nat.le_trans (once_le _) (by rw [List.length_map];exact Nat.le_refl _),Nat.le_trans (once_le _) (by rw [List.length_map];exact List.length_filter_le _ _),zO,zC,zP⟩
 ·obtain ⟨y, hy, rfl⟩ := mI.1 hx
  exact inS (iS y hy)
 ·obtain ⟨y, hy, rfl⟩ := List.mem_map.1 (totalInt.mem_once.1 hx)
  exact inS (List.mem_filter.1 hy).2
 ·obtain ⟨r0, h1, h2, rfl⟩ := mO.1 hr
  have h3:=oS r0 h1 h2
  have h4:=inM h3.2
  exact⟨inS h2,inS h3.1,(h.ho r0 h1).2.2.1,h4.1,by show rdI ms r0.f3≤M - 1;omega⟩
 ·obtain ⟨r0, h1, h2, h3, rfl⟩ := mC.1 hr
  refine⟨inS h2,inS (cS r0 h1 h2 h3),(h.hc r0 h1).2.2.1,?_,?_⟩
  ·show 0 ≤ rdI ms r0.f2
   rcases h3 with h3|h3
   ·rw [h3];show 0≤ms.getD 0 0;rw [M5.2];omega
   have:=inM h3;omega
  show rdI ms r0.f2 ≤ M - 1
  rcases h3 with h3|h3
  ·rw [h3];show ms.getD 0 0≤M - 1;rw [M5.2];omega
  have:=inM h3;omega
 ·obtain ⟨r0, h1, h2, rfl⟩ := mP.1 hr
  exact⟨inS h2,inS (pS r0 h1 h2),(h.hp r0 h1).2.2⟩
 ·obtain ⟨q, hq, e⟩ := S4 x h1 h2
  rcases rs.st q hq with ⟨y,hy,e2⟩|⟨r,hr,h3,e2⟩|⟨r,hr,h3,h4,e2⟩|⟨r,hr,h3,e2⟩
  ·exact .inl (mI.2 ⟨y,hy,by show ns.getD y.toNat 0=x;rw [e2];exact e⟩)
  ·exact .inr (.inl ⟨_,mO.2 ⟨r,hr,hasT h3,rfl⟩,by show ns.getD r.f2.toNat 0=x;rw [e2];exact e⟩)
  ·exact .inr (.inr (.inl ⟨_,mC.2 ⟨r,hr,hasT h3,h4.imp id fun h5=>(has_iff.1 h5).2,rfl⟩,by show ns.getD r.f3.toNat 0=x;rw [e2];exact e⟩))
  exact .inr (.inr (.inr ⟨_,mP.2 ⟨r,hr,hasT h3,rfl⟩,by show ns.getD r.f2.toNat 0=x;rw [e2];exact e⟩))
 obtain ⟨q, hq, e⟩ := M4 x h1 (by have : x ≤ M - 1 := h2; omega)
 obtain⟨r,hr,h3,e2⟩:=rs.mr q hq
 exact⟨_,mO.2 ⟨r,hr,hasT h3,rfl⟩,by show ms.getD r.f3.toNat 0=x;rw [e2];exact e⟩
end Go.Proofs.YtejpijgfpbcibaaGreat.P
end
section
namespace Go.Proofs.YtejpijgfpbcibaaGreat.P
open Go.RowKit Go.Proofs.YtejpijgfpbcibaaGreatW.PrintWords Go.Proofs.YtejpijgfpbcibaaGreatW.PrintLast Go.Proofs.YtejpijgfpbcibaaGreatW.PrintMore Go.Proofs.YtejpijgfpbcibaaGreat.M
theorem numR_up:∀(l:List Bool) (a:Int),0≤a→a+l.length < 1000000000→∀q q' : Nat,q < q'→tt l q→tt l q'→(numR l a).1.getD q 0 < (numR l a).1.getD q' 0
 | [],a,_,_,q,q',_,h,_=>by have:=tt_lt h;simp at this
 | true :: l,a,h0,hb,q,q',hq,h1,h2=>by
  simp only [List.length_cons] at hb
  have e:wrap64 (a+1)=a+1:=by unfold wrap64;omega
  simp only [numR,e]
  obtain⟨q',rfl⟩:∃z,q' = z+1:=⟨q' - 1,by omega⟩
  cases q with
  | zero=>
   have:=((numR_spec l (a+1) (by omega) (by omega)).2.2.1 q' h2).1
   simp only [List.getD_cons_succ,List.getD_cons_zero]
   omega
  | succ q=>
   simp only [List.getD_cons_succ]
   exact numR_up l (a+1) (by omega) (by omega) q q' (by omega) h1 h2
 | false :: l,a,h0,hb,q,q',hq,h1,h2=>by
  simp only [List.length_cons] at hb
  simp only [numR]
  obtain⟨q',rfl⟩:∃z,q' = z+1:=⟨q' - 1,by omega⟩
  cases q with
  | zero=>cases h1
  | succ q=>
   simp only [List.getD_cons_succ]
   exact numR_up l a h0 (by omega) q q' (by omega) h1 h2
section
variable {i : List Int} {o : List TOpen} {c : List TClose} {p : List TInner}
structure Shuts (i:List Int) (o:List TOpen) (c:List TClose) (p:List TInner) (A B:Int→Prop):Prop where
 i:∀x∈i,A x
 o:∀r∈o,A r.f0→A r.f2∧B r.f3
 c:∀r∈c,A r.f0→(r.f2=0∨B r.f2)→A r.f3
 p:∀r∈p,A r.f0→A r.f2
def Ins_ (A B:Int→Prop) (s:TS):Prop:=(∀q:Nat,tt s.st q→A (q:Int))∧(∀m:Nat,tt s.mr m→B (m:Int))
theorem ins_has {l:List Bool} {k:Int} {A:Int→Prop} (h:∀q:Nat,tt l q→A (q:Int)) (hk:hasB l k=true):A k:=by
 obtain⟨h0,h1⟩:=has_iff.1 hk
 have:=h _ h1
 rwa [Int.toNat_of_nonneg h0] at this
theorem ins_lay {l:List Bool} {k:Int} {A:Int→Prop} (h:∀q:Nat,tt l q→A (q:Int)) (hk:A k):∀q:Nat,tt (layL l k) q→A (q:Int):=fun q hq=>by
 rcases tt_lay hq with h1|⟨rfl,h0⟩
 ·exact h q h1
 rwa [Int.toNat_of_nonneg h0]
theorem ins_fold {α:Type} {f:TS→α→TS} {A B:Int→Prop} : ∀{m:List α} (hf:∀s,Ins_ A B s→∀r∈m,Ins_ A B (f s r)) {s:TS},Ins_ A B s→Ins_ A B (m.foldl f s)
 | [],_,s,h=>h
 | r :: m,hf,s,h=>ins_fold (m:=m) (fun s hs r hr=>hf s hs r (List.mem_cons_of_mem _ hr)) (hf s h r (List.mem_cons_self ..))
theorem ins_round {A B:Int→Prop} (h:Shuts i o c p A B) {s:TS} (hs:Ins_ A B s):Ins_ A B (roundL s o c p):=by
 have h1:Ins_ A B (o.foldl stepO s):=ins_fold (fun s hs r hr=>by
  unfold stepO
  split
  ·rename_i hk
   have h2:=h.o r hr (ins_has hs.1 hk)
   exact⟨ins_lay hs.1 h2.1,ins_lay hs.2 h2.2⟩
  exact hs) hs
 have h2:Ins_ A B (c.foldl stepC (o.foldl stepO s)):=ins_fold (fun s hs r hr=>by
  unfold stepC
  split
  ·rename_i hk
   simp only [Bool.and_eq_true,Bool.or_eq_true,decide_eq_true_eq] at hk
   exact⟨ins_lay hs.1 (h.c r hr (ins_has hs.1 hk.1) (hk.2.imp id (ins_has hs.2))),hs.2⟩
  exact hs) h1
 exact ins_fold (fun s hs r hr=>by
  unfold stepI
  split
  ·rename_i hk
   exact⟨ins_lay hs.1 (h.p r hr (ins_has hs.1 hk)),hs.2⟩
  exact hs) h2
theorem ins_trimK {A B:Int→Prop} (h:Shuts i o c p A B):∀(k:Nat) {s:TS},Ins_ A B s→Ins_ A B (trimK o c p k s)
 | 0,s,hs=>hs
 | k+1,s,hs=>by
  show Ins_ A B (if s.gr=true then _ else s)
  split
  ·exact ins_trimK h k (ins_round h (s:=⟨s.st,s.mr,false⟩) hs)
  exact hs
end
structure TMap (n g:Int) (i f:List Int) (o:List TOpen) (c:List TClose) (p:List TInner) (v:Int × Int × List Int × List Int × List TOpen × List TClose × List TInner) (P Q:Int→Prop) (φ ψ:Int→Int):Prop where
 sh:Shuts i o c p P Q
 rn:∀x,0≤x→P x→x < n
 rg:∀x,0≤x→Q x→1≤x∧x≤g
 up:∀x y,0≤x→x < y→P x→P y→φ x < φ y
 um:∀x y,0≤x→x < y→Q x→Q y→ψ x < ψ y
 nn:∀x,P x→0≤φ x∧φ x < v.1
 mm:∀x,Q x→1≤ψ x∧ψ x≤v.2.1
 m0:ψ 0=0
 on:∀y,0≤y→y < v.1→∃x,0≤x∧P x∧φ x=y
 om:∀y,1≤y→y≤v.2.1→∃x,0≤x∧Q x∧ψ x=y
 mi:∀y,y∈v.2.2.1↔∃x∈i,φ x=y
 mf:∀y,y∈v.2.2.2.1↔∃x∈f,P x∧φ x=y
 mo:∀y,y∈v.2.2.2.2.1↔∃r∈o,P r.f0∧(⟨φ r.f0,r.f1,φ r.f2,ψ r.f3⟩:TOpen)=y
 mc:∀y,y∈v.2.2.2.2.2.1↔∃r∈c,P r.f0∧(r.f2=0∨Q r.f2)∧(⟨φ r.f0,r.f1,ψ r.f2,φ r.f3⟩:TClose)=y
 mp:∀y,y∈v.2.2.2.2.2.2↔∃r∈p,P r.f0∧(⟨φ r.f0,r.f1,φ r.f2⟩:TInner)=y
 ls:∀A B,Shuts i o c p A B→(∀x,0≤x→P x→A x)∧(∀m,0≤m→Q m→B m)
 s2:v.2.2.1.Pairwise (fun x y=>cmpInt x y < 0)
 s3:v.2.2.2.1.Pairwise (fun x y=>cmpInt x y < 0)
 s4:v.2.2.2.2.1.Pairwise (fun x y=>cmpOpen x y < 0)
 s5:v.2.2.2.2.2.1.Pairwise (fun x y=>cmpClose x y < 0)
 s6:v.2.2.2.2.2.2.Pairwise (fun x y=>cmpInner x y < 0)
theorem trim_map {l:List S51} {n g:Int} {i f:List Int} {o:List TOpen} {c:List TClose} {p:List TInner} (h:MayBe l n g i f o c p):∃(P Q:Int→Prop) (φ ψ:Int→Int),TMap n g i f o c p (trimV (trimS n g i o c p) i f o c p) P Q φ ψ:=by
 have hn:=h.hn
 have hg:=h.hg
 obtain⟨s0,hs0⟩:∃s0,s0=initS n g i:=⟨_,rfl⟩
 obtain⟨s,hs⟩:∃s,s=trimS n g i o c p:=⟨_,rfl⟩
 have es:s=trimK o c p (meas s0) s0:=by rw [hs,hs0];rfl
 have hlen:=len_trimK o c p (meas s0) s0
 rw [←es] at hlen
 have l0:s0.st.length=n.toNat∧s0.mr.length=(g+1).toNat:=by
  rw [hs0]
  refine⟨?_,by simp [initS]⟩
  have:∀(i:List Int) (m:List Bool),(i.foldl (fun l k=>l.set k.toNat true) m).length=m.length:=by
   intro i
   induction i with
   | nil=>intro m;rfl
   | cons x i ih=>intro m;rw [List.foldl_cons,ih,List.length_set]
  show (i.foldl (fun l k=>l.set k.toNat true) (List.replicate n.toNat false)).length=_
  rw [this,List.length_replicate]
 have ls:s.st.length=n.toNat:=hlen.1.trans l0.1
 have lm:s.mr.length=(g+1).toNat:=hlen.2.trans l0.2
 have r0:Rch i o c p s0:=by
  rw [hs0]
  refine⟨fun q hq=>?_,fun q hq=>absurd hq tt_rep⟩
  rcases(init_tt i _ q).1 hq with h1|⟨x,hx,e,_⟩
  ·exact absurd h1 tt_rep
  exact .inl ⟨x,hx,e⟩
 have rk:=Rch.tk (meas s0) r0
 rw [←es] at rk
 obtain⟨rs,hle⟩:=rk
 have sh:Shut_ o c p s:=by
  rw [es]
  refine trimK_shut _ (Nat.le_refl _) (fun hg=>?_)
  rw [hs0] at hg
  cases hg
 have iS:∀x∈i,tt s.st x.toNat:=fun x hx=>hle.st _ (by
  have h1:=h.hi x hx
  rw [hs0]
  exact(init_tt i _ _).2 (.inr ⟨x,hx,rfl,by rw [List.length_replicate];omega⟩))
 have mr0:¬tt s.mr 0:=fun h0=>by
  obtain⟨r,hr,_,e⟩:=rs.mr 0 h0
  have:=(h.ho r hr).2.2.2.1
  omega
 obtain⟨S1,S2,S3,S4⟩:=numR_spec s.st 0 (by omega) (by omega)
 obtain⟨M1,M2,M3,M4⟩:=numR_spec s.mr 1 (by omega) (by omega)
 have M5:(numR s.mr 1).2≤1+g∧(numR s.mr 1).1.getD 0 0=0:=by
  cases hm:s.mr with
  | nil=>rw [hm] at lm;simp at lm;omega
  | cons b tl=>
   rw [hm] at mr0 lm
   cases b with
   | true=>exact absurd rfl mr0
   | false=>
    simp only [List.length_cons] at lm
    have:=(numR_spec tl 1 (by omega) (by omega)).2.1
    simp only [numR]
    exact⟨by omega,rfl⟩
 have UP:=numR_up s.st 0 (by omega) (by omega)
 have UM:=numR_up s.mr 1 (by omega) (by omega)
 have LS:∀A B,Shuts i o c p A B→Ins_ A B s:=fun A B hs2=>by
  rw [es]
  refine ins_trimK hs2 _ ?_
  rw [hs0]
  refine⟨fun q hq=>?_,fun q hq=>absurd hq tt_rep⟩
  rcases(init_tt i _ q).1 hq with h1|⟨x,hx,e,_⟩
  ·exact absurd h1 tt_rep
  have h2 := hs2.i x hx
  rw [←e,Int.toNat_of_nonneg (h.hi x hx).1]
  exact h2
 obtain⟨N,hN⟩:∃N,N=(numR s.st 0).2:=⟨_,rfl⟩
 obtain⟨ns,hns⟩:∃ns,ns=(numR s.st 0).1:=⟨_,rfl⟩
 obtain⟨M,hM⟩:∃M,M=(numR s.mr 1).2:=⟨_,rfl⟩
 obtain⟨ms,hms⟩:∃ms,ms=(numR s.mr 1).1:=⟨_,rfl⟩
 have ev:trimV (trimS n g i o c p) i f o c p=(N,wrap64 (M - 1),onceC cmpInt (i.map (rdI ns)),onceC cmpInt ((f.filter (rdB s.st)).map (rdI ns)),onceC cmpOpen (trimO s.st ns ms o),onceC cmpClose (trimC s.st s.mr ns ms c),onceC cmpInner (trimI s.st ns p)):=by
  rw [←hs,hN,hns,hM,hms];rfl
 rw [←hN] at S1 S2 S3 S4
 rw [←hns] at S3 S4 UP
 rw [←hM] at M1 M2 M3 M4 M5
 rw [←hms] at M3 M4 M5 UM
 have eG:wrap64 (M - 1)=M - 1:=by unfold wrap64;omega
 rw [ev,eG]
 clear ev eG hN hns hM hms hs es hs0
 have inS:∀{k:Int},tt s.st k.toNat→0≤rdI ns k∧rdI ns k < N:=fun hk=>S3 _ hk
 have inM:∀{k:Int},tt s.mr k.toNat→1≤rdI ms k∧rdI ms k < M:=fun hk=>M3 _ hk
 have oS:∀r∈o,tt s.st r.f0.toNat→tt s.st r.f2.toNat∧tt s.mr r.f3.toNat:=fun r hr ht=>by
  have h1:=h.ho r hr
  have h2:=sh.ho r hr (has_iff.2 ⟨h1.1.1,ht⟩)
  exact⟨lay_no h2.1 h1.2.1.1 (by omega),lay_no h2.2 (by omega) (by omega)⟩
 have cS:∀r∈c,tt s.st r.f0.toNat→(r.f2=0∨tt s.mr r.f2.toNat)→tt s.st r.f3.toNat:=fun r hr ht hm=>by
  have h1:=h.hc r hr
  have h2:=sh.hc r hr (has_iff.2 ⟨h1.1.1,ht⟩) (hm.imp id fun hm=>has_iff.2 ⟨h1.2.2.2.1,hm⟩)
  exact lay_no h2 h1.2.1.1 (by omega)
 have pS:∀r∈p,tt s.st r.f0.toNat→tt s.st r.f2.toNat:=fun r hr ht=>by
  have h1:=h.hp r hr
  have h2:=sh.hp r hr (has_iff.2 ⟨h1.1.1,ht⟩)
  exact lay_no h2 h1.2.1.1 (by omega)
 have mI:∀{v:Int},v∈onceC cmpInt (i.map (rdI ns))↔∃x∈i,rdI ns x=v:=by
  intro v;rw [totalInt.mem_once,List.mem_map]
 have mO:∀{v:TOpen},v∈onceC cmpOpen (trimO s.st ns ms o)↔∃r∈o,tt s.st r.f0.toNat∧(⟨rdI ns r.f0,r.f1,rdI ns r.f2,rdI ms r.f3⟩:TOpen)=v:=by
  intro v;rw [totalOpen.mem_once];unfold trimO;rw [List.mem_map]
  exact⟨fun ⟨r,h1,h2⟩=>⟨r,(List.mem_filter.1 h1).1,(List.mem_filter.1 h1).2,h2⟩,fun ⟨r,h1,h2,h3⟩=>⟨r,List.mem_filter.2 ⟨h1,h2⟩,h3⟩⟩
 have mC:∀{v:TClose},v∈onceC cmpClose (trimC s.st s.mr ns ms c)↔∃r∈c,tt s.st r.f0.toNat∧(r.f2=0∨tt s.mr r.f2.toNat)∧(⟨rdI ns r.f0,r.f1,rdI ms r.f2,rdI ns r.f3⟩:TClose)=v:=by
  intro v;rw [totalClose.mem_once];unfold trimC;rw [List.mem_map]
  refine⟨fun ⟨r,h1,h2⟩=>?_,fun ⟨r,h1,h2,h3,h4⟩=>⟨r,List.mem_filter.2 ⟨h1,?_⟩,h4⟩⟩
  ·have h3 := (List.mem_filter.1 h1).2
   simp only [Bool.and_eq_true,Bool.or_eq_true,decide_eq_true_eq] at h3
   exact⟨r,(List.mem_filter.1 h1).1,h3.1,h3.2,h2⟩
  simp only [Bool.and_eq_true, Bool.or_eq_true, decide_eq_true_eq]
  exact⟨h2,h3⟩
 have mP:∀{v:TInner},v∈onceC cmpInner (trimI s.st ns p)↔∃r∈p,tt s.st r.f0.toNat∧(⟨rdI ns r.f0,r.f1,rdI ns r.f2⟩:TInner)=v:=by
  intro v;rw [totalInner.mem_once];unfold trimI;rw [List.mem_map]
  exact⟨fun ⟨r,h1,h2⟩=>⟨r,(List.mem_filter.1 h1).1,(List.mem_filter.1 h1).2,h2⟩,fun ⟨r,h1,h2,h3⟩=>⟨r,List.mem_filter.2 ⟨h1,h2⟩,h3⟩⟩
 refine⟨fun x=>tt s.st x.toNat,fun x=>tt s.mr x.toNat,rdI ns,rdI ms,⟨⟨iS,oS,cS,pS⟩,fun x h0 hx=>by have:=tt_lt hx;omega,fun x h0 hx=>by
  have h1:=tt_lt hx
  refine⟨?_,by omega⟩
  rcases Nat.eq_zero_or_pos x.toNat with h2|h2
  ·have h3 : tt s.mr x.toNat := hx
   rw [h2] at h3
   exact absurd h3 mr0
  omega,fun x y h0 h1 hx hy=>UP _ _ (by omega) hx hy,fun x y h0 h1 hx hy=>UM _ _ (by omega) hx hy,fun x hx=>inS hx,fun x hx=>?_,M5.2,fun y h0 h1=>?_,fun y h0 h1=>?_,fun y=>mI,fun y=>?_,fun y=>mO,fun y=>mC,fun y=>mP,fun A B hs2=>?_,totalInt.once_sorted _,totalInt.once_sorted _,totalOpen.once_sorted _,totalClose.once_sorted _,totalInner.once_sorted _⟩⟩
 ·have := inM hx
  exact⟨this.1,by show rdI ms x≤M - 1;omega⟩
 ·obtain ⟨q, hq, e⟩ := S4 y h0 h1
  exact⟨(q:Int),by omega,by rw [Int.toNat_natCast];exact hq,by show ns.getD ((q:Int)).toNat 0=y;rw [Int.toNat_natCast];exact e⟩
 ·obtain ⟨q, hq, e⟩ := M4 y h0 (by have : y ≤ M - 1 := h1; omega)
  exact⟨(q:Int),by omega,by rw [Int.toNat_natCast];exact hq,by show ms.getD ((q:Int)).toNat 0=y;rw [Int.toNat_natCast];exact e⟩
 ·show y ∈ onceC cmpInt ((f.filter (rdB s.st)).map (rdI ns)) ↔ _
  rw [totalInt.mem_once,List.mem_map]
  exact⟨fun ⟨x,h1,h2⟩=>⟨x,(List.mem_filter.1 h1).1,(List.mem_filter.1 h1).2,h2⟩,fun ⟨x,h1,h2,h3⟩=>⟨x,List.mem_filter.2 ⟨h1,h2⟩,h3⟩⟩
 have h1 := LS A B hs2
 refine⟨fun x h0 hx=>?_,fun x h0 hx=>?_⟩
 ·have := h1.1 _ hx
  rwa [Int.toNat_of_nonneg h0] at this
 have := h1.2 _ hx
 rwa [Int.toNat_of_nonneg h0] at this
end Go.Proofs.YtejpijgfpbcibaaGreat.P
end
section
namespace Go.Proofs.YtejpijgfpbcibaaGreat.P
open Go.RowKit Go.Proofs.YtejpijgfpbcibaaGreatW.PrintWords Go.Proofs.YtejpijgfpbcibaaGreatW.PrintLast Go.Proofs.YtejpijgfpbcibaaGreatW.PrintMore Go.Proofs.YtejpijgfpbcibaaGreat.M
theorem up_id {a n m:Int} {P:Int→Prop} {φ:Int→Int} (h0:0≤a) (all:∀x,a≤x→x < n→P x) (rn:∀x,0≤x→P x→a≤x∧x < n) (up:∀x y,0≤x→x < y→P x→P y→φ x < φ y) (nn:∀x,P x→a≤φ x∧φ x < m) (on:∀y,a≤y→y < m→∃x,0≤x∧P x∧φ x=y) (ha:a≤n) (hm:a≤m) :
 m=n∧∀x,a≤x→x < n→φ x=x:=by
 have key:∀(d:Nat) (x:Int),x=a+d→x < n→φ x=x:=by
  intro d
  induction d using Nat.strongRecOn with
  | ind d ih=>
   intro x hx hn
   have hP:=all x (by omega) hn
   have h1:=nn x hP
   have lo:x≤φ x:=by
    cases d with
    | zero=>omega
    | succ d=>
     have h2:=ih d (by omega) (x - 1) (by omega) (by omega)
     have h3:=up (x - 1) x (by omega) (by omega) (all _ (by omega) (by omega)) hP
     omega
   by_cases hx2:φ x=x
   ·exact hx2
   obtain ⟨y, hy0, hyP, hy⟩ := on x (by omega) (by omega)
   have hr:=rn y hy0 hyP
   rcases Int.lt_trichotomy y x with h|h|h
   ·have h4 := ih (y - a).toNat (by omega) y (by omega) (by omega)
    omega
   ·rw [h] at hy;exact absurd hy hx2
   have h5 := up x y (by omega) h hP hyP
   omega
 have all2:∀x,a≤x→x < n→φ x=x:=fun x h1 h2=>key (x - a).toNat x (by omega) h2
 refine⟨?_,all2⟩
 rcases Int.lt_trichotomy m n with h|h|h
 ·have h1 := all2 (n - 1) (by omega) (by omega)
  have h2:=(nn (n - 1) (all _ (by omega) (by omega))).2
  omega
 ·exact h
 obtain ⟨x, hx0, hxP, hx⟩ := on n ha (by omega)
 have hr:=rn x hx0 hxP
 have:=all2 x hr.1 hr.2
 omega
theorem trim_again {l:List S51} {n g:Int} {i f:List Int} {o:List TOpen} {c:List TClose} {p:List TInner} (h:MayBe l n g i f o c p) {n' g' : Int} {i' f' : List Int} {o' : List TOpen} {c' : List TClose} {p' : List TInner}
 (hv:trimV (trimS n g i o c p) i f o c p=(n',g',i',f',o',c',p')):trimV (trimS n' g' i' o' c' p') i' f' o' c' p' = (n',g',i',f',o',c',p'):=by
 have hL:=trim_left h
 obtain⟨P,Q,φ,ψ,T⟩:=trim_map h
 rw [hv] at hL T
 have hM:MayBe l n' g' i' f' o' c' p':=hL.may
 obtain⟨P',Q',φ',ψ',T'⟩:=trim_map hM
 obtain⟨v,hv2⟩:∃v,v=trimV (trimS n' g' i' o' c' p') i' f' o' c' p':=⟨_,rfl⟩
 have hL2:=trim_left hM
 rw [←hv2] at T' hL2 ⊢
 clear hv2 hv hL
 obtain⟨n2,g2,i2,f2,o2,c2,p2⟩:=v
 have hM2:MayBe l n2 g2 i2 f2 o2 c2 p2:=hL2.may
 clear hL2
 have S:Shuts i o c p (fun x=>P x∧P' (φ x)) (fun m=>Q m∧Q' (ψ m)):=by
  refine⟨fun x hx=>⟨T.sh.i x hx,T'.sh.i _ ((T.mi _).2 ⟨x,hx,rfl⟩)⟩,fun r hr h1=>?_,fun r hr h1 h2=>?_,fun r hr h1=>?_⟩
  ·have h2 := T.sh.o r hr h1.1
   have h3:=T'.sh.o _ ((T.mo _).2 ⟨r,hr,h1.1,rfl⟩) h1.2
   exact⟨⟨h2.1,h3.1⟩,⟨h2.2,h3.2⟩⟩
  ·have h3 : r.f2 = 0 ∨ Q r.f2 := h2.imp id And.left
   refine⟨T.sh.c r hr h1.1 h3,T'.sh.c _ ((T.mc _).2 ⟨r,hr,h1.1,h3,rfl⟩) h1.2 ?_⟩
   rcases h2 with h2|h2
   ·exact .inl (by show ψ r.f2=0;rw [h2];exact T.m0)
   exact .inr h2.2
  exact⟨T.sh.p r hr h1.1,T'.sh.p _ ((T.mp _).2 ⟨r,hr,h1.1,rfl⟩) h1.2⟩
 have L:=T.ls _ _ S
 have aP:∀y,0≤y→y < n'→P' y:=fun y h0 h1=>by
  obtain⟨x,hx0,hx,rfl⟩:=T.on y h0 h1
  exact(L.1 x hx0 hx).2
 have aQ:∀y,1≤y→y < g' + 1→Q' y:=fun y h0 h1=>by
  obtain⟨x,hx0,hx,rfl⟩:=T.om y h0 (by show y≤g';omega)
  exact(L.2 x hx0 hx).2
 have N:=up_id (a:=0) (n:=n') (m:=n2) (by omega) aP (fun x h0 hx=>⟨h0,T'.rn x h0 hx⟩) T'.up T'.nn T'.on hM.hn.1 hM2.hn.1
 have G:=up_id (a:=1) (n:=g' + 1) (m:=g2+1) (by omega) aQ (fun x h0 hx=>by have:=T'.rg x h0 hx;omega) T'.um (fun x hx=>by have h1:=T'.mm x hx;have h2:ψ' x≤g2:=h1.2;exact⟨h1.1,by omega⟩) (fun y h0 h1=>T'.om y h0 (by show y≤g2;omega)) (by have:=hM.hg.1;omega) (by have:=hM2.hg.1;omega)
 have eN:n2=n':=N.1
 have eG:g2=g':=by have:=G.1;omega
 have fN:∀x,0≤x∧x < n'→φ' x=x:=fun x hx=>N.2 x hx.1 hx.2
 have fG:∀x,0≤x→x≤g'→ψ' x=x:=fun x h0 h1=>by
  rcases Int.lt_or_eq_of_le h0 with h2|h2
  ·exact G.2 x (by omega) (by omega)
  rw [←h2];exact T'.m0
 have e2:i2=i':=totalInt.unique T'.s2 T.s2 (fun y=>(T'.mi y).trans ⟨fun ⟨x,hx,e⟩=>by rw [←e,fN x (hM.hi x hx)];exact hx,fun hy=>⟨y,hy,fN y (hM.hi y hy)⟩⟩)
 have e3:f2=f':=totalInt.unique T'.s3 T.s3 (fun y=>(T'.mf y).trans ⟨fun ⟨x,hx,_,e⟩=>by rw [←e,fN x (hM.hf x hx)];exact hx,fun hy=>⟨y,hy,aP y (hM.hf y hy).1 (hM.hf y hy).2,fN y (hM.hf y hy)⟩⟩)
 have e4:o2=o':=totalOpen.unique T'.s4 T.s4 (fun y=>(T'.mo y).trans (by
  have id:∀r∈o',(⟨φ' r.f0,r.f1,φ' r.f2,ψ' r.f3⟩:TOpen)=r:=fun r hr=>by
   have h1:=hM.ho r hr
   rw [fN _ h1.1,fN _ h1.2.1,fG _ (by omega) h1.2.2.2.2]
  exact⟨fun ⟨r,hr,_,e⟩=>by rw [←e,id r hr];exact hr,fun hy=>⟨y,hy,aP _ (hM.ho y hy).1.1 (hM.ho y hy).1.2,id y hy⟩⟩))
 have e5:c2=c':=totalClose.unique T'.s5 T.s5 (fun y=>(T'.mc y).trans (by
  have id:∀r∈c',(⟨φ' r.f0,r.f1,ψ' r.f2,φ' r.f3⟩:TClose)=r:=fun r hr=>by
   have h1:=hM.hc r hr
   rw [fN _ h1.1,fN _ h1.2.1,fG _ h1.2.2.2.1 h1.2.2.2.2]
  exact⟨fun ⟨r,hr,_,_,e⟩=>by rw [←e,id r hr];exact hr,fun hy=>⟨y,hy,aP _ (hM.hc y hy).1.1 (hM.hc y hy).1.2,by
   have h1:=hM.hc y hy
   by_cases h2:y.f2=0
   ·exact .inl h2
   exact .inr (aQ _ (by omega) (by omega)),id y hy⟩⟩))
 have e6:p2=p':=totalInner.unique T'.s6 T.s6 (fun y=>(T'.mp y).trans (by
  have id:∀r∈p',(⟨φ' r.f0,r.f1,φ' r.f2⟩:TInner)=r:=fun r hr=>by
   have h1:=hM.hp r hr
   rw [fN _ h1.1,fN _ h1.2.1]
  exact⟨fun ⟨r,hr,_,e⟩=>by rw [←e,id r hr];exact hr,fun hy=>⟨y,hy,aP _ (hM.hp y hy).1.1 (hM.hp y hy).1.2,id y hy⟩⟩))
 rw [eN,eG,e2,e3,e4,e5,e6]
end Go.Proofs.YtejpijgfpbcibaaGreat.P
end
section
namespace Go.Proofs.YtejpijgfpbcibaaGreat.P
open Go.RowKit Go.Proofs.YtejpijgfpbcibaaGreatW.PrintWords Go.Proofs.YtejpijgfpbcibaaGreatW.PrintLast Go.Proofs.YtejpijgfpbcibaaGreatW.PrintMore Go.Proofs.YtejpijgfpbcibaaGreat.M
theorem in_nOpen {os:List TOpen} {k:Int} {row:Row} {x:Int × Int} : x∈nOpen os k row↔∃q∈row,∃r∈os,r.f0=q.2∧r.f1=k∧x=(r.f2,r.f2):=by
 simp only [nOpen,List.mem_flatMap,List.mem_filterMap]
 constructor
 ·rintro ⟨q, hq, r, hr, h⟩
  split at h
  ·rename_i hk
   exact⟨q,hq,r,hr,hk.1,hk.2,(Option.some.inj h).symm⟩
  cases h
 rintro ⟨q, hq, r, hr, h1, h2, rfl⟩
 exact⟨q,hq,r,hr,by rw [if_pos ⟨h1,h2⟩]⟩
theorem in_nClose {cs:List TClose} {k:Int} {row:Row} {x:Int × Int} : x∈nClose cs k row↔∃q∈row,∃r∈cs,r.f0=q.2∧r.f1=k∧r.f2=0∧x=(q.1,r.f3):=by
 simp only [nClose,List.mem_flatMap,List.mem_filterMap]
 constructor
 ·rintro ⟨q, hq, r, hr, h⟩
  split at h
  ·rename_i hk
   exact⟨q,hq,r,hr,hk.1,hk.2.1,hk.2.2,(Option.some.inj h).symm⟩
  cases h
 rintro ⟨q, hq, r, hr, h1, h2, h3, rfl⟩
 exact⟨q,hq,r,hr,by rw [if_pos ⟨h1,h2,h3⟩]⟩
theorem in_nInner {is:List TInner} {k:Int} {row:Row} {x:Int × Int} : x∈nInner is k row↔∃q∈row,∃r∈is,r.f0=q.2∧r.f1=k∧x=(q.1,r.f2):=by
 simp only [nInner,List.mem_flatMap,List.mem_filterMap]
 constructor
 ·rintro ⟨q, hq, r, hr, h⟩
  split at h
  ·rename_i hk
   exact⟨q,hq,r,hr,hk.1,hk.2,(Option.some.inj h).symm⟩
  cases h
 rintro ⟨q, hq, r, hr, h1, h2, rfl⟩
 exact⟨q,hq,r,hr,by rw [if_pos ⟨h1,h2⟩]⟩
theorem in_nBack {os:List TOpen} {cs:List TClose} {k by_:Int} {under row:Row} {x:Int × Int} : x∈nBack os cs k by_ under row↔∃q∈under,∃r∈os,r.f0=q.2∧r.f1=by_∧∃s∈cs,s.f1=k∧s.f2=r.f3∧(r.f2,s.f0)∈row∧x=(q.1,s.f3):=by
 simp only [nBack,List.mem_flatMap,List.mem_filterMap,List.mem_filter,decide_eq_true_eq]
 constructor
 ·rintro ⟨q, hq, r, ⟨hr, h1, h2⟩, s, hs, h⟩
  split at h
  ·rename_i hk
   exact⟨q,hq,r,hr,h1,h2,s,hs,hk.1,hk.2.1,hk.2.2,(Option.some.inj h).symm⟩
  cases h
 rintro ⟨q, hq, r, hr, h1, h2, s, hs, h3, h4, h5, rfl⟩
 exact⟨q,hq,r,⟨hr,h1,h2⟩,s,hs,by rw [if_pos ⟨h3,h4,h5⟩]⟩
def Good (P:Int→Prop) (row:Row):Prop:=∀q∈row,(0≤q.1∧P q.1)∧(0≤q.2∧P q.2)
def Rel (φ:Int→Int) (row row' : Row):Prop:=∀x,x∈row'↔∃q∈row,x=(φ q.1,φ q.2)
def RelU (P:Int→Prop) (φ:Int→Int):List (Row × Int)→List (Row × Int)→Prop
 | [],[]=>True
 | u :: us,v :: vs=>(Rel φ u.1 v.1∧Good P u.1∧u.2=v.2)∧RelU P φ us vs
 | _,_=>False
section
variable {l : List S51} {n g : Int} {i f : List Int} {o : List TOpen} {c : List TClose} {p : List TInner} {n' g' : Int} {i' f' : List Int} {o' : List TOpen} {c' : List TClose} {p' : List TInner} {P Q : Int → Prop} {φ ψ : Int → Int} {row row' under under' : Row} {k by_ : Int}
theorem TMap.inj (T:TMap n g i f o c p (n',g',i',f',o',c',p') P Q φ ψ) {x y:Int} (hx0:0≤x) (hx:P x) (hy0:0≤y) (hy:P y) (e:φ x=φ y):x=y:=by
 rcases Int.lt_trichotomy x y with h|h|h
 ·have:=T.up x y hx0 h hx hy;omega
 ·exact h
 have:=T.up y x hy0 h hy hx;omega
theorem TMap.injM (T:TMap n g i f o c p (n',g',i',f',o',c',p') P Q φ ψ) {x y:Int} (hx0:0≤x) (hx:Q x) (hy0:0≤y) (hy:Q y) (e:ψ x=ψ y):x=y:=by
 rcases Int.lt_trichotomy x y with h|h|h
 ·have:=T.um x y hx0 h hx hy;omega
 ·exact h
 have:=T.um y x hy0 h hy hx;omega
variable (h : MayBe l n g i f o c p) (T : TMap n g i f o c p (n', g', i', f', o', c', p') P Q φ ψ)
include h T
theorem rel_open (hr:Rel φ row row') (hg:Good P row):Rel φ (nOpen o k row) (nOpen o' k row')∧Good P (nOpen o k row):=by
 refine⟨fun x=>?_,fun x hx=>?_⟩
 ·rw [in_nOpen]
  constructor
  ·rintro ⟨q', hq', r', hr', e1, e2, rfl⟩
   obtain⟨q,hq,rfl⟩:=(hr _).1 hq'
   obtain⟨r,hro,hP,rfl⟩:=(T.mo _).1 hr'
   have hh:=h.ho r hro
   have e3:r.f0=q.2:=T.inj hh.1.1 hP (hg q hq).2.1 (hg q hq).2.2 e1
   exact⟨_,in_nOpen.2 ⟨q,hq,r,hro,e3,e2,rfl⟩,rfl⟩
  rintro ⟨x, hx, rfl⟩
  obtain⟨q,hq,r,hro,e1,e2,rfl⟩:=in_nOpen.1 hx
  have hP:P r.f0:=by rw [e1];exact(hg q hq).2.2
  exact⟨_,(hr _).2 ⟨q,hq,rfl⟩,_,(T.mo _).2 ⟨r,hro,hP,rfl⟩,by show φ r.f0=φ q.2;rw [e1],e2,rfl⟩
 obtain ⟨q, hq, r, hro, e1, e2, rfl⟩ := in_nOpen.1 hx
 have hP:P r.f0:=by rw [e1];exact(hg q hq).2.2
 have h2:=(T.sh.o r hro hP).1
 have hh:=h.ho r hro
 exact⟨⟨hh.2.1.1,h2⟩,⟨hh.2.1.1,h2⟩⟩
theorem rel_close (hr:Rel φ row row') (hg:Good P row):Rel φ (nClose c k row) (nClose c' k row')∧Good P (nClose c k row):=by
 refine⟨fun x=>?_,fun x hx=>?_⟩
 ·rw [in_nClose]
  constructor
  ·rintro ⟨q', hq', r', hr', e1, e2, e0, rfl⟩
   obtain⟨q,hq,rfl⟩:=(hr _).1 hq'
   obtain⟨r,hro,hP,hm,rfl⟩:=(T.mc _).1 hr'
   have hh:=h.hc r hro
   have e3:r.f0=q.2:=T.inj hh.1.1 hP (hg q hq).2.1 (hg q hq).2.2 e1
   have e4:r.f2=0:=by
    rcases hm with hm|hm
    ·exact hm
    have h1 := (T.mm _ hm).1
    have h2:ψ r.f2=0:=e0
    omega
   exact⟨_,in_nClose.2 ⟨q,hq,r,hro,e3,e2,e4,rfl⟩,rfl⟩
  rintro ⟨x, hx, rfl⟩
  obtain⟨q,hq,r,hro,e1,e2,e0,rfl⟩:=in_nClose.1 hx
  have hP:P r.f0:=by rw [e1];exact(hg q hq).2.2
  exact⟨_,(hr _).2 ⟨q,hq,rfl⟩,_,(T.mc _).2 ⟨r,hro,hP,.inl e0,rfl⟩,by show φ r.f0=φ q.2;rw [e1],e2,by show ψ r.f2=0;rw [e0];exact T.m0,rfl⟩
 obtain ⟨q, hq, r, hro, e1, e2, e0, rfl⟩ := in_nClose.1 hx
 have hP:P r.f0:=by rw [e1];exact(hg q hq).2.2
 have h2:=T.sh.c r hro hP (.inl e0)
 have hh:=h.hc r hro
 exact⟨(hg q hq).1,⟨hh.2.1.1,h2⟩⟩
theorem rel_inner (hr:Rel φ row row') (hg:Good P row):Rel φ (nInner p k row) (nInner p' k row')∧Good P (nInner p k row):=by
 refine⟨fun x=>?_,fun x hx=>?_⟩
 ·rw [in_nInner]
  constructor
  ·rintro ⟨q', hq', r', hr', e1, e2, rfl⟩
   obtain⟨q,hq,rfl⟩:=(hr _).1 hq'
   obtain⟨r,hro,hP,rfl⟩:=(T.mp _).1 hr'
   have hh:=h.hp r hro
   have e3:r.f0=q.2:=T.inj hh.1.1 hP (hg q hq).2.1 (hg q hq).2.2 e1
   exact⟨_,in_nInner.2 ⟨q,hq,r,hro,e3,e2,rfl⟩,rfl⟩
  rintro ⟨x, hx, rfl⟩
  obtain⟨q,hq,r,hro,e1,e2,rfl⟩:=in_nInner.1 hx
  have hP:P r.f0:=by rw [e1];exact(hg q hq).2.2
  exact⟨_,(hr _).2 ⟨q,hq,rfl⟩,_,(T.mp _).2 ⟨r,hro,hP,rfl⟩,by show φ r.f0=φ q.2;rw [e1],e2,rfl⟩
 obtain ⟨q, hq, r, hro, e1, e2, rfl⟩ := in_nInner.1 hx
 have hP:P r.f0:=by rw [e1];exact(hg q hq).2.2
 have h2:=T.sh.p r hro hP
 have hh:=h.hp r hro
 exact⟨(hg q hq).1,⟨hh.2.1.1,h2⟩⟩
theorem rel_back (hu:Rel φ under under') (gu:Good P under) (hr:Rel φ row row') (hg:Good P row):Rel φ (nBack o c k by_ under row) (nBack o' c' k by_ under' row')∧Good P (nBack o c k by_ under row):=by
 refine⟨fun x=>?_,fun x hx=>?_⟩
 ·rw [in_nBack]
  constructor
  ·rintro ⟨q', hq', r', hr', e1, e2, s', hs', e3, e4, e5, rfl⟩
   obtain⟨q,hq,rfl⟩:=(hu _).1 hq'
   obtain⟨r,hro,hP,rfl⟩:=(T.mo _).1 hr'
   obtain⟨s,hsc,hPs,hm,rfl⟩:=(T.mc _).1 hs'
   obtain⟨z,hz,ez⟩:=(hr _).1 e5
   have hh:=h.ho r hro
   have hc:=h.hc s hsc
   have a1:r.f0=q.2:=T.inj hh.1.1 hP (gu q hq).2.1 (gu q hq).2.2 e1
   have hQ:=T.sh.o r hro hP
   have a2:s.f2=r.f3:=by
    have e4' : ψ s.f2=ψ r.f3:=e4
    rcases hm with hm|hm
    ·rw [hm, T.m0] at e4'
     have:=(T.mm _ hQ.2).1
     omega
    exact T.injM hc.2.2.2.1 hm (by have:=hh.2.2.2.1;omega) hQ.2 e4'
   simp only [Prod.mk.injEq] at ez
   have b1:r.f2=z.1:=T.inj hh.2.1.1 hQ.1 (hg z hz).1.1 (hg z hz).1.2 ez.1
   have b2:s.f0=z.2:=T.inj hc.1.1 hPs (hg z hz).2.1 (hg z hz).2.2 ez.2
   exact⟨_,in_nBack.2 ⟨q,hq,r,hro,a1,e2,s,hsc,e3,a2,by rw [b1,b2];exact hz,rfl⟩,rfl⟩
  rintro ⟨x, hx, rfl⟩
  obtain⟨q,hq,r,hro,e1,e2,s,hsc,e3,e4,e5,rfl⟩:=in_nBack.1 hx
  have hP:P r.f0:=by rw [e1];exact(gu q hq).2.2
  have hQ:=T.sh.o r hro hP
  exact⟨_,(hu _).2 ⟨q,hq,rfl⟩,_,(T.mo _).2 ⟨r,hro,hP,rfl⟩,by show φ r.f0=φ q.2;rw [e1],e2,_,(T.mc _).2 ⟨s,hsc,(hg _ e5).2.2,.inr (by rw [e4];exact hQ.2),rfl⟩,e3,by show ψ s.f2=ψ r.f3;rw [e4],(hr _).2 ⟨_,e5,rfl⟩,rfl⟩
 obtain ⟨q, hq, r, hro, e1, e2, s, hsc, e3, e4, e5, rfl⟩ := in_nBack.1 hx
 have hP:P r.f0:=by rw [e1];exact(gu q hq).2.2
 have hQ:=T.sh.o r hro hP
 have h2:=T.sh.c s hsc (hg _ e5).2.2 (.inr (by rw [e4];exact hQ.2))
 exact⟨(gu q hq).1,⟨(h.hc s hsc).2.1.1,h2⟩⟩
theorem rel_go:∀(w:List Int) (row row' : Row) (by_:Int) (us us' : List (Row × Int)),Rel φ row row'→Good P row→RelU P φ us us'→
 (goT l o c p w row by_ us=none∧goT l o' c' p' w row' by_ us' = none)∨∃R R',goT l o c p w row by_ us=some R∧goT l o' c' p' w row' by_ us' = some R'∧Rel φ R R'∧Good P R:=by
 intro w
 induction w with
 | nil=>
  intro row row' by_ us us' hr hg hu
  refine .inr ⟨row,row',?_,?_,hr,hg⟩
  ·cases us<;>rfl
  cases us'<;>rfl
 | cons k w ih=>
  intro row row' by_ us us' hr hg hu
  by_cases hk:0≤k∧k < l.length
  ·by_cases k1 : (rd_T51 l k).f1 = 1
   ·rw [goT_open hk k1, goT_open hk k1]
    have h1:=rel_open h T (k:=k) hr hg
    exact ih _ _ _ _ _ h1.1 h1.2 ⟨⟨hr,hg,rfl⟩,hu⟩
   by_cases k2 : (rd_T51 l k).f1 = 2
   ·match us, us', hu with
    | [],[],_=>
     rw [goT_close0 hk k2,goT_close0 hk k2]
     have h1:=rel_close h T (k:=k) hr hg
     exact ih _ _ _ _ _ h1.1 h1.2 trivial
    | u :: us,v :: us',⟨hd,tl⟩=>
     rw [goT_close hk k2,goT_close hk k2]
     have h1:=rel_back h T (k:=k) (by_:=by_) hd.1 hd.2.1 hr hg
     rw [←hd.2.2]
     exact ih _ _ _ _ _ h1.1 h1.2 tl
   rw [goT_inner hk k1 k2, goT_inner hk k1 k2]
   have h1:=rel_inner h T (k:=k) hr hg
   exact ih _ _ _ _ _ h1.1 h1.2 hu
  refine .inl ⟨?_, ?_⟩
  ·cases us<;>(rw [goT.eq_def];simp only [];rw [if_neg hk])
  cases us'<;>(rw [goT.eq_def];simp only [];rw [if_neg hk])
theorem rel_takes (w:List Int):takesB l i f o c p w=takesB l i' f' o' c' p' w:=by
 have hr:Rel φ (i.map fun s=>(s,s)) (i'.map fun s=>(s,s)):=fun x=>by
  rw [List.mem_map]
  constructor
  ·rintro ⟨y, hy, rfl⟩
   obtain⟨s,hs,rfl⟩:=(T.mi _).1 hy
   exact⟨(s,s),List.mem_map.2 ⟨s,hs,rfl⟩,rfl⟩
  rintro ⟨q, hq, rfl⟩
  obtain⟨s,hs,rfl⟩:=List.mem_map.1 hq
  exact⟨φ s,(T.mi _).2 ⟨s,hs,rfl⟩,rfl⟩
 have hg:Good P (i.map fun s=>(s,s)):=fun q hq=>by
  obtain⟨s,hs,rfl⟩:=List.mem_map.1 hq
  exact⟨⟨(h.hi s hs).1,T.sh.i s hs⟩,⟨(h.hi s hs).1,T.sh.i s hs⟩⟩
 unfold takesB
 rcases rel_go h T w _ _ 0 [] [] hr hg trivial with ⟨e1,e2⟩|⟨R,R',e1,e2,hR,hG⟩
 ·rw [e1,e2]
 rw [e1, e2]
 show (R.any fun q=>f.contains q.2)=(R'.any fun q=>f'.contains q.2)
 rw [Bool.eq_iff_iff,List.any_eq_true,List.any_eq_true]
 constructor
 ·rintro ⟨q, hq, hf⟩
  have hf:=List.contains_iff_mem.1 hf
  exact⟨_,(hR _).2 ⟨q,hq,rfl⟩,List.contains_iff_mem.2 ((T.mf _).2 ⟨q.2,hf,(hG q hq).2.2,rfl⟩)⟩
 rintro ⟨q', hq', hf⟩
 have hf:=List.contains_iff_mem.1 hf
 obtain⟨q,hq,rfl⟩:=(hR _).1 hq'
 obtain⟨y,hy,hP,e⟩:=(T.mf _).1 hf
 have e2:y=q.2:=T.inj (h.hf y hy).1 hP (hG q hq).2.1 (hG q hq).2.2 e
 exact⟨q,hq,List.contains_iff_mem.2 (e2 ▸ hy)⟩
end
end Go.Proofs.YtejpijgfpbcibaaGreat.P
end
section
namespace Go.Proofs.YtejpijgfpbcibaaGreat.P
open Go.RowKit Go.Proofs.YtejpijgfpbcibaaGreatW.PrintWords Go.Proofs.YtejpijgfpbcibaaGreatW.PrintLast Go.Proofs.YtejpijgfpbcibaaGreatW.PrintMore Go.Proofs.YtejpijgfpbcibaaGreat.M
theorem insB_may {l:List S51} {n g:Int} {i f:List Int} {o:List TOpen} {c:List TClose} {p:List TInner} (h:MayBe l n g i f o c p):insB n i f o c p=true:=by
 unfold insB
 rw [List.all_eq_true]
 have ok:∀{s:Int},0≤s∧s < n→okIn n s=true:=fun hs=>by unfold okIn;rw [decide_eq_true hs.1,decide_eq_true hs.2];rfl
 intro s hs
 unfold insL at hs
 simp only [List.mem_append,List.mem_flatMap] at hs
 rcases hs with (((hs|hs)|⟨r,hr,hs⟩)|⟨r,hr,hs⟩)|⟨r,hr,hs⟩
 ·exact ok (h.hi s hs)
 ·exact ok (h.hf s hs)
 ·have h1 := h.hp r hr
  simp only [pN,List.mem_cons,List.not_mem_nil,or_false] at hs
  rcases hs with rfl|rfl
  ·exact ok h1.1
  exact ok h1.2.1
 ·have h1 := h.ho r hr
  simp only [pO,List.mem_cons,List.not_mem_nil,or_false] at hs
  rcases hs with rfl|rfl
  ·exact ok h1.1
  exact ok h1.2.1
 have h1 := h.hc r hr
 simp only [pC,List.mem_cons,List.not_mem_nil,or_false] at hs
 rcases hs with rfl|rfl
 ·exact ok h1.1
 exact ok h1.2.1
theorem takes_may {l:List S51} {n g:Int} {i f:List Int} {o:List TOpen} {c:List TClose} {p:List TInner} (h:MayBe l n g i f o c p) (hn:1≤n) (h0:l.length≤1000000) (h2:i.length≤1000000) (h3:f.length≤1000000) (u:List Int) (hu:u.length≤1000000):canopyref4_Takes.f l n g i f o c p u=some (takesB l i f o c p u):=by
 have hz:=h.hz
 have hn2:=h.hn
 unfold canopyref4_Takes.f
 rw [if_pos ⟨h0,h2,h3,by omega,by omega,by omega,hu⟩]
 unfold takesR
 rw [if_pos ⟨hn,hn2.2⟩,if_pos (insB_may h)]
end Go.Proofs.YtejpijgfpbcibaaGreat.P
end
