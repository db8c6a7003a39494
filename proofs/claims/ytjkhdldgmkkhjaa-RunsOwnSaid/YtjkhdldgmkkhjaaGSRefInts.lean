/- Words and walks of this claim: SRefInts. -/
import Derived.Test.YtjkhdldgmkkhjaaGMFar
import Derived.Test.YtjkhdldgmkkhjaaGMIntsEtc
import Derived.Test.YtjkhdldgmkkhjaaGP0Etc
import Derived.BigQuiet
set_option linter.unusedVariables false
set_option linter.unusedSimpArgs false
set_option linter.unnecessarySimpa false
namespace Go.Proofs.Ytjkhdldgmkkhjaa.P
open Go.RowKit Go.Proofs.YtjkhdldgmkkhjaaW.PrintWords Go.Proofs.YtjkhdldgmkkhjaaW.PrintLast Go.Proofs.YtjkhdldgmkkhjaaW.PrintMore Go.Proofs.Ytjkhdldgmkkhjaa.M
def canopyref2_Ints.f (l0:List Int):Option (List Int):=if l0.length≤1000000000 then some (onceC cmpInt l0) else none
set_option maxHeartbeats 8000000 in
set_option maxRecDepth 100000 in
theorem refints_calls (A:Option Addr) (c:Nat) (l:List Int) (w:World) (hr:Kd.C (Kd.int .i64) w A l.length l) (hc:l.length≤c) (hl:l.length≤1000000000) :
 Calls Try.prog 34 #[.slice A l.length c] w fun e w'=>∃v0_:Value,e=.returned v0_∧Kd.R (Kd.int .i64) 3 w' w.heap.size (fun _=>True) v0_ (onceC cmpInt l)∧Below w.heap.size w w':=by
 have HR:=Aside0.mk hr
 have HL:=Aside0.mk hl
 clear hr hc hl
 go_enter Try.func34,Try.ntmps34
 go_wp2
 go_loopg [3,4] l.length (fun gq v3 v4 w'=>∃(i:Nat),v4=.int .i64 (i:Int)∧Aside0 (i≤l.length∧l.length - i≤gq)∧Aside0 (Kd.R (Kd.int .i64) 3 w' w.heap.size (fun _=>True) v3 (onceC cmpInt (l.take i)))∧Aside0 (Below w.heap.size w w'))
 case atStart=>exact⟨0,rfl,⟨by omega,by omega⟩,⟨Kd.R_nil _ _ _ _ _⟩,⟨by repeat (first|exact Below.refl _ _|apply below_alloc)⟩⟩
 case' round=>skip
 obtain⟨i,rfl,Hi,HO,HB⟩:=hrel
 by_cases hlt:i < l.length
 ·have d1 : (i < l.length) = True := eq_true hlt
  have HL2:=Aside0.mk hlt
  have hsn:l.take (i+1)=l.take i ++ [l[i]]:=by rw [List.take_add_one,List.getElem?_eq_getElem hlt];rfl
  have hso:=totalInt.once_sorted (l.take i)
  have hlo:(onceC cmpInt (l.take i)).length≤i:=by
   have h1:∀(q o:List Int),(q.foldl (insC cmpInt) o).length≤o.length+q.length:=by
    intro q
    induction q with
    | nil=>intro o;simp
    | cons y q ih=>
     intro o
     have h2:∀(o:List Int),(insC cmpInt o y).length≤o.length+1:=by
      intro o
      induction o with
      | nil=>simp [insC]
      | cons z o ih2=>unfold insC;split<;>(try split)<;>simp<;>omega
     have h3:=ih (insC cmpInt o y)
     have h4:=h2 o
     rw [List.foldl_cons,List.length_cons]
     omega
   have:=h1 (l.take i) []
   rw [List.length_take] at this
   show (List.foldl (insC cmpInt) [] (l.take i)).length≤i
   simp at this
   omega
  have hnext:onceC cmpInt (l.take (i+1))=insC cmpInt (onceC cmpInt (l.take i)) l[i]:=by rw [hsn,once_snoc]
  have HN:=Aside0.mk hnext
  have HS:=Aside0.mk (And.intro hso hlo)
  obtain⟨Al,eA,cx⟩:=int_at (Kd.C_below HR.out HB.out) i hlt
  have cx' : Aside0 (∀W,Below w.heap.size w W→W.cell? (Al.add i)=some (.int .i64 l[i])):=⟨fun W hW=>by
   obtain⟨Al2,eA2,cx2⟩:=int_at (Kd.C_below HR.out hW) i hlt
   rw [eA] at eA2
   cases eA2
   exact cx2⟩
  generalize l[i]=x at cx cx' HN
  generalize onceC cmpInt (l.take i)=out at HO HN HS
  clear hsn hso hlo hnext hlt
  have eA0:=eA
  subst eA0
  clear eA
  obtain⟨Ao,co,e3,hno,hCo⟩:=Kd.R_reads HO.out
  subst e3
  have HCo:=Aside0.mk (And.intro hno hCo)
  clear hno hCo
  have t1:=eq_true (show (0:Int)≤(i:Int) by omega)
  have t2:=eq_true (show (i:Int) < (l.length:Int) by have:=HL2.out;omega)
  go_wp2
  obtain⟨wo,rfl⟩:∃wo:World,wo=wr:=⟨_,rfl⟩
  go_loopg [5] out.length (fun gq v5 w'=>∃(k:Nat),v5=.int .i64 (k:Int)∧Aside0 (k≤out.length∧k≤gq)∧Aside0 (∀j (h:j < out.length),k≤j→x < out[j])∧Drawn0 wo w')
  case atStart=>exact⟨out.length,rfl,⟨Nat.le_refl _,Nat.le_refl _⟩,⟨fun j h hk=>by omega⟩,Drawn0.refl _⟩
  case' round=>skip
  obtain⟨k,rfl,Hk,Hx,nd,rfl⟩:=hrel
  have hb:=pw_below_drewN HB.out nd
  have HBr:=Aside0.mk hb
  clear hb
  by_cases hk:0 < k
  ·obtain ⟨k, rfl⟩ : ∃ q, k = q + 1 := ⟨k - 1, by omega⟩
   clear hk
   have hkl:k < out.length:=by have:=Hk.out.1;omega
   obtain⟨Ad,eo,cy⟩:=int_at HCo.out.2 k hkl
   have Hy:Aside0 (∃h:k < out.length,out[k]=out[k]'hkl):=⟨hkl,rfl⟩
   generalize hy:out[k]'hkl=y at cy Hy
   have eo0:=eo
   subst eo0
   clear eo
   have d2:decide ((k:Int)+1 > 0)=true:=decide_eq_true (by omega)
   have t3:=eq_true (show (0:Int)≤(k:Int) by omega)
   have t4:=eq_true (show (k:Int) < (out.length:Int) by omega)
   have wr1:wrap64 (k:Int)=(k:Int):=by have:=HS.out.2;have:=HL.out;have:=HL2.out;unfold wrap64;omega
   push_cast
   by_cases hxy:x < y
   ·have d3 : decide (x < y) = true := decide_eq_true hxy
    go_wp2
    go_quiet (fail)
    obtain⟨nq1,rfl⟩:∃m:Nat,m=nq:=⟨_,rfl⟩
    go_wp2
    go_roundg k
    case measure=>have:=Hk.out;omega
    case rel=>exact⟨k,by rw [wr1],⟨by omega,Nat.le_refl _⟩,⟨fun j h hj=>by
     by_cases e:j=k
     ·subst e;rw [hy];exact hxy
     exact Hx.out j h (by omega)⟩,by repeat (first|exact Drawn0.refl _|apply Drawn0.step)⟩
   have d3 : decide (x < y) = false := decide_eq_false hxy
   go_wp2
   go_quiet (fail)
   obtain⟨nq1,rfl⟩:∃m:Nat,m=nq:=⟨_,rfl⟩
   have d4:((k:Int)+1 == 0)=false:=beq_eq_false_iff_ne.mpr (by omega)
   go_wp2
   go_quiet (fail)
   obtain⟨nq2,rfl⟩:∃m:Nat,m=nq:=⟨_,rfl⟩
   have HB9:Aside0 (Below w.heap.size w (((wo.drewN nd).drewN nq1).drewN nq2)):=⟨pw_below_drewN (pw_below_drewN HBr.out _) _⟩
   have HO9:Aside0 ((Kd.int .i64).R 3 (((wo.drewN nd).drewN nq1).drewN nq2) w.heap.size (fun _=>True) (.slice (some Ad) out.length co) out):=⟨Kd.R_drewN (Kd.R_drewN (Kd.R_drewN HO.out _) _) _⟩
   generalize ((wo.drewN nd).drewN nq1).drewN nq2=w9 at HB9 HO9 ⊢
   by_cases hyx:y=x
   ·have d5 : (y != x) = false := bne_eq_false_iff_eq.mpr hyx
    have Hin:Aside0 (x∈out):=⟨by rw [←hyx,←hy];exact List.getElem_mem hkl⟩
    clear hxy hyx d3 t3 t4
    go_wp2
    go_roundg (l.length - (i+1))
    case measure=>have:=Hi.out;have:=HL2.out;omega
    case rel=>exact⟨i+1,by have:=HL.out;have:=HL2.out;rw [show wrap64 ((i:Int)+1)=((i+1:Nat):Int) by unfold wrap64;omega],⟨HL2.out,Nat.le_refl _⟩,⟨by rw [HN.out,ins_there HS.out.1 Hin.out];exact HO9.out⟩,HB9⟩
   have d5 : (y != x) = true := bne_iff_ne.mpr hyx
   have Hk9:Aside0 (k+1≤out.length):=⟨hkl⟩
   have Hlt9:Aside0 (∀h:0 < k+1,out[k+1 - 1]'(by omega) < x):=⟨fun _=>by show out[k] < x;rw [hy];omega⟩
   have t5:=eq_true (show (0:Int)≤(k:Int)+1 by omega)
   have t6:=eq_true (show (k:Int)+1≤(co:Int) by have:=HCo.out.1;omega)
   have t7:=eq_true (show (k:Int)+1≤(out.length:Int) by omega)
   clear hxy hyx d3
   by_cases hco:co=k+1
   ·have t8 := eq_true hco
    have HCO:=Aside0.mk hco
    clear hco
    go_wp2
    refine start_ (n:=16) (S:=fun w'=>w'.cell? (Al.add i)=some (.int .i64 x)) (ds:=[]) #[false,false,false,false,false,false,false,false,false,false,false,false,false,false,false,false] (by kernel_rfl) rfl rfl (cx'.out _ (below_drew HB9.out)) (fun hHeld=>?_)
    have HBd:=Aside0.mk (below_drew HB9.out)
    have HOr:=Aside0.mk (Kd.R_drew HO9.out)
    generalize w9.drew=wd at HBd HOr hHeld ⊢
    clear HB9 HO9
    have HOd:Aside0 ((Kd.int .i64).R 3 wd w.heap.size (fun k=>k < wd.heap.size) (.slice (some Ad) out.length co) out):=⟨Kd.R_mono (Kd.R_bound HOr.out) (fun k hk=>hk.2.2.1)⟩
    have HSd:Aside0 (wd.heap.size≤wd.heap.size):=⟨Nat.le_refl _⟩
    clear HOr
    refine pure_ (i:=1) (N:=(some 45)) (v:=?_) (a':=?_) #[false,true,false,false,false,false,false,false,false,false,false,false,false,false,false,false] rfl rfl (by kernel_rfl) (fun _ _ _ h=>h) (Or.inl ⟨by rfl,?_⟩) ?_ ?_
    rotate_left
    ·intro w'
     go_simp
     with_reducible rfl
    rotate_left
    ·simp only [Act.put, M.sq3, i64_w, i32_w]
     rfl
    refine pure_ (i:=2) (N:=(some 46)) (v:=?_) (a':=?_) #[false,true,true,false,false,false,false,false,false,false,false,false,false,false,false,false] rfl rfl (by kernel_rfl) (fun _ _ _ h=>h) (Or.inl ⟨by rfl,?_⟩) ?_ ?_
    rotate_left
    ·intro w'
     go_simp
     with_reducible rfl
    rotate_left
    ·simp only [Act.put, M.sq3, i64_w, i32_w]
     rfl
    refine pure_ (i:=3) (N:=(some 47)) (v:=?_) (a':=?_) #[false,true,true,true,false,false,false,false,false,false,false,false,false,false,false,false] rfl rfl (by kernel_rfl) (fun _ _ _ h=>h) (Or.inl ⟨by rfl,?_⟩) ?_ ?_
    rotate_left
    ·intro w'
     go_simp
     with_reducible rfl
    rotate_left
    ·simp only [Act.put, M.sq3, i64_w, i32_w]
     rfl
    refine pure_ (i:=5) (N:=(some 49)) (v:=?_) (a':=?_) #[false,true,true,true,false,true,false,false,false,false,false,false,false,false,false,false] rfl rfl (by kernel_rfl) (fun _ _ _ h=>h) (Or.inl ⟨by rfl,?_⟩) ?_ ?_
    rotate_left
    ·intro w'
     go_simp
     with_reducible rfl
    rotate_left
    ·simp only [Act.put, M.sq3, i64_w, i32_w]
     rfl
    refine pure_ (i:=6) (N:=(some 50)) (v:=?_) (a':=?_) #[false,true,true,true,false,true,true,false,false,false,false,false,false,false,false,false] rfl rfl (by kernel_rfl) (fun _ _ _ h=>h) (Or.inl ⟨by rfl,?_⟩) ?_ ?_
    rotate_left
    ·intro w'
     go_simp
     with_reducible rfl
    rotate_left
    ·simp only [Act.put, M.sq3, i64_w, i32_w]
     rfl
    refine pure_ (i:=7) (N:=(some 51)) (v:=?_) (a':=?_) #[false,true,true,true,false,true,true,true,false,false,false,false,false,false,false,false] rfl rfl (by kernel_rfl) (fun _ _ _ h=>h) (Or.inl ⟨by rfl,?_⟩) ?_ ?_
    rotate_left
    ·intro w'
     go_simp
     with_reducible rfl
    rotate_left
    ·simp only [Act.put, M.sq3, i64_w, i32_w]
     rfl
    refine take_ (i:=8) (N:=(some 52)) (v:=?_) (a':=?_) #[false,true,true,true,false,true,true,true,true,false,false,false,false,false,false,false] rfl rfl (by kernel_rfl) (fun _ _ _ h=>h) (Or.inl ⟨by rfl,?_⟩) hHeld ?_ ?_
    rotate_left
    ·intro w' hS_
     go_simp
     with_reducible rfl
    rotate_left
    ·simp only [Act.put, M.sq3, i64_w, i32_w]
     rfl
    refine pure_ (i:=11) (N:=(some 55)) (v:=?_) (a':=?_) #[false,true,true,true,false,true,true,true,true,false,false,true,false,false,false,false] rfl rfl (by kernel_rfl) (fun _ _ _ h=>h) (Or.inl ⟨by rfl,?_⟩) ?_ ?_
    rotate_left
    ·intro w'
     go_simp
     with_reducible rfl
    rotate_left
    ·simp only [Act.put, M.sq3, i64_w, i32_w]
     rfl
    refine pure_ (i:=12) (N:=(some 56)) (v:=?_) (a':=?_) #[false,true,true,true,false,true,true,true,true,false,false,true,true,false,false,false] rfl rfl (by kernel_rfl) (fun _ _ _ h=>h) (Or.inl ⟨by rfl,?_⟩) ?_ ?_
    rotate_left
    ·intro w'
     go_simp
     with_reducible rfl
    rotate_left
    ·simp only [Act.put, M.sq3, i64_w, i32_w]
     rfl
    refine pure_ (i:=13) (N:=(some 57)) (v:=?_) (a':=?_) #[false,true,true,true,false,true,true,true,true,false,false,true,true,true,false,false] rfl rfl (by kernel_rfl) (fun _ _ _ h=>h) (Or.inl ⟨by rfl,?_⟩) ?_ ?_
    rotate_left
    ·intro w'
     go_simp
     with_reducible rfl
    rotate_left
    ·simp only [Act.put, M.sq3, i64_w, i32_w]
     rfl
    refine join_ (σ:=Value × Value × Nat) 3 #[true,true,true,true,true,true,true,true,true,true,false,true,true,true,false,false] (fun s_=>[(44,s_.1),(48,s_.2.1),(53,.slice (some ⟨s_.2.2,0,none⟩) 1 1)]) (fun s_ w'=>Below w.heap.size w w'∧(Kd.int .i64).R 3 w' w.heap.size (fun k=>wd.heap.size≤k) s_.2.1 (out.take (k+1))∧w'.heap[s_.2.2]? = some (.cells #[.int .i64 x] 3 (0,0))∧(Kd.int .i64).R 3 w' w.heap.size (fun k=>k < wd.heap.size) (.slice (some Ad) out.length co) out∧wd.heap.size≤w'.heap.size) ?_ ?_
    rotate_left
    ·intro hCont
     refine two_ (i:=0) (j:=9) (Ni:=some 44) (Nj:=some 53) #[true,true,true,true,false,true,true,true,true,false,false,true,true,true,false,false] #[false,true,true,true,false,true,true,true,true,true,false,true,true,true,false,false] rfl rfl rfl rfl (by kernel_rfl) (by decide) (by decide) (fun K hK=>?_) (fun K hK=>?_)
     ·skip
      refine step_run (v:=.slice (some ⟨wd.heap.size,0,none⟩) 0 0) (w1:=wd.alloc (.cells #[] 3)) rfl (by go_simp) ?_
      obtain⟨gda,hgda⟩:∃g,g=wd.heap.size:=⟨_,rfl⟩
      have HBda:=Aside0.mk (below_alloc HBd.out (.cells #[] 3))
      have HOda:=Aside0.mk (Kd.R_alloc HOd.out (.cells #[] 3))
      have HUda:Aside0 ((Kd.int .i64).R 3 (wd.alloc (.cells #[] 3)) w.heap.size (fun k=>wd.heap.size≤k) (.slice (some ⟨gda,0,none⟩) 0 0) []):=⟨by rw [hgda];exact Kd.R_of_own (World.ownsRow_made wd #[] 0 HBd.out.size (Nat.zero_le _) rfl) (fun k hk=>by have:=HSd.out;simp [Value.ownBlock] at hk;omega)⟩
      have HSda:Aside0 (wd.heap.size≤(wd.alloc (.cells #[] 3)).heap.size):=⟨by rw [size_alloc];have:=HSd.out;omega⟩
      rw [←hgda]
      generalize wd.alloc (.cells #[] 3)=wda at HBda HOda HSda HUda ⊢
      clear hgda
      refine hK.out _ _ (cx'.out _ HBda.out) (fun hHeld=>?_)
      clear hK K
      refine norm_ (a':=?_) ?_ ?_
      rotate_left
      ·show Act.put _ (some 44) _ = _
       simp only [Act.put,M.sq3,i64_w,i32_w]
       rfl
      refine two_ (i:=4) (j:=9) (Ni:=some 48) (Nj:=some 53) #[true,true,true,true,true,true,true,true,true,false,false,true,true,true,false,false] #[true,true,true,true,false,true,true,true,true,true,false,true,true,true,false,false] rfl rfl rfl rfl (by kernel_rfl) (by decide) (by decide) (fun K hK=>?_) (fun K hK=>?_)
      ·skip
       have HCdab:Aside0 ((Kd.int .i64).C wda (some Ad) (out.take (k+1)).length (out.take (k+1))):=⟨Kd.C_take (Kd.R_reads' HOda.out).2.2 (by have:=Hk9.out;omega)⟩
       have hlk:(out.take (k+1)).length=(k+1):=by rw [List.length_take];have:=Hk9.out;omega
       refine Kd.R_append_rows_step (Kd.int .i64) (Rr:=(Kd.int .i64).K wda) (w0:=w) w.heap.size rfl (.tmp 44) (.tmp 47) 22 3 (.int .i64 0) 8 rfl Try.underlying22 infoInt rfl (by decide) (by decide) (.slice (some ⟨gda,0,none⟩) 0 0) [] (out.take (k+1)) (some Ad) (k+1) _ (fun k=>wd.heap.size≤k) (fun _=>False) rfl rfl HUda.out ?qa1_1 (fun x cs h=>h) (fun _ h=>h.elim) (fun k hk=>Nat.le_trans HSda.out hk) HBda.out HBda.out.size ?qb1_1 ?_
       case qa1_1=>have h:=HCdab.out;rw [hlk] at h;exact h
       case qb1_1=>have:=Hk9.out;have:=HS.out.2;have:=HL.out;have:=HL2.out;simp<;>omega
       intro v2 wdab hr2 hb2 hg2 hat2
       have HVdab:=Aside0.mk hr2
       have HBdab:=Aside0.mk hb2
       have HOdab:=Aside0.mk (Kd.R_grown HOda.out hg2 (fun k hk e=>by have:=HUda.out.1 k e.symm;omega))
       have HSdab:Aside0 (wd.heap.size≤wdab.heap.size):=⟨Nat.le_trans HSda.out hg2.size⟩
       rw [List.nil_append] at HVdab
       clear hr2 hb2 hg2 hat2 hlk HCdab
       refine hK.out _ _ (cx'.out _ HBdab.out) (fun hHeld=>?_)
       clear hK K
       refine norm_ (a':=?_) ?_ ?_
       rotate_left
       ·show Act.put _ (some 48) _ = _
        simp only [Act.put,M.sq3,i64_w,i32_w]
        rfl
       refine one_ (i:=9) (N:=(some 53)) #[true,true,true,true,true,true,true,true,true,true,false,true,true,true,false,false] rfl rfl (by kernel_rfl) (by decide) (fun K hK=>?_)
       refine step_run (v:=.slice (some ⟨wdab.heap.size,0,none⟩) 1 1) (w1:=wdab.alloc (.cells #[.int .i64 x] 3)) rfl (by go_simp) ?_
       obtain⟨gdabc,hgdabc⟩:∃g,g=wdab.heap.size:=⟨_,rfl⟩
       have HBdabc:=Aside0.mk (below_alloc HBdab.out (.cells #[.int .i64 x] 3))
       have HOdabc:=Aside0.mk (Kd.R_alloc HOdab.out (.cells #[.int .i64 x] 3))
       have HVdabc:=Aside0.mk (Kd.R_alloc HVdab.out (.cells #[.int .i64 x] 3))
       have HXdabc:Aside0 ((wdab.alloc (.cells #[.int .i64 x] 3)).heap[gdabc]? = some (.cells #[.int .i64 x] 3 (0,0))):=⟨by rw [hgdabc];exact blk_newAt (w:=wdab) (n:=wdab.heap.size) _ rfl⟩
       have HSdabc:Aside0 (wd.heap.size≤(wdab.alloc (.cells #[.int .i64 x] 3)).heap.size):=⟨by rw [size_alloc];have:=HSdab.out;omega⟩
       rw [←hgdabc]
       generalize wdab.alloc (.cells #[.int .i64 x] 3)=wdabc at HBdabc HOdabc HSdabc HVdabc HXdabc ⊢
       clear hgdabc
       refine hK.out _ _ (cx'.out _ HBdabc.out) (fun hHeld=>?_)
       clear hK K
       refine norm_ (a':=?_) ?_ ?_
       rotate_left
       ·show Act.put _ (some 53) _ = _
        simp only [Act.put,M.sq3,i64_w,i32_w]
        rfl
       exact norm_ (by simp only [putAll,Act.put,M.sq3]) (hCont (.slice (some ⟨gda,0,none⟩) 0 0,v2,gdabc) _ ⟨HBdabc.out,HVdabc.out,HXdabc.out,HOdabc.out,HSdabc.out⟩)
      skip
      refine step_run (v:=.slice (some ⟨wda.heap.size,0,none⟩) 1 1) (w1:=wda.alloc (.cells #[.int .i64 x] 3)) rfl (by go_simp) ?_
      obtain⟨gdac,hgdac⟩:∃g,g=wda.heap.size:=⟨_,rfl⟩
      have HBdac:=Aside0.mk (below_alloc HBda.out (.cells #[.int .i64 x] 3))
      have HOdac:=Aside0.mk (Kd.R_alloc HOda.out (.cells #[.int .i64 x] 3))
      have HUdac:=Aside0.mk (Kd.R_alloc HUda.out (.cells #[.int .i64 x] 3))
      have HXdac:Aside0 ((wda.alloc (.cells #[.int .i64 x] 3)).heap[gdac]? = some (.cells #[.int .i64 x] 3 (0,0))):=⟨by rw [hgdac];exact blk_newAt (w:=wda) (n:=wda.heap.size) _ rfl⟩
      have HN1:Aside0 (gdac≠gda):=⟨by have:=Kd.R_lt HUda.out gda rfl;omega⟩
      have HSdac:Aside0 (wd.heap.size≤(wda.alloc (.cells #[.int .i64 x] 3)).heap.size):=⟨by rw [size_alloc];have:=HSda.out;omega⟩
      rw [←hgdac]
      generalize wda.alloc (.cells #[.int .i64 x] 3)=wdac at HBdac HOdac HSdac HUdac HXdac ⊢
      clear hgdac
      refine hK.out _ _ (cx'.out _ HBdac.out) (fun hHeld=>?_)
      clear hK K
      refine norm_ (a':=?_) ?_ ?_
      rotate_left
      ·show Act.put _ (some 53) _ = _
       simp only [Act.put,M.sq3,i64_w,i32_w]
       rfl
      refine one_ (i:=4) (N:=(some 48)) #[true,true,true,true,true,true,true,true,true,true,false,true,true,true,false,false] rfl rfl (by kernel_rfl) (by decide) (fun K hK=>?_)
      have HCdacb:Aside0 ((Kd.int .i64).C wdac (some Ad) (out.take (k+1)).length (out.take (k+1))):=⟨Kd.C_take (Kd.R_reads' HOdac.out).2.2 (by have:=Hk9.out;omega)⟩
      have hlk:(out.take (k+1)).length=(k+1):=by rw [List.length_take];have:=Hk9.out;omega
      refine Kd.R_append_rows_step (Kd.int .i64) (Rr:=(Kd.int .i64).K wdac) (w0:=w) w.heap.size rfl (.tmp 44) (.tmp 47) 22 3 (.int .i64 0) 8 rfl Try.underlying22 infoInt rfl (by decide) (by decide) (.slice (some ⟨gda,0,none⟩) 0 0) [] (out.take (k+1)) (some Ad) (k+1) _ (fun k=>wd.heap.size≤k) (fun _=>False) rfl rfl HUdac.out ?qa1_2 (fun x cs h=>h) (fun _ h=>h.elim) (fun k hk=>Nat.le_trans HSdac.out hk) HBdac.out HBdac.out.size ?qb1_2 ?_
      case qa1_2=>have h:=HCdacb.out;rw [hlk] at h;exact h
      case qb1_2=>have:=Hk9.out;have:=HS.out.2;have:=HL.out;have:=HL2.out;simp<;>omega
      intro v2 wdacb hr2 hb2 hg2 hat2
      have HVdacb:=Aside0.mk hr2
      have HBdacb:=Aside0.mk hb2
      have HOdacb:=Aside0.mk (Kd.R_grown HOdac.out hg2 (fun k hk e=>by have:=HUdac.out.1 k e.symm;omega))
      have HSdacb:Aside0 (wd.heap.size≤wdacb.heap.size):=⟨Nat.le_trans HSdac.out hg2.size⟩
      rw [List.nil_append] at HVdacb
      have HXdacb:Aside0 (wdacb.heap[gdac]? = some (.cells #[.int .i64 x] 3 (0,0))):=⟨(hg2.block _ (blk_lt HXdac.out) (nes HN1.out)).trans HXdac.out⟩
      clear hr2 hb2 hg2 hat2 hlk HCdacb
      refine hK.out _ _ (cx'.out _ HBdacb.out) (fun hHeld=>?_)
      clear hK K
      refine norm_ (a':=?_) ?_ ?_
      rotate_left
      ·show Act.put _ (some 48) _ = _
       simp only [Act.put,M.sq3,i64_w,i32_w]
       rfl
      exact norm_ (by simp only [putAll,Act.put,M.sq3]) (hCont (.slice (some ⟨gda,0,none⟩) 0 0,v2,gdac) _ ⟨HBdacb.out,HVdacb.out,HXdacb.out,HOdacb.out,HSdacb.out⟩)
     skip
     refine step_run (v:=.slice (some ⟨wd.heap.size,0,none⟩) 1 1) (w1:=wd.alloc (.cells #[.int .i64 x] 3)) rfl (by go_simp) ?_
     obtain⟨gdc,hgdc⟩:∃g,g=wd.heap.size:=⟨_,rfl⟩
     have HBdc:=Aside0.mk (below_alloc HBd.out (.cells #[.int .i64 x] 3))
     have HOdc:=Aside0.mk (Kd.R_alloc HOd.out (.cells #[.int .i64 x] 3))
     have HXdc:Aside0 ((wd.alloc (.cells #[.int .i64 x] 3)).heap[gdc]? = some (.cells #[.int .i64 x] 3 (0,0))):=⟨by rw [hgdc];exact blk_newAt (w:=wd) (n:=wd.heap.size) _ rfl⟩
     have HSdc:Aside0 (wd.heap.size≤(wd.alloc (.cells #[.int .i64 x] 3)).heap.size):=⟨by rw [size_alloc];have:=HSd.out;omega⟩
     rw [←hgdc]
     generalize wd.alloc (.cells #[.int .i64 x] 3)=wdc at HBdc HOdc HSdc HXdc ⊢
     clear hgdc
     refine hK.out _ _ (cx'.out _ HBdc.out) (fun hHeld=>?_)
     clear hK K
     refine norm_ (a':=?_) ?_ ?_
     rotate_left
     ·show Act.put _ (some 53) _ = _
      simp only [Act.put,M.sq3,i64_w,i32_w]
      rfl
     refine one_ (i:=0) (N:=(some 44)) #[true,true,true,true,false,true,true,true,true,true,false,true,true,true,false,false] rfl rfl (by kernel_rfl) (by decide) (fun K hK=>?_)
     refine step_run (v:=.slice (some ⟨wdc.heap.size,0,none⟩) 0 0) (w1:=wdc.alloc (.cells #[] 3)) rfl (by go_simp) ?_
     obtain⟨gdca,hgdca⟩:∃g,g=wdc.heap.size:=⟨_,rfl⟩
     have HBdca:=Aside0.mk (below_alloc HBdc.out (.cells #[] 3))
     have HOdca:=Aside0.mk (Kd.R_alloc HOdc.out (.cells #[] 3))
     have HXdca:=Aside0.mk (blk_old HXdc.out (.cells #[] 3))
     have HUdca:Aside0 ((Kd.int .i64).R 3 (wdc.alloc (.cells #[] 3)) w.heap.size (fun k=>wd.heap.size≤k) (.slice (some ⟨gdca,0,none⟩) 0 0) []):=⟨by rw [hgdca];exact Kd.R_of_own (World.ownsRow_made wdc #[] 0 HBdc.out.size (Nat.zero_le _) rfl) (fun k hk=>by have:=HSdc.out;simp [Value.ownBlock] at hk;omega)⟩
     have HN1:Aside0 (gdc≠gdca):=⟨by have:=blk_lt HXdc.out;omega⟩
     have HSdca:Aside0 (wd.heap.size≤(wdc.alloc (.cells #[] 3)).heap.size):=⟨by rw [size_alloc];have:=HSdc.out;omega⟩
     rw [←hgdca]
     generalize wdc.alloc (.cells #[] 3)=wdca at HBdca HOdca HSdca HUdca HXdca ⊢
     clear hgdca
     refine hK.out _ _ (cx'.out _ HBdca.out) (fun hHeld=>?_)
     clear hK K
     refine norm_ (a':=?_) ?_ ?_
     rotate_left
     ·show Act.put _ (some 44) _ = _
      simp only [Act.put,M.sq3,i64_w,i32_w]
      rfl
     refine one_ (i:=4) (N:=(some 48)) #[true,true,true,true,true,true,true,true,true,true,false,true,true,true,false,false] rfl rfl (by kernel_rfl) (by decide) (fun K hK=>?_)
     have HCdcab:Aside0 ((Kd.int .i64).C wdca (some Ad) (out.take (k+1)).length (out.take (k+1))):=⟨Kd.C_take (Kd.R_reads' HOdca.out).2.2 (by have:=Hk9.out;omega)⟩
     have hlk:(out.take (k+1)).length=(k+1):=by rw [List.length_take];have:=Hk9.out;omega
     refine Kd.R_append_rows_step (Kd.int .i64) (Rr:=(Kd.int .i64).K wdca) (w0:=w) w.heap.size rfl (.tmp 44) (.tmp 47) 22 3 (.int .i64 0) 8 rfl Try.underlying22 infoInt rfl (by decide) (by decide) (.slice (some ⟨gdca,0,none⟩) 0 0) [] (out.take (k+1)) (some Ad) (k+1) _ (fun k=>wd.heap.size≤k) (fun _=>False) rfl rfl HUdca.out ?qa1_3 (fun x cs h=>h) (fun _ h=>h.elim) (fun k hk=>Nat.le_trans HSdca.out hk) HBdca.out HBdca.out.size ?qb1_3 ?_
     case qa1_3=>have h:=HCdcab.out;rw [hlk] at h;exact h
     case qb1_3=>have:=Hk9.out;have:=HS.out.2;have:=HL.out;have:=HL2.out;simp<;>omega
     intro v2 wdcab hr2 hb2 hg2 hat2
     have HVdcab:=Aside0.mk hr2
     have HBdcab:=Aside0.mk hb2
     have HOdcab:=Aside0.mk (Kd.R_grown HOdca.out hg2 (fun k hk e=>by have:=HUdca.out.1 k e.symm;omega))
     have HSdcab:Aside0 (wd.heap.size≤wdcab.heap.size):=⟨Nat.le_trans HSdca.out hg2.size⟩
     rw [List.nil_append] at HVdcab
     have HXdcab:Aside0 (wdcab.heap[gdc]? = some (.cells #[.int .i64 x] 3 (0,0))):=⟨(hg2.block _ (blk_lt HXdca.out) (nes HN1.out)).trans HXdca.out⟩
     clear hr2 hb2 hg2 hat2 hlk HCdcab
     refine hK.out _ _ (cx'.out _ HBdcab.out) (fun hHeld=>?_)
     clear hK K
     refine norm_ (a':=?_) ?_ ?_
     rotate_left
     ·show Act.put _ (some 48) _ = _
      simp only [Act.put,M.sq3,i64_w,i32_w]
      rfl
     exact norm_ (by simp only [putAll,Act.put,M.sq3]) (hCont (.slice (some ⟨gdca,0,none⟩) 0 0,v2,gdc) _ ⟨HBdcab.out,HVdcab.out,HXdcab.out,HOdcab.out,HSdcab.out⟩)
    rintro⟨v44,v2,g9⟩ w3 ⟨hb3,hv3,hx3,ho3,hs3⟩
    have HB3:=Aside0.mk hb3
    have HV3:=Aside0.mk hv3
    have HX3:=Aside0.mk (reads_one hx3)
    have HO3:=Aside0.mk ho3
    have HS3:=Aside0.mk hs3
    clear hb3 hv3 hx3 ho3 hs3 HBd HOd HSd
    refine norm_ (a':=?_) ?_ ?_
    rotate_left
    ·simp only [putAll, Act.put, M.sq3, i64_w, i32_w]
     rfl
    refine one_ (i:=10) (N:=(some 54)) #[true,true,true,true,true,true,true,true,true,true,true,true,true,true,false,false] rfl rfl (by kernel_rfl) (by decide) (fun K hK=>?_)
    refine Kd.R_append_rows_step (Kd.int .i64) (Rr:=(Kd.int .i64).K w3) (w0:=w) w.heap.size rfl (.tmp 48) (.tmp 53) 22 3 (.int .i64 0) 8 rfl Try.underlying22 infoInt rfl (by decide) (by decide) v2 (out.take (k+1)) [x] (some ⟨g9,0,none⟩) 1 1 (fun k=>wd.heap.size≤k) (fun _=>False) rfl rfl HV3.out HX3.out (fun x cs h=>h) (fun _ h=>h.elim) (fun k hk=>Nat.le_trans HS3.out hk) HB3.out HB3.out.size ?qc1 ?_
    case qc1=>have:=Hk9.out;have:=HS.out.2;have:=HL.out;have:=HL2.out;simp<;>omega
    intro v4 w4 hr4 hb4 hg4 hat4
    have HV4:=Aside0.mk hr4
    have HB4:=Aside0.mk hb4
    have HO4:=Aside0.mk (Kd.R_grown HO3.out hg4 (fun k hk e=>by have:=HV3.out.1 k e.symm;omega))
    have HS4:Aside0 (wd.heap.size≤w4.heap.size):=⟨Nat.le_trans HS3.out hg4.size⟩
    clear hr4 hb4 hg4 hat4 HO3 HV3 HB3 HX3
    refine hK.out _ _ (cx'.out _ HB4.out) (fun hHeld=>?_)
    clear hK K
    refine norm_ (a':=?_) ?_ ?_
    rotate_left
    ·show Act.put _ (some 54) _ = _
     simp only [Act.put,M.sq3,i64_w,i32_w]
     rfl
    refine one_ (i:=14) (N:=(some 58)) #[true,true,true,true,true,true,true,true,true,true,true,true,true,true,true,false] rfl rfl (by kernel_rfl) (by decide) (fun K hK=>?_)
    have HC4:Aside0 ((Kd.int .i64).C w4 (if co=(k+1) then (some Ad) else Option.map (fun a:Addr=>a.add ((k+1)*1)) (some Ad)) (out.drop (k+1)).length (out.drop (k+1))):=⟨Kd.C_drop (k:=Kd.int .i64) (Kd.R_reads' HO4.out).2.2 (by have:=Hk9.out;omega) HCo.out.1⟩
    refine Kd.R_append_rows_step (Kd.int .i64) (Rr:=(Kd.int .i64).K w4) (w0:=w) w.heap.size rfl (.tmp 54) (.tmp 57) 22 3 (.int .i64 0) 8 rfl Try.underlying22 infoInt rfl (by decide) (by decide) v4 (out.take (k+1) ++ [x]) (out.drop (k+1)) _ (out.length - (k+1)) _ (fun k=>wd.heap.size≤k) (fun _=>False) rfl rfl HV4.out ?qd1 (fun x cs h=>h) (fun _ h=>h.elim) (fun k hk=>Nat.le_trans HS4.out hk) HB4.out HB4.out.size ?qe1 ?_
    case qd1=>have h:=HC4.out;rw [List.length_drop] at h;rw [if_pos HCO.out] at h;exact h
    case qe1=>have:=Hk9.out;have:=HS.out.2;have:=HL.out;have:=HL2.out;simp<;>omega
    intro v5 w5 hr5 hb5 hg5 hat5
    have HV5:=Aside0.mk hr5
    have HB5:=Aside0.mk hb5
    clear hr5 hb5 hg5 hat5 HO4 HV4 HB4 HC4
    refine hK.out _ _ (cx'.out _ HB5.out) (fun hHeld=>?_)
    clear hK K
    refine norm_ (a':=?_) ?_ ?_
    rotate_left
    ·show Act.put _ (some 58) _ = _
     simp only [Act.put,M.sq3,i64_w,i32_w]
     rfl
    refine pure_ (i:=15) (N:=(some 3)) (v:=?_) (a':=?_) #[true,true,true,true,true,true,true,true,true,true,true,true,true,true,true,true] rfl rfl (by kernel_rfl) (fun _ _ _ h=>h) (Or.inl ⟨by rfl,?_⟩) ?_ ?_
    rotate_left
    ·intro w'
     go_simp
     with_reducible rfl
    rotate_left
    ·simp only [Act.put, M.sq3, i64_w, i32_w]
     rfl
    refine done_ (by kernel_rfl) ?_
    go_wp2
    go_roundg (l.length - (i+1))
    case measure=>have:=Hi.out;have:=HL2.out;omega
    case rel=>exact⟨i+1,by have:=HL.out;have:=HL2.out;rw [show wrap64 ((i:Int)+1)=((i+1:Nat):Int) by unfold wrap64;omega],⟨HL2.out,Nat.le_refl _⟩,⟨by rw [HN.out,←ins_at HS.out.1 Hk9.out Hx.out Hlt9.out];exact Kd.R_mono HV5.out (fun _ _=>trivial)⟩,HB5⟩
   have t8 := eq_false hco
   have HCO:=Aside0.mk hco
   clear hco
   go_wp2
   refine start_ (n:=16) (S:=fun w'=>w'.cell? (Al.add i)=some (.int .i64 x)) (ds:=[]) #[false,false,false,false,false,false,false,false,false,false,false,false,false,false,false,false] (by kernel_rfl) rfl rfl (cx'.out _ (below_drew HB9.out)) (fun hHeld=>?_)
   have HBd:=Aside0.mk (below_drew HB9.out)
   have HOr:=Aside0.mk (Kd.R_drew HO9.out)
   generalize w9.drew=wd at HBd HOr hHeld ⊢
   clear HB9 HO9
   have HOd:Aside0 ((Kd.int .i64).R 3 wd w.heap.size (fun k=>k < wd.heap.size) (.slice (some Ad) out.length co) out):=⟨Kd.R_mono (Kd.R_bound HOr.out) (fun k hk=>hk.2.2.1)⟩
   have HSd:Aside0 (wd.heap.size≤wd.heap.size):=⟨Nat.le_refl _⟩
   clear HOr
   refine pure_ (i:=1) (N:=(some 45)) (v:=?_) (a':=?_) #[false,true,false,false,false,false,false,false,false,false,false,false,false,false,false,false] rfl rfl (by kernel_rfl) (fun _ _ _ h=>h) (Or.inl ⟨by rfl,?_⟩) ?_ ?_
   rotate_left
   ·intro w'
    go_simp
    with_reducible rfl
   rotate_left
   ·simp only [Act.put, M.sq3, i64_w, i32_w]
    rfl
   refine pure_ (i:=2) (N:=(some 46)) (v:=?_) (a':=?_) #[false,true,true,false,false,false,false,false,false,false,false,false,false,false,false,false] rfl rfl (by kernel_rfl) (fun _ _ _ h=>h) (Or.inl ⟨by rfl,?_⟩) ?_ ?_
   rotate_left
   ·intro w'
    go_simp
    with_reducible rfl
   rotate_left
   ·simp only [Act.put, M.sq3, i64_w, i32_w]
    rfl
   refine pure_ (i:=3) (N:=(some 47)) (v:=?_) (a':=?_) #[false,true,true,true,false,false,false,false,false,false,false,false,false,false,false,false] rfl rfl (by kernel_rfl) (fun _ _ _ h=>h) (Or.inl ⟨by rfl,?_⟩) ?_ ?_
   rotate_left
   ·intro w'
    go_simp
    with_reducible rfl
   rotate_left
   ·simp only [Act.put, M.sq3, i64_w, i32_w]
    rfl
   refine pure_ (i:=5) (N:=(some 49)) (v:=?_) (a':=?_) #[false,true,true,true,false,true,false,false,false,false,false,false,false,false,false,false] rfl rfl (by kernel_rfl) (fun _ _ _ h=>h) (Or.inl ⟨by rfl,?_⟩) ?_ ?_
   rotate_left
   ·intro w'
    go_simp
    with_reducible rfl
   rotate_left
   ·simp only [Act.put, M.sq3, i64_w, i32_w]
    rfl
   refine pure_ (i:=6) (N:=(some 50)) (v:=?_) (a':=?_) #[false,true,true,true,false,true,true,false,false,false,false,false,false,false,false,false] rfl rfl (by kernel_rfl) (fun _ _ _ h=>h) (Or.inl ⟨by rfl,?_⟩) ?_ ?_
   rotate_left
   ·intro w'
    go_simp
    with_reducible rfl
   rotate_left
   ·simp only [Act.put, M.sq3, i64_w, i32_w]
    rfl
   refine pure_ (i:=7) (N:=(some 51)) (v:=?_) (a':=?_) #[false,true,true,true,false,true,true,true,false,false,false,false,false,false,false,false] rfl rfl (by kernel_rfl) (fun _ _ _ h=>h) (Or.inl ⟨by rfl,?_⟩) ?_ ?_
   rotate_left
   ·intro w'
    go_simp
    with_reducible rfl
   rotate_left
   ·simp only [Act.put, M.sq3, i64_w, i32_w]
    rfl
   refine take_ (i:=8) (N:=(some 52)) (v:=?_) (a':=?_) #[false,true,true,true,false,true,true,true,true,false,false,false,false,false,false,false] rfl rfl (by kernel_rfl) (fun _ _ _ h=>h) (Or.inl ⟨by rfl,?_⟩) hHeld ?_ ?_
   rotate_left
   ·intro w' hS_
    go_simp
    with_reducible rfl
   rotate_left
   ·simp only [Act.put, M.sq3, i64_w, i32_w]
    rfl
   refine pure_ (i:=11) (N:=(some 55)) (v:=?_) (a':=?_) #[false,true,true,true,false,true,true,true,true,false,false,true,false,false,false,false] rfl rfl (by kernel_rfl) (fun _ _ _ h=>h) (Or.inl ⟨by rfl,?_⟩) ?_ ?_
   rotate_left
   ·intro w'
    go_simp
    with_reducible rfl
   rotate_left
   ·simp only [Act.put, M.sq3, i64_w, i32_w]
    rfl
   refine pure_ (i:=12) (N:=(some 56)) (v:=?_) (a':=?_) #[false,true,true,true,false,true,true,true,true,false,false,true,true,false,false,false] rfl rfl (by kernel_rfl) (fun _ _ _ h=>h) (Or.inl ⟨by rfl,?_⟩) ?_ ?_
   rotate_left
   ·intro w'
    go_simp
    with_reducible rfl
   rotate_left
   ·simp only [Act.put, M.sq3, i64_w, i32_w]
    rfl
   refine pure_ (i:=13) (N:=(some 57)) (v:=?_) (a':=?_) #[false,true,true,true,false,true,true,true,true,false,false,true,true,true,false,false] rfl rfl (by kernel_rfl) (fun _ _ _ h=>h) (Or.inl ⟨by rfl,?_⟩) ?_ ?_
   rotate_left
   ·intro w'
    go_simp
    with_reducible rfl
   rotate_left
   ·simp only [Act.put, M.sq3, i64_w, i32_w]
    rfl
   refine join_ (σ:=Value × Value × Nat) 3 #[true,true,true,true,true,true,true,true,true,true,false,true,true,true,false,false] (fun s_=>[(44,s_.1),(48,s_.2.1),(53,.slice (some ⟨s_.2.2,0,none⟩) 1 1)]) (fun s_ w'=>Below w.heap.size w w'∧(Kd.int .i64).R 3 w' w.heap.size (fun k=>wd.heap.size≤k) s_.2.1 (out.take (k+1))∧w'.heap[s_.2.2]? = some (.cells #[.int .i64 x] 3 (0,0))∧(Kd.int .i64).R 3 w' w.heap.size (fun k=>k < wd.heap.size) (.slice (some Ad) out.length co) out∧wd.heap.size≤w'.heap.size) ?_ ?_
   rotate_left
   ·intro hCont
    refine two_ (i:=0) (j:=9) (Ni:=some 44) (Nj:=some 53) #[true,true,true,true,false,true,true,true,true,false,false,true,true,true,false,false] #[false,true,true,true,false,true,true,true,true,true,false,true,true,true,false,false] rfl rfl rfl rfl (by kernel_rfl) (by decide) (by decide) (fun K hK=>?_) (fun K hK=>?_)
    ·skip
     refine step_run (v:=.slice (some ⟨wd.heap.size,0,none⟩) 0 0) (w1:=wd.alloc (.cells #[] 3)) rfl (by go_simp) ?_
     obtain⟨gda,hgda⟩:∃g,g=wd.heap.size:=⟨_,rfl⟩
     have HBda:=Aside0.mk (below_alloc HBd.out (.cells #[] 3))
     have HOda:=Aside0.mk (Kd.R_alloc HOd.out (.cells #[] 3))
     have HUda:Aside0 ((Kd.int .i64).R 3 (wd.alloc (.cells #[] 3)) w.heap.size (fun k=>wd.heap.size≤k) (.slice (some ⟨gda,0,none⟩) 0 0) []):=⟨by rw [hgda];exact Kd.R_of_own (World.ownsRow_made wd #[] 0 HBd.out.size (Nat.zero_le _) rfl) (fun k hk=>by have:=HSd.out;simp [Value.ownBlock] at hk;omega)⟩
     have HSda:Aside0 (wd.heap.size≤(wd.alloc (.cells #[] 3)).heap.size):=⟨by rw [size_alloc];have:=HSd.out;omega⟩
     rw [←hgda]
     generalize wd.alloc (.cells #[] 3)=wda at HBda HOda HSda HUda ⊢
     clear hgda
     refine hK.out _ _ (cx'.out _ HBda.out) (fun hHeld=>?_)
     clear hK K
     refine norm_ (a':=?_) ?_ ?_
     rotate_left
     ·show Act.put _ (some 44) _ = _
      simp only [Act.put,M.sq3,i64_w,i32_w]
      rfl
     refine two_ (i:=4) (j:=9) (Ni:=some 48) (Nj:=some 53) #[true,true,true,true,true,true,true,true,true,false,false,true,true,true,false,false] #[true,true,true,true,false,true,true,true,true,true,false,true,true,true,false,false] rfl rfl rfl rfl (by kernel_rfl) (by decide) (by decide) (fun K hK=>?_) (fun K hK=>?_)
     ·skip
      have HCdab:Aside0 ((Kd.int .i64).C wda (some Ad) (out.take (k+1)).length (out.take (k+1))):=⟨Kd.C_take (Kd.R_reads' HOda.out).2.2 (by have:=Hk9.out;omega)⟩
      have hlk:(out.take (k+1)).length=(k+1):=by rw [List.length_take];have:=Hk9.out;omega
      refine Kd.R_append_rows_step (Kd.int .i64) (Rr:=(Kd.int .i64).K wda) (w0:=w) w.heap.size rfl (.tmp 44) (.tmp 47) 22 3 (.int .i64 0) 8 rfl Try.underlying22 infoInt rfl (by decide) (by decide) (.slice (some ⟨gda,0,none⟩) 0 0) [] (out.take (k+1)) (some Ad) (k+1) _ (fun k=>wd.heap.size≤k) (fun _=>False) rfl rfl HUda.out ?qa2_1 (fun x cs h=>h) (fun _ h=>h.elim) (fun k hk=>Nat.le_trans HSda.out hk) HBda.out HBda.out.size ?qb2_1 ?_
      case qa2_1=>have h:=HCdab.out;rw [hlk] at h;exact h
      case qb2_1=>have:=Hk9.out;have:=HS.out.2;have:=HL.out;have:=HL2.out;simp<;>omega
      intro v2 wdab hr2 hb2 hg2 hat2
      have HVdab:=Aside0.mk hr2
      have HBdab:=Aside0.mk hb2
      have HOdab:=Aside0.mk (Kd.R_grown HOda.out hg2 (fun k hk e=>by have:=HUda.out.1 k e.symm;omega))
      have HSdab:Aside0 (wd.heap.size≤wdab.heap.size):=⟨Nat.le_trans HSda.out hg2.size⟩
      rw [List.nil_append] at HVdab
      clear hr2 hb2 hg2 hat2 hlk HCdab
      refine hK.out _ _ (cx'.out _ HBdab.out) (fun hHeld=>?_)
      clear hK K
      refine norm_ (a':=?_) ?_ ?_
      rotate_left
      ·show Act.put _ (some 48) _ = _
       simp only [Act.put,M.sq3,i64_w,i32_w]
       rfl
      refine one_ (i:=9) (N:=(some 53)) #[true,true,true,true,true,true,true,true,true,true,false,true,true,true,false,false] rfl rfl (by kernel_rfl) (by decide) (fun K hK=>?_)
      refine step_run (v:=.slice (some ⟨wdab.heap.size,0,none⟩) 1 1) (w1:=wdab.alloc (.cells #[.int .i64 x] 3)) rfl (by go_simp) ?_
      obtain⟨gdabc,hgdabc⟩:∃g,g=wdab.heap.size:=⟨_,rfl⟩
      have HBdabc:=Aside0.mk (below_alloc HBdab.out (.cells #[.int .i64 x] 3))
      have HOdabc:=Aside0.mk (Kd.R_alloc HOdab.out (.cells #[.int .i64 x] 3))
      have HVdabc:=Aside0.mk (Kd.R_alloc HVdab.out (.cells #[.int .i64 x] 3))
      have HXdabc:Aside0 ((wdab.alloc (.cells #[.int .i64 x] 3)).heap[gdabc]? = some (.cells #[.int .i64 x] 3 (0,0))):=⟨by rw [hgdabc];exact blk_newAt (w:=wdab) (n:=wdab.heap.size) _ rfl⟩
      have HSdabc:Aside0 (wd.heap.size≤(wdab.alloc (.cells #[.int .i64 x] 3)).heap.size):=⟨by rw [size_alloc];have:=HSdab.out;omega⟩
      rw [←hgdabc]
      generalize wdab.alloc (.cells #[.int .i64 x] 3)=wdabc at HBdabc HOdabc HSdabc HVdabc HXdabc ⊢
      clear hgdabc
      refine hK.out _ _ (cx'.out _ HBdabc.out) (fun hHeld=>?_)
      clear hK K
      refine norm_ (a':=?_) ?_ ?_
      rotate_left
      ·show Act.put _ (some 53) _ = _
       simp only [Act.put,M.sq3,i64_w,i32_w]
       rfl
      exact norm_ (by simp only [putAll,Act.put,M.sq3]) (hCont (.slice (some ⟨gda,0,none⟩) 0 0,v2,gdabc) _ ⟨HBdabc.out,HVdabc.out,HXdabc.out,HOdabc.out,HSdabc.out⟩)
     skip
     refine step_run (v:=.slice (some ⟨wda.heap.size,0,none⟩) 1 1) (w1:=wda.alloc (.cells #[.int .i64 x] 3)) rfl (by go_simp) ?_
     obtain⟨gdac,hgdac⟩:∃g,g=wda.heap.size:=⟨_,rfl⟩
     have HBdac:=Aside0.mk (below_alloc HBda.out (.cells #[.int .i64 x] 3))
     have HOdac:=Aside0.mk (Kd.R_alloc HOda.out (.cells #[.int .i64 x] 3))
     have HUdac:=Aside0.mk (Kd.R_alloc HUda.out (.cells #[.int .i64 x] 3))
     have HXdac:Aside0 ((wda.alloc (.cells #[.int .i64 x] 3)).heap[gdac]? = some (.cells #[.int .i64 x] 3 (0,0))):=⟨by rw [hgdac];exact blk_newAt (w:=wda) (n:=wda.heap.size) _ rfl⟩
     have HN2:Aside0 (gdac≠gda):=⟨by have:=Kd.R_lt HUda.out gda rfl;omega⟩
     have HSdac:Aside0 (wd.heap.size≤(wda.alloc (.cells #[.int .i64 x] 3)).heap.size):=⟨by rw [size_alloc];have:=HSda.out;omega⟩
     rw [←hgdac]
     generalize wda.alloc (.cells #[.int .i64 x] 3)=wdac at HBdac HOdac HSdac HUdac HXdac ⊢
     clear hgdac
     refine hK.out _ _ (cx'.out _ HBdac.out) (fun hHeld=>?_)
     clear hK K
     refine norm_ (a':=?_) ?_ ?_
     rotate_left
     ·show Act.put _ (some 53) _ = _
      simp only [Act.put,M.sq3,i64_w,i32_w]
      rfl
     refine one_ (i:=4) (N:=(some 48)) #[true,true,true,true,true,true,true,true,true,true,false,true,true,true,false,false] rfl rfl (by kernel_rfl) (by decide) (fun K hK=>?_)
     have HCdacb:Aside0 ((Kd.int .i64).C wdac (some Ad) (out.take (k+1)).length (out.take (k+1))):=⟨Kd.C_take (Kd.R_reads' HOdac.out).2.2 (by have:=Hk9.out;omega)⟩
     have hlk:(out.take (k+1)).length=(k+1):=by rw [List.length_take];have:=Hk9.out;omega
     refine Kd.R_append_rows_step (Kd.int .i64) (Rr:=(Kd.int .i64).K wdac) (w0:=w) w.heap.size rfl (.tmp 44) (.tmp 47) 22 3 (.int .i64 0) 8 rfl Try.underlying22 infoInt rfl (by decide) (by decide) (.slice (some ⟨gda,0,none⟩) 0 0) [] (out.take (k+1)) (some Ad) (k+1) _ (fun k=>wd.heap.size≤k) (fun _=>False) rfl rfl HUdac.out ?qa2_2 (fun x cs h=>h) (fun _ h=>h.elim) (fun k hk=>Nat.le_trans HSdac.out hk) HBdac.out HBdac.out.size ?qb2_2 ?_
     case qa2_2=>have h:=HCdacb.out;rw [hlk] at h;exact h
     case qb2_2=>have:=Hk9.out;have:=HS.out.2;have:=HL.out;have:=HL2.out;simp<;>omega
     intro v2 wdacb hr2 hb2 hg2 hat2
     have HVdacb:=Aside0.mk hr2
     have HBdacb:=Aside0.mk hb2
     have HOdacb:=Aside0.mk (Kd.R_grown HOdac.out hg2 (fun k hk e=>by have:=HUdac.out.1 k e.symm;omega))
     have HSdacb:Aside0 (wd.heap.size≤wdacb.heap.size):=⟨Nat.le_trans HSdac.out hg2.size⟩
     rw [List.nil_append] at HVdacb
     have HXdacb:Aside0 (wdacb.heap[gdac]? = some (.cells #[.int .i64 x] 3 (0,0))):=⟨(hg2.block _ (blk_lt HXdac.out) (nes HN2.out)).trans HXdac.out⟩
     clear hr2 hb2 hg2 hat2 hlk HCdacb
     refine hK.out _ _ (cx'.out _ HBdacb.out) (fun hHeld=>?_)
     clear hK K
     refine norm_ (a':=?_) ?_ ?_
     rotate_left
     ·show Act.put _ (some 48) _ = _
      simp only [Act.put,M.sq3,i64_w,i32_w]
      rfl
     exact norm_ (by simp only [putAll,Act.put,M.sq3]) (hCont (.slice (some ⟨gda,0,none⟩) 0 0,v2,gdac) _ ⟨HBdacb.out,HVdacb.out,HXdacb.out,HOdacb.out,HSdacb.out⟩)
    skip
    refine step_run (v:=.slice (some ⟨wd.heap.size,0,none⟩) 1 1) (w1:=wd.alloc (.cells #[.int .i64 x] 3)) rfl (by go_simp) ?_
    obtain⟨gdc,hgdc⟩:∃g,g=wd.heap.size:=⟨_,rfl⟩
    have HBdc:=Aside0.mk (below_alloc HBd.out (.cells #[.int .i64 x] 3))
    have HOdc:=Aside0.mk (Kd.R_alloc HOd.out (.cells #[.int .i64 x] 3))
    have HXdc:Aside0 ((wd.alloc (.cells #[.int .i64 x] 3)).heap[gdc]? = some (.cells #[.int .i64 x] 3 (0,0))):=⟨by rw [hgdc];exact blk_newAt (w:=wd) (n:=wd.heap.size) _ rfl⟩
    have HSdc:Aside0 (wd.heap.size≤(wd.alloc (.cells #[.int .i64 x] 3)).heap.size):=⟨by rw [size_alloc];have:=HSd.out;omega⟩
    rw [←hgdc]
    generalize wd.alloc (.cells #[.int .i64 x] 3)=wdc at HBdc HOdc HSdc HXdc ⊢
    clear hgdc
    refine hK.out _ _ (cx'.out _ HBdc.out) (fun hHeld=>?_)
    clear hK K
    refine norm_ (a':=?_) ?_ ?_
    rotate_left
    ·show Act.put _ (some 53) _ = _
     simp only [Act.put,M.sq3,i64_w,i32_w]
     rfl
    refine one_ (i:=0) (N:=(some 44)) #[true,true,true,true,false,true,true,true,true,true,false,true,true,true,false,false] rfl rfl (by kernel_rfl) (by decide) (fun K hK=>?_)
    refine step_run (v:=.slice (some ⟨wdc.heap.size,0,none⟩) 0 0) (w1:=wdc.alloc (.cells #[] 3)) rfl (by go_simp) ?_
    obtain⟨gdca,hgdca⟩:∃g,g=wdc.heap.size:=⟨_,rfl⟩
    have HBdca:=Aside0.mk (below_alloc HBdc.out (.cells #[] 3))
    have HOdca:=Aside0.mk (Kd.R_alloc HOdc.out (.cells #[] 3))
    have HXdca:=Aside0.mk (blk_old HXdc.out (.cells #[] 3))
    have HUdca:Aside0 ((Kd.int .i64).R 3 (wdc.alloc (.cells #[] 3)) w.heap.size (fun k=>wd.heap.size≤k) (.slice (some ⟨gdca,0,none⟩) 0 0) []):=⟨by rw [hgdca];exact Kd.R_of_own (World.ownsRow_made wdc #[] 0 HBdc.out.size (Nat.zero_le _) rfl) (fun k hk=>by have:=HSdc.out;simp [Value.ownBlock] at hk;omega)⟩
    have HN2:Aside0 (gdc≠gdca):=⟨by have:=blk_lt HXdc.out;omega⟩
    have HSdca:Aside0 (wd.heap.size≤(wdc.alloc (.cells #[] 3)).heap.size):=⟨by rw [size_alloc];have:=HSdc.out;omega⟩
    rw [←hgdca]
    generalize wdc.alloc (.cells #[] 3)=wdca at HBdca HOdca HSdca HUdca HXdca ⊢
    clear hgdca
    refine hK.out _ _ (cx'.out _ HBdca.out) (fun hHeld=>?_)
    clear hK K
    refine norm_ (a':=?_) ?_ ?_
    rotate_left
    ·show Act.put _ (some 44) _ = _
     simp only [Act.put,M.sq3,i64_w,i32_w]
     rfl
    refine one_ (i:=4) (N:=(some 48)) #[true,true,true,true,true,true,true,true,true,true,false,true,true,true,false,false] rfl rfl (by kernel_rfl) (by decide) (fun K hK=>?_)
    have HCdcab:Aside0 ((Kd.int .i64).C wdca (some Ad) (out.take (k+1)).length (out.take (k+1))):=⟨Kd.C_take (Kd.R_reads' HOdca.out).2.2 (by have:=Hk9.out;omega)⟩
    have hlk:(out.take (k+1)).length=(k+1):=by rw [List.length_take];have:=Hk9.out;omega
    refine Kd.R_append_rows_step (Kd.int .i64) (Rr:=(Kd.int .i64).K wdca) (w0:=w) w.heap.size rfl (.tmp 44) (.tmp 47) 22 3 (.int .i64 0) 8 rfl Try.underlying22 infoInt rfl (by decide) (by decide) (.slice (some ⟨gdca,0,none⟩) 0 0) [] (out.take (k+1)) (some Ad) (k+1) _ (fun k=>wd.heap.size≤k) (fun _=>False) rfl rfl HUdca.out ?qa2_3 (fun x cs h=>h) (fun _ h=>h.elim) (fun k hk=>Nat.le_trans HSdca.out hk) HBdca.out HBdca.out.size ?qb2_3 ?_
    case qa2_3=>have h:=HCdcab.out;rw [hlk] at h;exact h
    case qb2_3=>have:=Hk9.out;have:=HS.out.2;have:=HL.out;have:=HL2.out;simp<;>omega
    intro v2 wdcab hr2 hb2 hg2 hat2
    have HVdcab:=Aside0.mk hr2
    have HBdcab:=Aside0.mk hb2
    have HOdcab:=Aside0.mk (Kd.R_grown HOdca.out hg2 (fun k hk e=>by have:=HUdca.out.1 k e.symm;omega))
    have HSdcab:Aside0 (wd.heap.size≤wdcab.heap.size):=⟨Nat.le_trans HSdca.out hg2.size⟩
    rw [List.nil_append] at HVdcab
    have HXdcab:Aside0 (wdcab.heap[gdc]? = some (.cells #[.int .i64 x] 3 (0,0))):=⟨(hg2.block _ (blk_lt HXdca.out) (nes HN2.out)).trans HXdca.out⟩
    clear hr2 hb2 hg2 hat2 hlk HCdcab
    refine hK.out _ _ (cx'.out _ HBdcab.out) (fun hHeld=>?_)
    clear hK K
    refine norm_ (a':=?_) ?_ ?_
    rotate_left
    ·show Act.put _ (some 48) _ = _
     simp only [Act.put,M.sq3,i64_w,i32_w]
     rfl
    exact norm_ (by simp only [putAll,Act.put,M.sq3]) (hCont (.slice (some ⟨gdca,0,none⟩) 0 0,v2,gdc) _ ⟨HBdcab.out,HVdcab.out,HXdcab.out,HOdcab.out,HSdcab.out⟩)
   rintro⟨v44,v2,g9⟩ w3 ⟨hb3,hv3,hx3,ho3,hs3⟩
   have HB3:=Aside0.mk hb3
   have HV3:=Aside0.mk hv3
   have HX3:=Aside0.mk (reads_one hx3)
   have HO3:=Aside0.mk ho3
   have HS3:=Aside0.mk hs3
   clear hb3 hv3 hx3 ho3 hs3 HBd HOd HSd
   refine norm_ (a':=?_) ?_ ?_
   rotate_left
   ·simp only [putAll, Act.put, M.sq3, i64_w, i32_w]
    rfl
   refine one_ (i:=10) (N:=(some 54)) #[true,true,true,true,true,true,true,true,true,true,true,true,true,true,false,false] rfl rfl (by kernel_rfl) (by decide) (fun K hK=>?_)
   refine Kd.R_append_rows_step (Kd.int .i64) (Rr:=(Kd.int .i64).K w3) (w0:=w) w.heap.size rfl (.tmp 48) (.tmp 53) 22 3 (.int .i64 0) 8 rfl Try.underlying22 infoInt rfl (by decide) (by decide) v2 (out.take (k+1)) [x] (some ⟨g9,0,none⟩) 1 1 (fun k=>wd.heap.size≤k) (fun _=>False) rfl rfl HV3.out HX3.out (fun x cs h=>h) (fun _ h=>h.elim) (fun k hk=>Nat.le_trans HS3.out hk) HB3.out HB3.out.size ?qc2 ?_
   case qc2=>have:=Hk9.out;have:=HS.out.2;have:=HL.out;have:=HL2.out;simp<;>omega
   intro v4 w4 hr4 hb4 hg4 hat4
   have HV4:=Aside0.mk hr4
   have HB4:=Aside0.mk hb4
   have HO4:=Aside0.mk (Kd.R_grown HO3.out hg4 (fun k hk e=>by have:=HV3.out.1 k e.symm;omega))
   have HS4:Aside0 (wd.heap.size≤w4.heap.size):=⟨Nat.le_trans HS3.out hg4.size⟩
   clear hr4 hb4 hg4 hat4 HO3 HV3 HB3 HX3
   refine hK.out _ _ (cx'.out _ HB4.out) (fun hHeld=>?_)
   clear hK K
   refine norm_ (a':=?_) ?_ ?_
   rotate_left
   ·show Act.put _ (some 54) _ = _
    simp only [Act.put,M.sq3,i64_w,i32_w]
    rfl
   refine one_ (i:=14) (N:=(some 58)) #[true,true,true,true,true,true,true,true,true,true,true,true,true,true,true,false] rfl rfl (by kernel_rfl) (by decide) (fun K hK=>?_)
   have HC4:Aside0 ((Kd.int .i64).C w4 (if co=(k+1) then (some Ad) else Option.map (fun a:Addr=>a.add ((k+1)*1)) (some Ad)) (out.drop (k+1)).length (out.drop (k+1))):=⟨Kd.C_drop (k:=Kd.int .i64) (Kd.R_reads' HO4.out).2.2 (by have:=Hk9.out;omega) HCo.out.1⟩
   refine Kd.R_append_rows_step (Kd.int .i64) (Rr:=(Kd.int .i64).K w4) (w0:=w) w.heap.size rfl (.tmp 54) (.tmp 57) 22 3 (.int .i64 0) 8 rfl Try.underlying22 infoInt rfl (by decide) (by decide) v4 (out.take (k+1) ++ [x]) (out.drop (k+1)) _ (out.length - (k+1)) _ (fun k=>wd.heap.size≤k) (fun _=>False) rfl rfl HV4.out ?qd2 (fun x cs h=>h) (fun _ h=>h.elim) (fun k hk=>Nat.le_trans HS4.out hk) HB4.out HB4.out.size ?qe2 ?_
   case qd2=>have h:=HC4.out;rw [List.length_drop] at h;rw [if_neg HCO.out,Nat.mul_one] at h;exact h
   case qe2=>have:=Hk9.out;have:=HS.out.2;have:=HL.out;have:=HL2.out;simp<;>omega
   intro v5 w5 hr5 hb5 hg5 hat5
   have HV5:=Aside0.mk hr5
   have HB5:=Aside0.mk hb5
   clear hr5 hb5 hg5 hat5 HO4 HV4 HB4 HC4
   refine hK.out _ _ (cx'.out _ HB5.out) (fun hHeld=>?_)
   clear hK K
   refine norm_ (a':=?_) ?_ ?_
   rotate_left
   ·show Act.put _ (some 58) _ = _
    simp only [Act.put,M.sq3,i64_w,i32_w]
    rfl
   refine pure_ (i:=15) (N:=(some 3)) (v:=?_) (a':=?_) #[true,true,true,true,true,true,true,true,true,true,true,true,true,true,true,true] rfl rfl (by kernel_rfl) (fun _ _ _ h=>h) (Or.inl ⟨by rfl,?_⟩) ?_ ?_
   rotate_left
   ·intro w'
    go_simp
    with_reducible rfl
   rotate_left
   ·simp only [Act.put, M.sq3, i64_w, i32_w]
    rfl
   refine done_ (by kernel_rfl) ?_
   go_wp2
   go_roundg (l.length - (i+1))
   case measure=>have:=Hi.out;have:=HL2.out;omega
   case rel=>exact⟨i+1,by have:=HL.out;have:=HL2.out;rw [show wrap64 ((i:Int)+1)=((i+1:Nat):Int) by unfold wrap64;omega],⟨HL2.out,Nat.le_refl _⟩,⟨by rw [HN.out,←ins_at HS.out.1 Hk9.out Hx.out Hlt9.out];exact Kd.R_mono HV5.out (fun _ _=>trivial)⟩,HB5⟩
  obtain rfl : k = 0 := by omega
  clear hk
  rw [show ((0:Nat):Int)=0 from rfl]
  go_wp2
  go_quiet (fail)
  obtain⟨nq1,rfl⟩:∃m:Nat,m=nq:=⟨_,rfl⟩
  go_wp2
  go_quiet (fail)
  obtain⟨nq2,rfl⟩:∃m:Nat,m=nq:=⟨_,rfl⟩
  have HB9:Aside0 (Below w.heap.size w (((wo.drewN nd).drewN nq1).drewN nq2)):=⟨pw_below_drewN (pw_below_drewN HBr.out _) _⟩
  have HO9:Aside0 ((Kd.int .i64).R 3 (((wo.drewN nd).drewN nq1).drewN nq2) w.heap.size (fun _=>True) (.slice Ao out.length co) out):=⟨Kd.R_drewN (Kd.R_drewN (Kd.R_drewN HO.out _) _) _⟩
  generalize ((wo.drewN nd).drewN nq1).drewN nq2=w9 at HB9 HO9 ⊢
  have Hk9:Aside0 (0≤out.length):=⟨Nat.zero_le _⟩
  have Hlt9:Aside0 (∀h:0 < 0,out[0 - 1]'(by omega) < x):=⟨fun h=>absurd h (by omega)⟩
  have t6:=eq_true (show (0:Int)≤(co:Int) by omega)
  have t7:=eq_true (show (0:Int)≤(out.length:Int) by omega)
  have hAo:Ao=none→co=0:=fun e=>by
   obtain⟨inner,ho⟩:=Kd.R_own HO.out
   rcases ho.2 with ⟨h1,_⟩|⟨g,cap,cur,h1,_⟩
   ·injection h1
   rw [e] at h1;injection h1 with h1;cases h1
  cases Ao with
  | none=>
   have hco:=hAo rfl
   have t8:=eq_true hco
   have HCO:=Aside0.mk hco
   clear hco hAo
   go_wp2
   refine start_ (n:=16) (S:=fun w'=>w'.cell? (Al.add i)=some (.int .i64 x)) (ds:=[]) #[false,false,false,false,false,false,false,false,false,false,false,false,false,false,false,false] (by kernel_rfl) rfl rfl (cx'.out _ (below_drew HB9.out)) (fun hHeld=>?_)
   have HBd:=Aside0.mk (below_drew HB9.out)
   have HOr:=Aside0.mk (Kd.R_drew HO9.out)
   generalize w9.drew=wd at HBd HOr hHeld ⊢
   clear HB9 HO9
   have HOd:Aside0 ((Kd.int .i64).R 3 wd w.heap.size (fun k=>k < wd.heap.size) (.slice none out.length co) out):=⟨Kd.R_mono (Kd.R_bound HOr.out) (fun k hk=>hk.2.2.1)⟩
   have HSd:Aside0 (wd.heap.size≤wd.heap.size):=⟨Nat.le_refl _⟩
   clear HOr
   refine pure_ (i:=1) (N:=(some 45)) (v:=?_) (a':=?_) #[false,true,false,false,false,false,false,false,false,false,false,false,false,false,false,false] rfl rfl (by kernel_rfl) (fun _ _ _ h=>h) (Or.inl ⟨by rfl,?_⟩) ?_ ?_
   rotate_left
   ·intro w'
    go_simp
    with_reducible rfl
   rotate_left
   ·simp only [Act.put, M.sq3, i64_w, i32_w]
    rfl
   refine pure_ (i:=2) (N:=(some 46)) (v:=?_) (a':=?_) #[false,true,true,false,false,false,false,false,false,false,false,false,false,false,false,false] rfl rfl (by kernel_rfl) (fun _ _ _ h=>h) (Or.inl ⟨by rfl,?_⟩) ?_ ?_
   rotate_left
   ·intro w'
    go_simp
    with_reducible rfl
   rotate_left
   ·simp only [Act.put, M.sq3, i64_w, i32_w]
    rfl
   refine pure_ (i:=3) (N:=(some 47)) (v:=?_) (a':=?_) #[false,true,true,true,false,false,false,false,false,false,false,false,false,false,false,false] rfl rfl (by kernel_rfl) (fun _ _ _ h=>h) (Or.inl ⟨by rfl,?_⟩) ?_ ?_
   rotate_left
   ·intro w'
    go_simp
    with_reducible rfl
   rotate_left
   ·simp only [Act.put, M.sq3, i64_w, i32_w]
    rfl
   refine pure_ (i:=5) (N:=(some 49)) (v:=?_) (a':=?_) #[false,true,true,true,false,true,false,false,false,false,false,false,false,false,false,false] rfl rfl (by kernel_rfl) (fun _ _ _ h=>h) (Or.inl ⟨by rfl,?_⟩) ?_ ?_
   rotate_left
   ·intro w'
    go_simp
    with_reducible rfl
   rotate_left
   ·simp only [Act.put, M.sq3, i64_w, i32_w]
    rfl
   refine pure_ (i:=6) (N:=(some 50)) (v:=?_) (a':=?_) #[false,true,true,true,false,true,true,false,false,false,false,false,false,false,false,false] rfl rfl (by kernel_rfl) (fun _ _ _ h=>h) (Or.inl ⟨by rfl,?_⟩) ?_ ?_
   rotate_left
   ·intro w'
    go_simp
    with_reducible rfl
   rotate_left
   ·simp only [Act.put, M.sq3, i64_w, i32_w]
    rfl
   refine pure_ (i:=7) (N:=(some 51)) (v:=?_) (a':=?_) #[false,true,true,true,false,true,true,true,false,false,false,false,false,false,false,false] rfl rfl (by kernel_rfl) (fun _ _ _ h=>h) (Or.inl ⟨by rfl,?_⟩) ?_ ?_
   rotate_left
   ·intro w'
    go_simp
    with_reducible rfl
   rotate_left
   ·simp only [Act.put, M.sq3, i64_w, i32_w]
    rfl
   refine take_ (i:=8) (N:=(some 52)) (v:=?_) (a':=?_) #[false,true,true,true,false,true,true,true,true,false,false,false,false,false,false,false] rfl rfl (by kernel_rfl) (fun _ _ _ h=>h) (Or.inl ⟨by rfl,?_⟩) hHeld ?_ ?_
   rotate_left
   ·intro w' hS_
    go_simp
    with_reducible rfl
   rotate_left
   ·simp only [Act.put, M.sq3, i64_w, i32_w]
    rfl
   refine pure_ (i:=11) (N:=(some 55)) (v:=?_) (a':=?_) #[false,true,true,true,false,true,true,true,true,false,false,true,false,false,false,false] rfl rfl (by kernel_rfl) (fun _ _ _ h=>h) (Or.inl ⟨by rfl,?_⟩) ?_ ?_
   rotate_left
   ·intro w'
    go_simp
    with_reducible rfl
   rotate_left
   ·simp only [Act.put, M.sq3, i64_w, i32_w]
    rfl
   refine pure_ (i:=12) (N:=(some 56)) (v:=?_) (a':=?_) #[false,true,true,true,false,true,true,true,true,false,false,true,true,false,false,false] rfl rfl (by kernel_rfl) (fun _ _ _ h=>h) (Or.inl ⟨by rfl,?_⟩) ?_ ?_
   rotate_left
   ·intro w'
    go_simp
    with_reducible rfl
   rotate_left
   ·simp only [Act.put, M.sq3, i64_w, i32_w]
    rfl
   refine pure_ (i:=13) (N:=(some 57)) (v:=?_) (a':=?_) #[false,true,true,true,false,true,true,true,true,false,false,true,true,true,false,false] rfl rfl (by kernel_rfl) (fun _ _ _ h=>h) (Or.inl ⟨by rfl,?_⟩) ?_ ?_
   rotate_left
   ·intro w'
    go_simp
    with_reducible rfl
   rotate_left
   ·simp only [Act.put, M.sq3, i64_w, i32_w]
    rfl
   refine join_ (σ:=Value × Value × Nat) 3 #[true,true,true,true,true,true,true,true,true,true,false,true,true,true,false,false] (fun s_=>[(44,s_.1),(48,s_.2.1),(53,.slice (some ⟨s_.2.2,0,none⟩) 1 1)]) (fun s_ w'=>Below w.heap.size w w'∧(Kd.int .i64).R 3 w' w.heap.size (fun k=>wd.heap.size≤k) s_.2.1 (out.take 0)∧w'.heap[s_.2.2]? = some (.cells #[.int .i64 x] 3 (0,0))∧(Kd.int .i64).R 3 w' w.heap.size (fun k=>k < wd.heap.size) (.slice none out.length co) out∧wd.heap.size≤w'.heap.size) ?_ ?_
   rotate_left
   ·intro hCont
    refine two_ (i:=0) (j:=9) (Ni:=some 44) (Nj:=some 53) #[true,true,true,true,false,true,true,true,true,false,false,true,true,true,false,false] #[false,true,true,true,false,true,true,true,true,true,false,true,true,true,false,false] rfl rfl rfl rfl (by kernel_rfl) (by decide) (by decide) (fun K hK=>?_) (fun K hK=>?_)
    ·skip
     refine step_run (v:=.slice (some ⟨wd.heap.size,0,none⟩) 0 0) (w1:=wd.alloc (.cells #[] 3)) rfl (by go_simp) ?_
     obtain⟨gda,hgda⟩:∃g,g=wd.heap.size:=⟨_,rfl⟩
     have HBda:=Aside0.mk (below_alloc HBd.out (.cells #[] 3))
     have HOda:=Aside0.mk (Kd.R_alloc HOd.out (.cells #[] 3))
     have HUda:Aside0 ((Kd.int .i64).R 3 (wd.alloc (.cells #[] 3)) w.heap.size (fun k=>wd.heap.size≤k) (.slice (some ⟨gda,0,none⟩) 0 0) []):=⟨by rw [hgda];exact Kd.R_of_own (World.ownsRow_made wd #[] 0 HBd.out.size (Nat.zero_le _) rfl) (fun k hk=>by have:=HSd.out;simp [Value.ownBlock] at hk;omega)⟩
     have HSda:Aside0 (wd.heap.size≤(wd.alloc (.cells #[] 3)).heap.size):=⟨by rw [size_alloc];have:=HSd.out;omega⟩
     rw [←hgda]
     generalize wd.alloc (.cells #[] 3)=wda at HBda HOda HSda HUda ⊢
     clear hgda
     refine hK.out _ _ (cx'.out _ HBda.out) (fun hHeld=>?_)
     clear hK K
     refine norm_ (a':=?_) ?_ ?_
     rotate_left
     ·show Act.put _ (some 44) _ = _
      simp only [Act.put,M.sq3,i64_w,i32_w]
      rfl
     refine two_ (i:=4) (j:=9) (Ni:=some 48) (Nj:=some 53) #[true,true,true,true,true,true,true,true,true,false,false,true,true,true,false,false] #[true,true,true,true,false,true,true,true,true,true,false,true,true,true,false,false] rfl rfl rfl rfl (by kernel_rfl) (by decide) (by decide) (fun K hK=>?_) (fun K hK=>?_)
     ·skip
      have HCdab:Aside0 ((Kd.int .i64).C wda none (out.take 0).length (out.take 0)):=⟨Kd.C_take (Kd.R_reads' HOda.out).2.2 (by have:=Hk9.out;omega)⟩
      have hlk:(out.take 0).length=0:=by rw [List.length_take];have:=Hk9.out;omega
      refine Kd.R_append_rows_step (Kd.int .i64) (Rr:=(Kd.int .i64).K wda) (w0:=w) w.heap.size rfl (.tmp 44) (.tmp 47) 22 3 (.int .i64 0) 8 rfl Try.underlying22 infoInt rfl (by decide) (by decide) (.slice (some ⟨gda,0,none⟩) 0 0) [] (out.take 0) none 0 _ (fun k=>wd.heap.size≤k) (fun _=>False) rfl rfl HUda.out ?qa3_1 (fun x cs h=>h) (fun _ h=>h.elim) (fun k hk=>Nat.le_trans HSda.out hk) HBda.out HBda.out.size ?qb3_1 ?_
      case qa3_1=>have h:=HCdab.out;rw [hlk] at h;exact h
      case qb3_1=>have:=Hk9.out;have:=HS.out.2;have:=HL.out;have:=HL2.out;simp<;>omega
      intro v2 wdab hr2 hb2 hg2 hat2
      have HVdab:=Aside0.mk hr2
      have HBdab:=Aside0.mk hb2
      have HOdab:=Aside0.mk (Kd.R_grown HOda.out hg2 (fun k hk e=>by have:=HUda.out.1 k e.symm;omega))
      have HSdab:Aside0 (wd.heap.size≤wdab.heap.size):=⟨Nat.le_trans HSda.out hg2.size⟩
      rw [List.nil_append] at HVdab
      clear hr2 hb2 hg2 hat2 hlk HCdab
      refine hK.out _ _ (cx'.out _ HBdab.out) (fun hHeld=>?_)
      clear hK K
      refine norm_ (a':=?_) ?_ ?_
      rotate_left
      ·show Act.put _ (some 48) _ = _
       simp only [Act.put,M.sq3,i64_w,i32_w]
       rfl
      refine one_ (i:=9) (N:=(some 53)) #[true,true,true,true,true,true,true,true,true,true,false,true,true,true,false,false] rfl rfl (by kernel_rfl) (by decide) (fun K hK=>?_)
      refine step_run (v:=.slice (some ⟨wdab.heap.size,0,none⟩) 1 1) (w1:=wdab.alloc (.cells #[.int .i64 x] 3)) rfl (by go_simp) ?_
      obtain⟨gdabc,hgdabc⟩:∃g,g=wdab.heap.size:=⟨_,rfl⟩
      have HBdabc:=Aside0.mk (below_alloc HBdab.out (.cells #[.int .i64 x] 3))
      have HOdabc:=Aside0.mk (Kd.R_alloc HOdab.out (.cells #[.int .i64 x] 3))
      have HVdabc:=Aside0.mk (Kd.R_alloc HVdab.out (.cells #[.int .i64 x] 3))
      have HXdabc:Aside0 ((wdab.alloc (.cells #[.int .i64 x] 3)).heap[gdabc]? = some (.cells #[.int .i64 x] 3 (0,0))):=⟨by rw [hgdabc];exact blk_newAt (w:=wdab) (n:=wdab.heap.size) _ rfl⟩
      have HSdabc:Aside0 (wd.heap.size≤(wdab.alloc (.cells #[.int .i64 x] 3)).heap.size):=⟨by rw [size_alloc];have:=HSdab.out;omega⟩
      rw [←hgdabc]
      generalize wdab.alloc (.cells #[.int .i64 x] 3)=wdabc at HBdabc HOdabc HSdabc HVdabc HXdabc ⊢
      clear hgdabc
      refine hK.out _ _ (cx'.out _ HBdabc.out) (fun hHeld=>?_)
      clear hK K
      refine norm_ (a':=?_) ?_ ?_
      rotate_left
      ·show Act.put _ (some 53) _ = _
       simp only [Act.put,M.sq3,i64_w,i32_w]
       rfl
      exact norm_ (by simp only [putAll,Act.put,M.sq3]) (hCont (.slice (some ⟨gda,0,none⟩) 0 0,v2,gdabc) _ ⟨HBdabc.out,HVdabc.out,HXdabc.out,HOdabc.out,HSdabc.out⟩)
     skip
     refine step_run (v:=.slice (some ⟨wda.heap.size,0,none⟩) 1 1) (w1:=wda.alloc (.cells #[.int .i64 x] 3)) rfl (by go_simp) ?_
     obtain⟨gdac,hgdac⟩:∃g,g=wda.heap.size:=⟨_,rfl⟩
     have HBdac:=Aside0.mk (below_alloc HBda.out (.cells #[.int .i64 x] 3))
     have HOdac:=Aside0.mk (Kd.R_alloc HOda.out (.cells #[.int .i64 x] 3))
     have HUdac:=Aside0.mk (Kd.R_alloc HUda.out (.cells #[.int .i64 x] 3))
     have HXdac:Aside0 ((wda.alloc (.cells #[.int .i64 x] 3)).heap[gdac]? = some (.cells #[.int .i64 x] 3 (0,0))):=⟨by rw [hgdac];exact blk_newAt (w:=wda) (n:=wda.heap.size) _ rfl⟩
     have HN3:Aside0 (gdac≠gda):=⟨by have:=Kd.R_lt HUda.out gda rfl;omega⟩
     have HSdac:Aside0 (wd.heap.size≤(wda.alloc (.cells #[.int .i64 x] 3)).heap.size):=⟨by rw [size_alloc];have:=HSda.out;omega⟩
     rw [←hgdac]
     generalize wda.alloc (.cells #[.int .i64 x] 3)=wdac at HBdac HOdac HSdac HUdac HXdac ⊢
     clear hgdac
     refine hK.out _ _ (cx'.out _ HBdac.out) (fun hHeld=>?_)
     clear hK K
     refine norm_ (a':=?_) ?_ ?_
     rotate_left
     ·show Act.put _ (some 53) _ = _
      simp only [Act.put,M.sq3,i64_w,i32_w]
      rfl
     refine one_ (i:=4) (N:=(some 48)) #[true,true,true,true,true,true,true,true,true,true,false,true,true,true,false,false] rfl rfl (by kernel_rfl) (by decide) (fun K hK=>?_)
     have HCdacb:Aside0 ((Kd.int .i64).C wdac none (out.take 0).length (out.take 0)):=⟨Kd.C_take (Kd.R_reads' HOdac.out).2.2 (by have:=Hk9.out;omega)⟩
     have hlk:(out.take 0).length=0:=by rw [List.length_take];have:=Hk9.out;omega
     refine Kd.R_append_rows_step (Kd.int .i64) (Rr:=(Kd.int .i64).K wdac) (w0:=w) w.heap.size rfl (.tmp 44) (.tmp 47) 22 3 (.int .i64 0) 8 rfl Try.underlying22 infoInt rfl (by decide) (by decide) (.slice (some ⟨gda,0,none⟩) 0 0) [] (out.take 0) none 0 _ (fun k=>wd.heap.size≤k) (fun _=>False) rfl rfl HUdac.out ?qa3_2 (fun x cs h=>h) (fun _ h=>h.elim) (fun k hk=>Nat.le_trans HSdac.out hk) HBdac.out HBdac.out.size ?qb3_2 ?_
     case qa3_2=>have h:=HCdacb.out;rw [hlk] at h;exact h
     case qb3_2=>have:=Hk9.out;have:=HS.out.2;have:=HL.out;have:=HL2.out;simp<;>omega
     intro v2 wdacb hr2 hb2 hg2 hat2
     have HVdacb:=Aside0.mk hr2
     have HBdacb:=Aside0.mk hb2
     have HOdacb:=Aside0.mk (Kd.R_grown HOdac.out hg2 (fun k hk e=>by have:=HUdac.out.1 k e.symm;omega))
     have HSdacb:Aside0 (wd.heap.size≤wdacb.heap.size):=⟨Nat.le_trans HSdac.out hg2.size⟩
     rw [List.nil_append] at HVdacb
     have HXdacb:Aside0 (wdacb.heap[gdac]? = some (.cells #[.int .i64 x] 3 (0,0))):=⟨(hg2.block _ (blk_lt HXdac.out) (nes HN3.out)).trans HXdac.out⟩
     clear hr2 hb2 hg2 hat2 hlk HCdacb
     refine hK.out _ _ (cx'.out _ HBdacb.out) (fun hHeld=>?_)
     clear hK K
     refine norm_ (a':=?_) ?_ ?_
     rotate_left
     ·show Act.put _ (some 48) _ = _
      simp only [Act.put,M.sq3,i64_w,i32_w]
      rfl
     exact norm_ (by simp only [putAll,Act.put,M.sq3]) (hCont (.slice (some ⟨gda,0,none⟩) 0 0,v2,gdac) _ ⟨HBdacb.out,HVdacb.out,HXdacb.out,HOdacb.out,HSdacb.out⟩)
    skip
    refine step_run (v:=.slice (some ⟨wd.heap.size,0,none⟩) 1 1) (w1:=wd.alloc (.cells #[.int .i64 x] 3)) rfl (by go_simp) ?_
    obtain⟨gdc,hgdc⟩:∃g,g=wd.heap.size:=⟨_,rfl⟩
    have HBdc:=Aside0.mk (below_alloc HBd.out (.cells #[.int .i64 x] 3))
    have HOdc:=Aside0.mk (Kd.R_alloc HOd.out (.cells #[.int .i64 x] 3))
    have HXdc:Aside0 ((wd.alloc (.cells #[.int .i64 x] 3)).heap[gdc]? = some (.cells #[.int .i64 x] 3 (0,0))):=⟨by rw [hgdc];exact blk_newAt (w:=wd) (n:=wd.heap.size) _ rfl⟩
    have HSdc:Aside0 (wd.heap.size≤(wd.alloc (.cells #[.int .i64 x] 3)).heap.size):=⟨by rw [size_alloc];have:=HSd.out;omega⟩
    rw [←hgdc]
    generalize wd.alloc (.cells #[.int .i64 x] 3)=wdc at HBdc HOdc HSdc HXdc ⊢
    clear hgdc
    refine hK.out _ _ (cx'.out _ HBdc.out) (fun hHeld=>?_)
    clear hK K
    refine norm_ (a':=?_) ?_ ?_
    rotate_left
    ·show Act.put _ (some 53) _ = _
     simp only [Act.put,M.sq3,i64_w,i32_w]
     rfl
    refine one_ (i:=0) (N:=(some 44)) #[true,true,true,true,false,true,true,true,true,true,false,true,true,true,false,false] rfl rfl (by kernel_rfl) (by decide) (fun K hK=>?_)
    refine step_run (v:=.slice (some ⟨wdc.heap.size,0,none⟩) 0 0) (w1:=wdc.alloc (.cells #[] 3)) rfl (by go_simp) ?_
    obtain⟨gdca,hgdca⟩:∃g,g=wdc.heap.size:=⟨_,rfl⟩
    have HBdca:=Aside0.mk (below_alloc HBdc.out (.cells #[] 3))
    have HOdca:=Aside0.mk (Kd.R_alloc HOdc.out (.cells #[] 3))
    have HXdca:=Aside0.mk (blk_old HXdc.out (.cells #[] 3))
    have HUdca:Aside0 ((Kd.int .i64).R 3 (wdc.alloc (.cells #[] 3)) w.heap.size (fun k=>wd.heap.size≤k) (.slice (some ⟨gdca,0,none⟩) 0 0) []):=⟨by rw [hgdca];exact Kd.R_of_own (World.ownsRow_made wdc #[] 0 HBdc.out.size (Nat.zero_le _) rfl) (fun k hk=>by have:=HSdc.out;simp [Value.ownBlock] at hk;omega)⟩
    have HN3:Aside0 (gdc≠gdca):=⟨by have:=blk_lt HXdc.out;omega⟩
    have HSdca:Aside0 (wd.heap.size≤(wdc.alloc (.cells #[] 3)).heap.size):=⟨by rw [size_alloc];have:=HSdc.out;omega⟩
    rw [←hgdca]
    generalize wdc.alloc (.cells #[] 3)=wdca at HBdca HOdca HSdca HUdca HXdca ⊢
    clear hgdca
    refine hK.out _ _ (cx'.out _ HBdca.out) (fun hHeld=>?_)
    clear hK K
    refine norm_ (a':=?_) ?_ ?_
    rotate_left
    ·show Act.put _ (some 44) _ = _
     simp only [Act.put,M.sq3,i64_w,i32_w]
     rfl
    refine one_ (i:=4) (N:=(some 48)) #[true,true,true,true,true,true,true,true,true,true,false,true,true,true,false,false] rfl rfl (by kernel_rfl) (by decide) (fun K hK=>?_)
    have HCdcab:Aside0 ((Kd.int .i64).C wdca none (out.take 0).length (out.take 0)):=⟨Kd.C_take (Kd.R_reads' HOdca.out).2.2 (by have:=Hk9.out;omega)⟩
    have hlk:(out.take 0).length=0:=by rw [List.length_take];have:=Hk9.out;omega
    refine Kd.R_append_rows_step (Kd.int .i64) (Rr:=(Kd.int .i64).K wdca) (w0:=w) w.heap.size rfl (.tmp 44) (.tmp 47) 22 3 (.int .i64 0) 8 rfl Try.underlying22 infoInt rfl (by decide) (by decide) (.slice (some ⟨gdca,0,none⟩) 0 0) [] (out.take 0) none 0 _ (fun k=>wd.heap.size≤k) (fun _=>False) rfl rfl HUdca.out ?qa3_3 (fun x cs h=>h) (fun _ h=>h.elim) (fun k hk=>Nat.le_trans HSdca.out hk) HBdca.out HBdca.out.size ?qb3_3 ?_
    case qa3_3=>have h:=HCdcab.out;rw [hlk] at h;exact h
    case qb3_3=>have:=Hk9.out;have:=HS.out.2;have:=HL.out;have:=HL2.out;simp<;>omega
    intro v2 wdcab hr2 hb2 hg2 hat2
    have HVdcab:=Aside0.mk hr2
    have HBdcab:=Aside0.mk hb2
    have HOdcab:=Aside0.mk (Kd.R_grown HOdca.out hg2 (fun k hk e=>by have:=HUdca.out.1 k e.symm;omega))
    have HSdcab:Aside0 (wd.heap.size≤wdcab.heap.size):=⟨Nat.le_trans HSdca.out hg2.size⟩
    rw [List.nil_append] at HVdcab
    have HXdcab:Aside0 (wdcab.heap[gdc]? = some (.cells #[.int .i64 x] 3 (0,0))):=⟨(hg2.block _ (blk_lt HXdca.out) (nes HN3.out)).trans HXdca.out⟩
    clear hr2 hb2 hg2 hat2 hlk HCdcab
    refine hK.out _ _ (cx'.out _ HBdcab.out) (fun hHeld=>?_)
    clear hK K
    refine norm_ (a':=?_) ?_ ?_
    rotate_left
    ·show Act.put _ (some 48) _ = _
     simp only [Act.put,M.sq3,i64_w,i32_w]
     rfl
    exact norm_ (by simp only [putAll,Act.put,M.sq3]) (hCont (.slice (some ⟨gdca,0,none⟩) 0 0,v2,gdc) _ ⟨HBdcab.out,HVdcab.out,HXdcab.out,HOdcab.out,HSdcab.out⟩)
   rintro⟨v44,v2,g9⟩ w3 ⟨hb3,hv3,hx3,ho3,hs3⟩
   have HB3:=Aside0.mk hb3
   have HV3:=Aside0.mk hv3
   have HX3:=Aside0.mk (reads_one hx3)
   have HO3:=Aside0.mk ho3
   have HS3:=Aside0.mk hs3
   clear hb3 hv3 hx3 ho3 hs3 HBd HOd HSd
   refine norm_ (a':=?_) ?_ ?_
   rotate_left
   ·simp only [putAll, Act.put, M.sq3, i64_w, i32_w]
    rfl
   refine one_ (i:=10) (N:=(some 54)) #[true,true,true,true,true,true,true,true,true,true,true,true,true,true,false,false] rfl rfl (by kernel_rfl) (by decide) (fun K hK=>?_)
   refine Kd.R_append_rows_step (Kd.int .i64) (Rr:=(Kd.int .i64).K w3) (w0:=w) w.heap.size rfl (.tmp 48) (.tmp 53) 22 3 (.int .i64 0) 8 rfl Try.underlying22 infoInt rfl (by decide) (by decide) v2 (out.take 0) [x] (some ⟨g9,0,none⟩) 1 1 (fun k=>wd.heap.size≤k) (fun _=>False) rfl rfl HV3.out HX3.out (fun x cs h=>h) (fun _ h=>h.elim) (fun k hk=>Nat.le_trans HS3.out hk) HB3.out HB3.out.size ?qc3 ?_
   case qc3=>have:=Hk9.out;have:=HS.out.2;have:=HL.out;have:=HL2.out;simp<;>omega
   intro v4 w4 hr4 hb4 hg4 hat4
   have HV4:=Aside0.mk hr4
   have HB4:=Aside0.mk hb4
   have HO4:=Aside0.mk (Kd.R_grown HO3.out hg4 (fun k hk e=>by have:=HV3.out.1 k e.symm;omega))
   have HS4:Aside0 (wd.heap.size≤w4.heap.size):=⟨Nat.le_trans HS3.out hg4.size⟩
   clear hr4 hb4 hg4 hat4 HO3 HV3 HB3 HX3
   refine hK.out _ _ (cx'.out _ HB4.out) (fun hHeld=>?_)
   clear hK K
   refine norm_ (a':=?_) ?_ ?_
   rotate_left
   ·show Act.put _ (some 54) _ = _
    simp only [Act.put,M.sq3,i64_w,i32_w]
    rfl
   refine one_ (i:=14) (N:=(some 58)) #[true,true,true,true,true,true,true,true,true,true,true,true,true,true,true,false] rfl rfl (by kernel_rfl) (by decide) (fun K hK=>?_)
   have HC4:Aside0 ((Kd.int .i64).C w4 (if co=0 then none else Option.map (fun a:Addr=>a.add (0*1)) none) (out.drop 0).length (out.drop 0)):=⟨Kd.C_drop (k:=Kd.int .i64) (Kd.R_reads' HO4.out).2.2 (by have:=Hk9.out;omega) HCo.out.1⟩
   refine Kd.R_append_rows_step (Kd.int .i64) (Rr:=(Kd.int .i64).K w4) (w0:=w) w.heap.size rfl (.tmp 54) (.tmp 57) 22 3 (.int .i64 0) 8 rfl Try.underlying22 infoInt rfl (by decide) (by decide) v4 (out.take 0 ++ [x]) (out.drop 0) _ (out.length - 0) _ (fun k=>wd.heap.size≤k) (fun _=>False) rfl rfl HV4.out ?qd3 (fun x cs h=>h) (fun _ h=>h.elim) (fun k hk=>Nat.le_trans HS4.out hk) HB4.out HB4.out.size ?qe3 ?_
   case qd3=>have h:=HC4.out;rw [List.length_drop] at h;rw [if_pos HCO.out] at h;exact h
   case qe3=>have:=Hk9.out;have:=HS.out.2;have:=HL.out;have:=HL2.out;simp<;>omega
   intro v5 w5 hr5 hb5 hg5 hat5
   have HV5:=Aside0.mk hr5
   have HB5:=Aside0.mk hb5
   clear hr5 hb5 hg5 hat5 HO4 HV4 HB4 HC4
   refine hK.out _ _ (cx'.out _ HB5.out) (fun hHeld=>?_)
   clear hK K
   refine norm_ (a':=?_) ?_ ?_
   rotate_left
   ·show Act.put _ (some 58) _ = _
    simp only [Act.put,M.sq3,i64_w,i32_w]
    rfl
   refine pure_ (i:=15) (N:=(some 3)) (v:=?_) (a':=?_) #[true,true,true,true,true,true,true,true,true,true,true,true,true,true,true,true] rfl rfl (by kernel_rfl) (fun _ _ _ h=>h) (Or.inl ⟨by rfl,?_⟩) ?_ ?_
   rotate_left
   ·intro w'
    go_simp
    with_reducible rfl
   rotate_left
   ·simp only [Act.put, M.sq3, i64_w, i32_w]
    rfl
   refine done_ (by kernel_rfl) ?_
   go_wp2
   go_roundg (l.length - (i+1))
   case measure=>have:=Hi.out;have:=HL2.out;omega
   case rel=>exact⟨i+1,by have:=HL.out;have:=HL2.out;rw [show wrap64 ((i:Int)+1)=((i+1:Nat):Int) by unfold wrap64;omega],⟨HL2.out,Nat.le_refl _⟩,⟨by rw [HN.out,←ins_at HS.out.1 Hk9.out Hx.out Hlt9.out];exact Kd.R_mono HV5.out (fun _ _=>trivial)⟩,HB5⟩
  | some Ad=>
   clear hAo
   by_cases hco:co=0
   ·have t8 := eq_true hco
    have HCO:=Aside0.mk hco
    clear hco
    go_wp2
    refine start_ (n:=16) (S:=fun w'=>w'.cell? (Al.add i)=some (.int .i64 x)) (ds:=[]) #[false,false,false,false,false,false,false,false,false,false,false,false,false,false,false,false] (by kernel_rfl) rfl rfl (cx'.out _ (below_drew HB9.out)) (fun hHeld=>?_)
    have HBd:=Aside0.mk (below_drew HB9.out)
    have HOr:=Aside0.mk (Kd.R_drew HO9.out)
    generalize w9.drew=wd at HBd HOr hHeld ⊢
    clear HB9 HO9
    have HOd:Aside0 ((Kd.int .i64).R 3 wd w.heap.size (fun k=>k < wd.heap.size) (.slice (some Ad) out.length co) out):=⟨Kd.R_mono (Kd.R_bound HOr.out) (fun k hk=>hk.2.2.1)⟩
    have HSd:Aside0 (wd.heap.size≤wd.heap.size):=⟨Nat.le_refl _⟩
    clear HOr
    refine pure_ (i:=1) (N:=(some 45)) (v:=?_) (a':=?_) #[false,true,false,false,false,false,false,false,false,false,false,false,false,false,false,false] rfl rfl (by kernel_rfl) (fun _ _ _ h=>h) (Or.inl ⟨by rfl,?_⟩) ?_ ?_
    rotate_left
    ·intro w'
     go_simp
     with_reducible rfl
    rotate_left
    ·simp only [Act.put, M.sq3, i64_w, i32_w]
     rfl
    refine pure_ (i:=2) (N:=(some 46)) (v:=?_) (a':=?_) #[false,true,true,false,false,false,false,false,false,false,false,false,false,false,false,false] rfl rfl (by kernel_rfl) (fun _ _ _ h=>h) (Or.inl ⟨by rfl,?_⟩) ?_ ?_
    rotate_left
    ·intro w'
     go_simp
     with_reducible rfl
    rotate_left
    ·simp only [Act.put, M.sq3, i64_w, i32_w]
     rfl
    refine pure_ (i:=3) (N:=(some 47)) (v:=?_) (a':=?_) #[false,true,true,true,false,false,false,false,false,false,false,false,false,false,false,false] rfl rfl (by kernel_rfl) (fun _ _ _ h=>h) (Or.inl ⟨by rfl,?_⟩) ?_ ?_
    rotate_left
    ·intro w'
     go_simp
     with_reducible rfl
    rotate_left
    ·simp only [Act.put, M.sq3, i64_w, i32_w]
     rfl
    refine pure_ (i:=5) (N:=(some 49)) (v:=?_) (a':=?_) #[false,true,true,true,false,true,false,false,false,false,false,false,false,false,false,false] rfl rfl (by kernel_rfl) (fun _ _ _ h=>h) (Or.inl ⟨by rfl,?_⟩) ?_ ?_
    rotate_left
    ·intro w'
     go_simp
     with_reducible rfl
    rotate_left
    ·simp only [Act.put, M.sq3, i64_w, i32_w]
     rfl
    refine pure_ (i:=6) (N:=(some 50)) (v:=?_) (a':=?_) #[false,true,true,true,false,true,true,false,false,false,false,false,false,false,false,false] rfl rfl (by kernel_rfl) (fun _ _ _ h=>h) (Or.inl ⟨by rfl,?_⟩) ?_ ?_
    rotate_left
    ·intro w'
     go_simp
     with_reducible rfl
    rotate_left
    ·simp only [Act.put, M.sq3, i64_w, i32_w]
     rfl
    refine pure_ (i:=7) (N:=(some 51)) (v:=?_) (a':=?_) #[false,true,true,true,false,true,true,true,false,false,false,false,false,false,false,false] rfl rfl (by kernel_rfl) (fun _ _ _ h=>h) (Or.inl ⟨by rfl,?_⟩) ?_ ?_
    rotate_left
    ·intro w'
     go_simp
     with_reducible rfl
    rotate_left
    ·simp only [Act.put, M.sq3, i64_w, i32_w]
     rfl
    refine take_ (i:=8) (N:=(some 52)) (v:=?_) (a':=?_) #[false,true,true,true,false,true,true,true,true,false,false,false,false,false,false,false] rfl rfl (by kernel_rfl) (fun _ _ _ h=>h) (Or.inl ⟨by rfl,?_⟩) hHeld ?_ ?_
    rotate_left
    ·intro w' hS_
     go_simp
     with_reducible rfl
    rotate_left
    ·simp only [Act.put, M.sq3, i64_w, i32_w]
     rfl
    refine pure_ (i:=11) (N:=(some 55)) (v:=?_) (a':=?_) #[false,true,true,true,false,true,true,true,true,false,false,true,false,false,false,false] rfl rfl (by kernel_rfl) (fun _ _ _ h=>h) (Or.inl ⟨by rfl,?_⟩) ?_ ?_
    rotate_left
    ·intro w'
     go_simp
     with_reducible rfl
    rotate_left
    ·simp only [Act.put, M.sq3, i64_w, i32_w]
     rfl
    refine pure_ (i:=12) (N:=(some 56)) (v:=?_) (a':=?_) #[false,true,true,true,false,true,true,true,true,false,false,true,true,false,false,false] rfl rfl (by kernel_rfl) (fun _ _ _ h=>h) (Or.inl ⟨by rfl,?_⟩) ?_ ?_
    rotate_left
    ·intro w'
     go_simp
     with_reducible rfl
    rotate_left
    ·simp only [Act.put, M.sq3, i64_w, i32_w]
     rfl
    refine pure_ (i:=13) (N:=(some 57)) (v:=?_) (a':=?_) #[false,true,true,true,false,true,true,true,true,false,false,true,true,true,false,false] rfl rfl (by kernel_rfl) (fun _ _ _ h=>h) (Or.inl ⟨by rfl,?_⟩) ?_ ?_
    rotate_left
    ·intro w'
     go_simp
     with_reducible rfl
    rotate_left
    ·simp only [Act.put, M.sq3, i64_w, i32_w]
     rfl
    refine join_ (σ:=Value × Value × Nat) 3 #[true,true,true,true,true,true,true,true,true,true,false,true,true,true,false,false] (fun s_=>[(44,s_.1),(48,s_.2.1),(53,.slice (some ⟨s_.2.2,0,none⟩) 1 1)]) (fun s_ w'=>Below w.heap.size w w'∧(Kd.int .i64).R 3 w' w.heap.size (fun k=>wd.heap.size≤k) s_.2.1 (out.take 0)∧w'.heap[s_.2.2]? = some (.cells #[.int .i64 x] 3 (0,0))∧(Kd.int .i64).R 3 w' w.heap.size (fun k=>k < wd.heap.size) (.slice (some Ad) out.length co) out∧wd.heap.size≤w'.heap.size) ?_ ?_
    rotate_left
    ·intro hCont
     refine two_ (i:=0) (j:=9) (Ni:=some 44) (Nj:=some 53) #[true,true,true,true,false,true,true,true,true,false,false,true,true,true,false,false] #[false,true,true,true,false,true,true,true,true,true,false,true,true,true,false,false] rfl rfl rfl rfl (by kernel_rfl) (by decide) (by decide) (fun K hK=>?_) (fun K hK=>?_)
     ·skip
      refine step_run (v:=.slice (some ⟨wd.heap.size,0,none⟩) 0 0) (w1:=wd.alloc (.cells #[] 3)) rfl (by go_simp) ?_
      obtain⟨gda,hgda⟩:∃g,g=wd.heap.size:=⟨_,rfl⟩
      have HBda:=Aside0.mk (below_alloc HBd.out (.cells #[] 3))
      have HOda:=Aside0.mk (Kd.R_alloc HOd.out (.cells #[] 3))
      have HUda:Aside0 ((Kd.int .i64).R 3 (wd.alloc (.cells #[] 3)) w.heap.size (fun k=>wd.heap.size≤k) (.slice (some ⟨gda,0,none⟩) 0 0) []):=⟨by rw [hgda];exact Kd.R_of_own (World.ownsRow_made wd #[] 0 HBd.out.size (Nat.zero_le _) rfl) (fun k hk=>by have:=HSd.out;simp [Value.ownBlock] at hk;omega)⟩
      have HSda:Aside0 (wd.heap.size≤(wd.alloc (.cells #[] 3)).heap.size):=⟨by rw [size_alloc];have:=HSd.out;omega⟩
      rw [←hgda]
      generalize wd.alloc (.cells #[] 3)=wda at HBda HOda HSda HUda ⊢
      clear hgda
      refine hK.out _ _ (cx'.out _ HBda.out) (fun hHeld=>?_)
      clear hK K
      refine norm_ (a':=?_) ?_ ?_
      rotate_left
      ·show Act.put _ (some 44) _ = _
       simp only [Act.put,M.sq3,i64_w,i32_w]
       rfl
      refine two_ (i:=4) (j:=9) (Ni:=some 48) (Nj:=some 53) #[true,true,true,true,true,true,true,true,true,false,false,true,true,true,false,false] #[true,true,true,true,false,true,true,true,true,true,false,true,true,true,false,false] rfl rfl rfl rfl (by kernel_rfl) (by decide) (by decide) (fun K hK=>?_) (fun K hK=>?_)
      ·skip
       have HCdab:Aside0 ((Kd.int .i64).C wda (some Ad) (out.take 0).length (out.take 0)):=⟨Kd.C_take (Kd.R_reads' HOda.out).2.2 (by have:=Hk9.out;omega)⟩
       have hlk:(out.take 0).length=0:=by rw [List.length_take];have:=Hk9.out;omega
       refine Kd.R_append_rows_step (Kd.int .i64) (Rr:=(Kd.int .i64).K wda) (w0:=w) w.heap.size rfl (.tmp 44) (.tmp 47) 22 3 (.int .i64 0) 8 rfl Try.underlying22 infoInt rfl (by decide) (by decide) (.slice (some ⟨gda,0,none⟩) 0 0) [] (out.take 0) (some Ad) 0 _ (fun k=>wd.heap.size≤k) (fun _=>False) rfl rfl HUda.out ?qa4_1 (fun x cs h=>h) (fun _ h=>h.elim) (fun k hk=>Nat.le_trans HSda.out hk) HBda.out HBda.out.size ?qb4_1 ?_
       case qa4_1=>have h:=HCdab.out;rw [hlk] at h;exact h
       case qb4_1=>have:=Hk9.out;have:=HS.out.2;have:=HL.out;have:=HL2.out;simp<;>omega
       intro v2 wdab hr2 hb2 hg2 hat2
       have HVdab:=Aside0.mk hr2
       have HBdab:=Aside0.mk hb2
       have HOdab:=Aside0.mk (Kd.R_grown HOda.out hg2 (fun k hk e=>by have:=HUda.out.1 k e.symm;omega))
       have HSdab:Aside0 (wd.heap.size≤wdab.heap.size):=⟨Nat.le_trans HSda.out hg2.size⟩
       rw [List.nil_append] at HVdab
       clear hr2 hb2 hg2 hat2 hlk HCdab
       refine hK.out _ _ (cx'.out _ HBdab.out) (fun hHeld=>?_)
       clear hK K
       refine norm_ (a':=?_) ?_ ?_
       rotate_left
       ·show Act.put _ (some 48) _ = _
        simp only [Act.put,M.sq3,i64_w,i32_w]
        rfl
       refine one_ (i:=9) (N:=(some 53)) #[true,true,true,true,true,true,true,true,true,true,false,true,true,true,false,false] rfl rfl (by kernel_rfl) (by decide) (fun K hK=>?_)
       refine step_run (v:=.slice (some ⟨wdab.heap.size,0,none⟩) 1 1) (w1:=wdab.alloc (.cells #[.int .i64 x] 3)) rfl (by go_simp) ?_
       obtain⟨gdabc,hgdabc⟩:∃g,g=wdab.heap.size:=⟨_,rfl⟩
       have HBdabc:=Aside0.mk (below_alloc HBdab.out (.cells #[.int .i64 x] 3))
       have HOdabc:=Aside0.mk (Kd.R_alloc HOdab.out (.cells #[.int .i64 x] 3))
       have HVdabc:=Aside0.mk (Kd.R_alloc HVdab.out (.cells #[.int .i64 x] 3))
       have HXdabc:Aside0 ((wdab.alloc (.cells #[.int .i64 x] 3)).heap[gdabc]? = some (.cells #[.int .i64 x] 3 (0,0))):=⟨by rw [hgdabc];exact blk_newAt (w:=wdab) (n:=wdab.heap.size) _ rfl⟩
       have HSdabc:Aside0 (wd.heap.size≤(wdab.alloc (.cells #[.int .i64 x] 3)).heap.size):=⟨by rw [size_alloc];have:=HSdab.out;omega⟩
       rw [←hgdabc]
       generalize wdab.alloc (.cells #[.int .i64 x] 3)=wdabc at HBdabc HOdabc HSdabc HVdabc HXdabc ⊢
       clear hgdabc
       refine hK.out _ _ (cx'.out _ HBdabc.out) (fun hHeld=>?_)
       clear hK K
       refine norm_ (a':=?_) ?_ ?_
       rotate_left
       ·show Act.put _ (some 53) _ = _
        simp only [Act.put,M.sq3,i64_w,i32_w]
        rfl
       exact norm_ (by simp only [putAll,Act.put,M.sq3]) (hCont (.slice (some ⟨gda,0,none⟩) 0 0,v2,gdabc) _ ⟨HBdabc.out,HVdabc.out,HXdabc.out,HOdabc.out,HSdabc.out⟩)
      skip
      refine step_run (v:=.slice (some ⟨wda.heap.size,0,none⟩) 1 1) (w1:=wda.alloc (.cells #[.int .i64 x] 3)) rfl (by go_simp) ?_
      obtain⟨gdac,hgdac⟩:∃g,g=wda.heap.size:=⟨_,rfl⟩
      have HBdac:=Aside0.mk (below_alloc HBda.out (.cells #[.int .i64 x] 3))
      have HOdac:=Aside0.mk (Kd.R_alloc HOda.out (.cells #[.int .i64 x] 3))
      have HUdac:=Aside0.mk (Kd.R_alloc HUda.out (.cells #[.int .i64 x] 3))
      have HXdac:Aside0 ((wda.alloc (.cells #[.int .i64 x] 3)).heap[gdac]? = some (.cells #[.int .i64 x] 3 (0,0))):=⟨by rw [hgdac];exact blk_newAt (w:=wda) (n:=wda.heap.size) _ rfl⟩
      have HN4:Aside0 (gdac≠gda):=⟨by have:=Kd.R_lt HUda.out gda rfl;omega⟩
      have HSdac:Aside0 (wd.heap.size≤(wda.alloc (.cells #[.int .i64 x] 3)).heap.size):=⟨by rw [size_alloc];have:=HSda.out;omega⟩
      rw [←hgdac]
      generalize wda.alloc (.cells #[.int .i64 x] 3)=wdac at HBdac HOdac HSdac HUdac HXdac ⊢
      clear hgdac
      refine hK.out _ _ (cx'.out _ HBdac.out) (fun hHeld=>?_)
      clear hK K
      refine norm_ (a':=?_) ?_ ?_
      rotate_left
      ·show Act.put _ (some 53) _ = _
       simp only [Act.put,M.sq3,i64_w,i32_w]
       rfl
      refine one_ (i:=4) (N:=(some 48)) #[true,true,true,true,true,true,true,true,true,true,false,true,true,true,false,false] rfl rfl (by kernel_rfl) (by decide) (fun K hK=>?_)
      have HCdacb:Aside0 ((Kd.int .i64).C wdac (some Ad) (out.take 0).length (out.take 0)):=⟨Kd.C_take (Kd.R_reads' HOdac.out).2.2 (by have:=Hk9.out;omega)⟩
      have hlk:(out.take 0).length=0:=by rw [List.length_take];have:=Hk9.out;omega
      refine Kd.R_append_rows_step (Kd.int .i64) (Rr:=(Kd.int .i64).K wdac) (w0:=w) w.heap.size rfl (.tmp 44) (.tmp 47) 22 3 (.int .i64 0) 8 rfl Try.underlying22 infoInt rfl (by decide) (by decide) (.slice (some ⟨gda,0,none⟩) 0 0) [] (out.take 0) (some Ad) 0 _ (fun k=>wd.heap.size≤k) (fun _=>False) rfl rfl HUdac.out ?qa4_2 (fun x cs h=>h) (fun _ h=>h.elim) (fun k hk=>Nat.le_trans HSdac.out hk) HBdac.out HBdac.out.size ?qb4_2 ?_
      case qa4_2=>have h:=HCdacb.out;rw [hlk] at h;exact h
      case qb4_2=>have:=Hk9.out;have:=HS.out.2;have:=HL.out;have:=HL2.out;simp<;>omega
      intro v2 wdacb hr2 hb2 hg2 hat2
      have HVdacb:=Aside0.mk hr2
      have HBdacb:=Aside0.mk hb2
      have HOdacb:=Aside0.mk (Kd.R_grown HOdac.out hg2 (fun k hk e=>by have:=HUdac.out.1 k e.symm;omega))
      have HSdacb:Aside0 (wd.heap.size≤wdacb.heap.size):=⟨Nat.le_trans HSdac.out hg2.size⟩
      rw [List.nil_append] at HVdacb
      have HXdacb:Aside0 (wdacb.heap[gdac]? = some (.cells #[.int .i64 x] 3 (0,0))):=⟨(hg2.block _ (blk_lt HXdac.out) (nes HN4.out)).trans HXdac.out⟩
      clear hr2 hb2 hg2 hat2 hlk HCdacb
      refine hK.out _ _ (cx'.out _ HBdacb.out) (fun hHeld=>?_)
      clear hK K
      refine norm_ (a':=?_) ?_ ?_
      rotate_left
      ·show Act.put _ (some 48) _ = _
       simp only [Act.put,M.sq3,i64_w,i32_w]
       rfl
      exact norm_ (by simp only [putAll,Act.put,M.sq3]) (hCont (.slice (some ⟨gda,0,none⟩) 0 0,v2,gdac) _ ⟨HBdacb.out,HVdacb.out,HXdacb.out,HOdacb.out,HSdacb.out⟩)
     skip
     refine step_run (v:=.slice (some ⟨wd.heap.size,0,none⟩) 1 1) (w1:=wd.alloc (.cells #[.int .i64 x] 3)) rfl (by go_simp) ?_
     obtain⟨gdc,hgdc⟩:∃g,g=wd.heap.size:=⟨_,rfl⟩
     have HBdc:=Aside0.mk (below_alloc HBd.out (.cells #[.int .i64 x] 3))
     have HOdc:=Aside0.mk (Kd.R_alloc HOd.out (.cells #[.int .i64 x] 3))
     have HXdc:Aside0 ((wd.alloc (.cells #[.int .i64 x] 3)).heap[gdc]? = some (.cells #[.int .i64 x] 3 (0,0))):=⟨by rw [hgdc];exact blk_newAt (w:=wd) (n:=wd.heap.size) _ rfl⟩
     have HSdc:Aside0 (wd.heap.size≤(wd.alloc (.cells #[.int .i64 x] 3)).heap.size):=⟨by rw [size_alloc];have:=HSd.out;omega⟩
     rw [←hgdc]
     generalize wd.alloc (.cells #[.int .i64 x] 3)=wdc at HBdc HOdc HSdc HXdc ⊢
     clear hgdc
     refine hK.out _ _ (cx'.out _ HBdc.out) (fun hHeld=>?_)
     clear hK K
     refine norm_ (a':=?_) ?_ ?_
     rotate_left
     ·show Act.put _ (some 53) _ = _
      simp only [Act.put,M.sq3,i64_w,i32_w]
      rfl
     refine one_ (i:=0) (N:=(some 44)) #[true,true,true,true,false,true,true,true,true,true,false,true,true,true,false,false] rfl rfl (by kernel_rfl) (by decide) (fun K hK=>?_)
     refine step_run (v:=.slice (some ⟨wdc.heap.size,0,none⟩) 0 0) (w1:=wdc.alloc (.cells #[] 3)) rfl (by go_simp) ?_
     obtain⟨gdca,hgdca⟩:∃g,g=wdc.heap.size:=⟨_,rfl⟩
     have HBdca:=Aside0.mk (below_alloc HBdc.out (.cells #[] 3))
     have HOdca:=Aside0.mk (Kd.R_alloc HOdc.out (.cells #[] 3))
     have HXdca:=Aside0.mk (blk_old HXdc.out (.cells #[] 3))
     have HUdca:Aside0 ((Kd.int .i64).R 3 (wdc.alloc (.cells #[] 3)) w.heap.size (fun k=>wd.heap.size≤k) (.slice (some ⟨gdca,0,none⟩) 0 0) []):=⟨by rw [hgdca];exact Kd.R_of_own (World.ownsRow_made wdc #[] 0 HBdc.out.size (Nat.zero_le _) rfl) (fun k hk=>by have:=HSdc.out;simp [Value.ownBlock] at hk;omega)⟩
     have HN4:Aside0 (gdc≠gdca):=⟨by have:=blk_lt HXdc.out;omega⟩
     have HSdca:Aside0 (wd.heap.size≤(wdc.alloc (.cells #[] 3)).heap.size):=⟨by rw [size_alloc];have:=HSdc.out;omega⟩
     rw [←hgdca]
     generalize wdc.alloc (.cells #[] 3)=wdca at HBdca HOdca HSdca HUdca HXdca ⊢
     clear hgdca
     refine hK.out _ _ (cx'.out _ HBdca.out) (fun hHeld=>?_)
     clear hK K
     refine norm_ (a':=?_) ?_ ?_
     rotate_left
     ·show Act.put _ (some 44) _ = _
      simp only [Act.put,M.sq3,i64_w,i32_w]
      rfl
     refine one_ (i:=4) (N:=(some 48)) #[true,true,true,true,true,true,true,true,true,true,false,true,true,true,false,false] rfl rfl (by kernel_rfl) (by decide) (fun K hK=>?_)
     have HCdcab:Aside0 ((Kd.int .i64).C wdca (some Ad) (out.take 0).length (out.take 0)):=⟨Kd.C_take (Kd.R_reads' HOdca.out).2.2 (by have:=Hk9.out;omega)⟩
     have hlk:(out.take 0).length=0:=by rw [List.length_take];have:=Hk9.out;omega
     refine Kd.R_append_rows_step (Kd.int .i64) (Rr:=(Kd.int .i64).K wdca) (w0:=w) w.heap.size rfl (.tmp 44) (.tmp 47) 22 3 (.int .i64 0) 8 rfl Try.underlying22 infoInt rfl (by decide) (by decide) (.slice (some ⟨gdca,0,none⟩) 0 0) [] (out.take 0) (some Ad) 0 _ (fun k=>wd.heap.size≤k) (fun _=>False) rfl rfl HUdca.out ?qa4_3 (fun x cs h=>h) (fun _ h=>h.elim) (fun k hk=>Nat.le_trans HSdca.out hk) HBdca.out HBdca.out.size ?qb4_3 ?_
     case qa4_3=>have h:=HCdcab.out;rw [hlk] at h;exact h
     case qb4_3=>have:=Hk9.out;have:=HS.out.2;have:=HL.out;have:=HL2.out;simp<;>omega
     intro v2 wdcab hr2 hb2 hg2 hat2
     have HVdcab:=Aside0.mk hr2
     have HBdcab:=Aside0.mk hb2
     have HOdcab:=Aside0.mk (Kd.R_grown HOdca.out hg2 (fun k hk e=>by have:=HUdca.out.1 k e.symm;omega))
     have HSdcab:Aside0 (wd.heap.size≤wdcab.heap.size):=⟨Nat.le_trans HSdca.out hg2.size⟩
     rw [List.nil_append] at HVdcab
     have HXdcab:Aside0 (wdcab.heap[gdc]? = some (.cells #[.int .i64 x] 3 (0,0))):=⟨(hg2.block _ (blk_lt HXdca.out) (nes HN4.out)).trans HXdca.out⟩
     clear hr2 hb2 hg2 hat2 hlk HCdcab
     refine hK.out _ _ (cx'.out _ HBdcab.out) (fun hHeld=>?_)
     clear hK K
     refine norm_ (a':=?_) ?_ ?_
     rotate_left
     ·show Act.put _ (some 48) _ = _
      simp only [Act.put,M.sq3,i64_w,i32_w]
      rfl
     exact norm_ (by simp only [putAll,Act.put,M.sq3]) (hCont (.slice (some ⟨gdca,0,none⟩) 0 0,v2,gdc) _ ⟨HBdcab.out,HVdcab.out,HXdcab.out,HOdcab.out,HSdcab.out⟩)
    rintro⟨v44,v2,g9⟩ w3 ⟨hb3,hv3,hx3,ho3,hs3⟩
    have HB3:=Aside0.mk hb3
    have HV3:=Aside0.mk hv3
    have HX3:=Aside0.mk (reads_one hx3)
    have HO3:=Aside0.mk ho3
    have HS3:=Aside0.mk hs3
    clear hb3 hv3 hx3 ho3 hs3 HBd HOd HSd
    refine norm_ (a':=?_) ?_ ?_
    rotate_left
    ·simp only [putAll, Act.put, M.sq3, i64_w, i32_w]
     rfl
    refine one_ (i:=10) (N:=(some 54)) #[true,true,true,true,true,true,true,true,true,true,true,true,true,true,false,false] rfl rfl (by kernel_rfl) (by decide) (fun K hK=>?_)
    refine Kd.R_append_rows_step (Kd.int .i64) (Rr:=(Kd.int .i64).K w3) (w0:=w) w.heap.size rfl (.tmp 48) (.tmp 53) 22 3 (.int .i64 0) 8 rfl Try.underlying22 infoInt rfl (by decide) (by decide) v2 (out.take 0) [x] (some ⟨g9,0,none⟩) 1 1 (fun k=>wd.heap.size≤k) (fun _=>False) rfl rfl HV3.out HX3.out (fun x cs h=>h) (fun _ h=>h.elim) (fun k hk=>Nat.le_trans HS3.out hk) HB3.out HB3.out.size ?qc4 ?_
    case qc4=>have:=Hk9.out;have:=HS.out.2;have:=HL.out;have:=HL2.out;simp<;>omega
    intro v4 w4 hr4 hb4 hg4 hat4
    have HV4:=Aside0.mk hr4
    have HB4:=Aside0.mk hb4
    have HO4:=Aside0.mk (Kd.R_grown HO3.out hg4 (fun k hk e=>by have:=HV3.out.1 k e.symm;omega))
    have HS4:Aside0 (wd.heap.size≤w4.heap.size):=⟨Nat.le_trans HS3.out hg4.size⟩
    clear hr4 hb4 hg4 hat4 HO3 HV3 HB3 HX3
    refine hK.out _ _ (cx'.out _ HB4.out) (fun hHeld=>?_)
    clear hK K
    refine norm_ (a':=?_) ?_ ?_
    rotate_left
    ·show Act.put _ (some 54) _ = _
     simp only [Act.put,M.sq3,i64_w,i32_w]
     rfl
    refine one_ (i:=14) (N:=(some 58)) #[true,true,true,true,true,true,true,true,true,true,true,true,true,true,true,false] rfl rfl (by kernel_rfl) (by decide) (fun K hK=>?_)
    have HC4:Aside0 ((Kd.int .i64).C w4 (if co=0 then (some Ad) else Option.map (fun a:Addr=>a.add (0*1)) (some Ad)) (out.drop 0).length (out.drop 0)):=⟨Kd.C_drop (k:=Kd.int .i64) (Kd.R_reads' HO4.out).2.2 (by have:=Hk9.out;omega) HCo.out.1⟩
    refine Kd.R_append_rows_step (Kd.int .i64) (Rr:=(Kd.int .i64).K w4) (w0:=w) w.heap.size rfl (.tmp 54) (.tmp 57) 22 3 (.int .i64 0) 8 rfl Try.underlying22 infoInt rfl (by decide) (by decide) v4 (out.take 0 ++ [x]) (out.drop 0) _ (out.length - 0) _ (fun k=>wd.heap.size≤k) (fun _=>False) rfl rfl HV4.out ?qd4 (fun x cs h=>h) (fun _ h=>h.elim) (fun k hk=>Nat.le_trans HS4.out hk) HB4.out HB4.out.size ?qe4 ?_
    case qd4=>have h:=HC4.out;rw [List.length_drop] at h;rw [if_pos HCO.out] at h;exact h
    case qe4=>have:=Hk9.out;have:=HS.out.2;have:=HL.out;have:=HL2.out;simp<;>omega
    intro v5 w5 hr5 hb5 hg5 hat5
    have HV5:=Aside0.mk hr5
    have HB5:=Aside0.mk hb5
    clear hr5 hb5 hg5 hat5 HO4 HV4 HB4 HC4
    refine hK.out _ _ (cx'.out _ HB5.out) (fun hHeld=>?_)
    clear hK K
    refine norm_ (a':=?_) ?_ ?_
    rotate_left
    ·show Act.put _ (some 58) _ = _
     simp only [Act.put,M.sq3,i64_w,i32_w]
     rfl
    refine pure_ (i:=15) (N:=(some 3)) (v:=?_) (a':=?_) #[true,true,true,true,true,true,true,true,true,true,true,true,true,true,true,true] rfl rfl (by kernel_rfl) (fun _ _ _ h=>h) (Or.inl ⟨by rfl,?_⟩) ?_ ?_
    rotate_left
    ·intro w'
     go_simp
     with_reducible rfl
    rotate_left
    ·simp only [Act.put, M.sq3, i64_w, i32_w]
     rfl
    refine done_ (by kernel_rfl) ?_
    go_wp2
    go_roundg (l.length - (i+1))
    case measure=>have:=Hi.out;have:=HL2.out;omega
    case rel=>exact⟨i+1,by have:=HL.out;have:=HL2.out;rw [show wrap64 ((i:Int)+1)=((i+1:Nat):Int) by unfold wrap64;omega],⟨HL2.out,Nat.le_refl _⟩,⟨by rw [HN.out,←ins_at HS.out.1 Hk9.out Hx.out Hlt9.out];exact Kd.R_mono HV5.out (fun _ _=>trivial)⟩,HB5⟩
   have t8 := eq_false hco
   have HCO:=Aside0.mk hco
   clear hco
   go_wp2
   refine start_ (n:=16) (S:=fun w'=>w'.cell? (Al.add i)=some (.int .i64 x)) (ds:=[]) #[false,false,false,false,false,false,false,false,false,false,false,false,false,false,false,false] (by kernel_rfl) rfl rfl (cx'.out _ (below_drew HB9.out)) (fun hHeld=>?_)
   have HBd:=Aside0.mk (below_drew HB9.out)
   have HOr:=Aside0.mk (Kd.R_drew HO9.out)
   generalize w9.drew=wd at HBd HOr hHeld ⊢
   clear HB9 HO9
   have HOd:Aside0 ((Kd.int .i64).R 3 wd w.heap.size (fun k=>k < wd.heap.size) (.slice (some Ad) out.length co) out):=⟨Kd.R_mono (Kd.R_bound HOr.out) (fun k hk=>hk.2.2.1)⟩
   have HSd:Aside0 (wd.heap.size≤wd.heap.size):=⟨Nat.le_refl _⟩
   clear HOr
   refine pure_ (i:=1) (N:=(some 45)) (v:=?_) (a':=?_) #[false,true,false,false,false,false,false,false,false,false,false,false,false,false,false,false] rfl rfl (by kernel_rfl) (fun _ _ _ h=>h) (Or.inl ⟨by rfl,?_⟩) ?_ ?_
   rotate_left
   ·intro w'
    go_simp
    with_reducible rfl
   rotate_left
   ·simp only [Act.put, M.sq3, i64_w, i32_w]
    rfl
   refine pure_ (i:=2) (N:=(some 46)) (v:=?_) (a':=?_) #[false,true,true,false,false,false,false,false,false,false,false,false,false,false,false,false] rfl rfl (by kernel_rfl) (fun _ _ _ h=>h) (Or.inl ⟨by rfl,?_⟩) ?_ ?_
   rotate_left
   ·intro w'
    go_simp
    with_reducible rfl
   rotate_left
   ·simp only [Act.put, M.sq3, i64_w, i32_w]
    rfl
   refine pure_ (i:=3) (N:=(some 47)) (v:=?_) (a':=?_) #[false,true,true,true,false,false,false,false,false,false,false,false,false,false,false,false] rfl rfl (by kernel_rfl) (fun _ _ _ h=>h) (Or.inl ⟨by rfl,?_⟩) ?_ ?_
   rotate_left
   ·intro w'
    go_simp
    with_reducible rfl
   rotate_left
   ·simp only [Act.put, M.sq3, i64_w, i32_w]
    rfl
   refine pure_ (i:=5) (N:=(some 49)) (v:=?_) (a':=?_) #[false,true,true,true,false,true,false,false,false,false,false,false,false,false,false,false] rfl rfl (by kernel_rfl) (fun _ _ _ h=>h) (Or.inl ⟨by rfl,?_⟩) ?_ ?_
   rotate_left
   ·intro w'
    go_simp
    with_reducible rfl
   rotate_left
   ·simp only [Act.put, M.sq3, i64_w, i32_w]
    rfl
   refine pure_ (i:=6) (N:=(some 50)) (v:=?_) (a':=?_) #[false,true,true,true,false,true,true,false,false,false,false,false,false,false,false,false] rfl rfl (by kernel_rfl) (fun _ _ _ h=>h) (Or.inl ⟨by rfl,?_⟩) ?_ ?_
   rotate_left
   ·intro w'
    go_simp
    with_reducible rfl
   rotate_left
   ·simp only [Act.put, M.sq3, i64_w, i32_w]
    rfl
   refine pure_ (i:=7) (N:=(some 51)) (v:=?_) (a':=?_) #[false,true,true,true,false,true,true,true,false,false,false,false,false,false,false,false] rfl rfl (by kernel_rfl) (fun _ _ _ h=>h) (Or.inl ⟨by rfl,?_⟩) ?_ ?_
   rotate_left
   ·intro w'
    go_simp
    with_reducible rfl
   rotate_left
   ·simp only [Act.put, M.sq3, i64_w, i32_w]
    rfl
   refine take_ (i:=8) (N:=(some 52)) (v:=?_) (a':=?_) #[false,true,true,true,false,true,true,true,true,false,false,false,false,false,false,false] rfl rfl (by kernel_rfl) (fun _ _ _ h=>h) (Or.inl ⟨by rfl,?_⟩) hHeld ?_ ?_
   rotate_left
   ·intro w' hS_
    go_simp
    with_reducible rfl
   rotate_left
   ·simp only [Act.put, M.sq3, i64_w, i32_w]
    rfl
   refine pure_ (i:=11) (N:=(some 55)) (v:=?_) (a':=?_) #[false,true,true,true,false,true,true,true,true,false,false,true,false,false,false,false] rfl rfl (by kernel_rfl) (fun _ _ _ h=>h) (Or.inl ⟨by rfl,?_⟩) ?_ ?_
   rotate_left
   ·intro w'
    go_simp
    with_reducible rfl
   rotate_left
   ·simp only [Act.put, M.sq3, i64_w, i32_w]
    rfl
   refine pure_ (i:=12) (N:=(some 56)) (v:=?_) (a':=?_) #[false,true,true,true,false,true,true,true,true,false,false,true,true,false,false,false] rfl rfl (by kernel_rfl) (fun _ _ _ h=>h) (Or.inl ⟨by rfl,?_⟩) ?_ ?_
   rotate_left
   ·intro w'
    go_simp
    with_reducible rfl
   rotate_left
   ·simp only [Act.put, M.sq3, i64_w, i32_w]
    rfl
   refine pure_ (i:=13) (N:=(some 57)) (v:=?_) (a':=?_) #[false,true,true,true,false,true,true,true,true,false,false,true,true,true,false,false] rfl rfl (by kernel_rfl) (fun _ _ _ h=>h) (Or.inl ⟨by rfl,?_⟩) ?_ ?_
   rotate_left
   ·intro w'
    go_simp
    with_reducible rfl
   rotate_left
   ·simp only [Act.put, M.sq3, i64_w, i32_w]
    rfl
   refine join_ (σ:=Value × Value × Nat) 3 #[true,true,true,true,true,true,true,true,true,true,false,true,true,true,false,false] (fun s_=>[(44,s_.1),(48,s_.2.1),(53,.slice (some ⟨s_.2.2,0,none⟩) 1 1)]) (fun s_ w'=>Below w.heap.size w w'∧(Kd.int .i64).R 3 w' w.heap.size (fun k=>wd.heap.size≤k) s_.2.1 (out.take 0)∧w'.heap[s_.2.2]? = some (.cells #[.int .i64 x] 3 (0,0))∧(Kd.int .i64).R 3 w' w.heap.size (fun k=>k < wd.heap.size) (.slice (some Ad) out.length co) out∧wd.heap.size≤w'.heap.size) ?_ ?_
   rotate_left
   ·intro hCont
    refine two_ (i:=0) (j:=9) (Ni:=some 44) (Nj:=some 53) #[true,true,true,true,false,true,true,true,true,false,false,true,true,true,false,false] #[false,true,true,true,false,true,true,true,true,true,false,true,true,true,false,false] rfl rfl rfl rfl (by kernel_rfl) (by decide) (by decide) (fun K hK=>?_) (fun K hK=>?_)
    ·skip
     refine step_run (v:=.slice (some ⟨wd.heap.size,0,none⟩) 0 0) (w1:=wd.alloc (.cells #[] 3)) rfl (by go_simp) ?_
     obtain⟨gda,hgda⟩:∃g,g=wd.heap.size:=⟨_,rfl⟩
     have HBda:=Aside0.mk (below_alloc HBd.out (.cells #[] 3))
     have HOda:=Aside0.mk (Kd.R_alloc HOd.out (.cells #[] 3))
     have HUda:Aside0 ((Kd.int .i64).R 3 (wd.alloc (.cells #[] 3)) w.heap.size (fun k=>wd.heap.size≤k) (.slice (some ⟨gda,0,none⟩) 0 0) []):=⟨by rw [hgda];exact Kd.R_of_own (World.ownsRow_made wd #[] 0 HBd.out.size (Nat.zero_le _) rfl) (fun k hk=>by have:=HSd.out;simp [Value.ownBlock] at hk;omega)⟩
     have HSda:Aside0 (wd.heap.size≤(wd.alloc (.cells #[] 3)).heap.size):=⟨by rw [size_alloc];have:=HSd.out;omega⟩
     rw [←hgda]
     generalize wd.alloc (.cells #[] 3)=wda at HBda HOda HSda HUda ⊢
     clear hgda
     refine hK.out _ _ (cx'.out _ HBda.out) (fun hHeld=>?_)
     clear hK K
     refine norm_ (a':=?_) ?_ ?_
     rotate_left
     ·show Act.put _ (some 44) _ = _
      simp only [Act.put,M.sq3,i64_w,i32_w]
      rfl
     refine two_ (i:=4) (j:=9) (Ni:=some 48) (Nj:=some 53) #[true,true,true,true,true,true,true,true,true,false,false,true,true,true,false,false] #[true,true,true,true,false,true,true,true,true,true,false,true,true,true,false,false] rfl rfl rfl rfl (by kernel_rfl) (by decide) (by decide) (fun K hK=>?_) (fun K hK=>?_)
     ·skip
      have HCdab:Aside0 ((Kd.int .i64).C wda (some Ad) (out.take 0).length (out.take 0)):=⟨Kd.C_take (Kd.R_reads' HOda.out).2.2 (by have:=Hk9.out;omega)⟩
      have hlk:(out.take 0).length=0:=by rw [List.length_take];have:=Hk9.out;omega
      refine Kd.R_append_rows_step (Kd.int .i64) (Rr:=(Kd.int .i64).K wda) (w0:=w) w.heap.size rfl (.tmp 44) (.tmp 47) 22 3 (.int .i64 0) 8 rfl Try.underlying22 infoInt rfl (by decide) (by decide) (.slice (some ⟨gda,0,none⟩) 0 0) [] (out.take 0) (some Ad) 0 _ (fun k=>wd.heap.size≤k) (fun _=>False) rfl rfl HUda.out ?qa5_1 (fun x cs h=>h) (fun _ h=>h.elim) (fun k hk=>Nat.le_trans HSda.out hk) HBda.out HBda.out.size ?qb5_1 ?_
      case qa5_1=>have h:=HCdab.out;rw [hlk] at h;exact h
      case qb5_1=>have:=Hk9.out;have:=HS.out.2;have:=HL.out;have:=HL2.out;simp<;>omega
      intro v2 wdab hr2 hb2 hg2 hat2
      have HVdab:=Aside0.mk hr2
      have HBdab:=Aside0.mk hb2
      have HOdab:=Aside0.mk (Kd.R_grown HOda.out hg2 (fun k hk e=>by have:=HUda.out.1 k e.symm;omega))
      have HSdab:Aside0 (wd.heap.size≤wdab.heap.size):=⟨Nat.le_trans HSda.out hg2.size⟩
      rw [List.nil_append] at HVdab
      clear hr2 hb2 hg2 hat2 hlk HCdab
      refine hK.out _ _ (cx'.out _ HBdab.out) (fun hHeld=>?_)
      clear hK K
      refine norm_ (a':=?_) ?_ ?_
      rotate_left
      ·show Act.put _ (some 48) _ = _
       simp only [Act.put,M.sq3,i64_w,i32_w]
       rfl
      refine one_ (i:=9) (N:=(some 53)) #[true,true,true,true,true,true,true,true,true,true,false,true,true,true,false,false] rfl rfl (by kernel_rfl) (by decide) (fun K hK=>?_)
      refine step_run (v:=.slice (some ⟨wdab.heap.size,0,none⟩) 1 1) (w1:=wdab.alloc (.cells #[.int .i64 x] 3)) rfl (by go_simp) ?_
      obtain⟨gdabc,hgdabc⟩:∃g,g=wdab.heap.size:=⟨_,rfl⟩
      have HBdabc:=Aside0.mk (below_alloc HBdab.out (.cells #[.int .i64 x] 3))
      have HOdabc:=Aside0.mk (Kd.R_alloc HOdab.out (.cells #[.int .i64 x] 3))
      have HVdabc:=Aside0.mk (Kd.R_alloc HVdab.out (.cells #[.int .i64 x] 3))
      have HXdabc:Aside0 ((wdab.alloc (.cells #[.int .i64 x] 3)).heap[gdabc]? = some (.cells #[.int .i64 x] 3 (0,0))):=⟨by rw [hgdabc];exact blk_newAt (w:=wdab) (n:=wdab.heap.size) _ rfl⟩
      have HSdabc:Aside0 (wd.heap.size≤(wdab.alloc (.cells #[.int .i64 x] 3)).heap.size):=⟨by rw [size_alloc];have:=HSdab.out;omega⟩
      rw [←hgdabc]
      generalize wdab.alloc (.cells #[.int .i64 x] 3)=wdabc at HBdabc HOdabc HSdabc HVdabc HXdabc ⊢
      clear hgdabc
      refine hK.out _ _ (cx'.out _ HBdabc.out) (fun hHeld=>?_)
      clear hK K
      refine norm_ (a':=?_) ?_ ?_
      rotate_left
      ·show Act.put _ (some 53) _ = _
       simp only [Act.put,M.sq3,i64_w,i32_w]
       rfl
      exact norm_ (by simp only [putAll,Act.put,M.sq3]) (hCont (.slice (some ⟨gda,0,none⟩) 0 0,v2,gdabc) _ ⟨HBdabc.out,HVdabc.out,HXdabc.out,HOdabc.out,HSdabc.out⟩)
     skip
     refine step_run (v:=.slice (some ⟨wda.heap.size,0,none⟩) 1 1) (w1:=wda.alloc (.cells #[.int .i64 x] 3)) rfl (by go_simp) ?_
     obtain⟨gdac,hgdac⟩:∃g,g=wda.heap.size:=⟨_,rfl⟩
     have HBdac:=Aside0.mk (below_alloc HBda.out (.cells #[.int .i64 x] 3))
     have HOdac:=Aside0.mk (Kd.R_alloc HOda.out (.cells #[.int .i64 x] 3))
     have HUdac:=Aside0.mk (Kd.R_alloc HUda.out (.cells #[.int .i64 x] 3))
     have HXdac:Aside0 ((wda.alloc (.cells #[.int .i64 x] 3)).heap[gdac]? = some (.cells #[.int .i64 x] 3 (0,0))):=⟨by rw [hgdac];exact blk_newAt (w:=wda) (n:=wda.heap.size) _ rfl⟩
     have HN5:Aside0 (gdac≠gda):=⟨by have:=Kd.R_lt HUda.out gda rfl;omega⟩
     have HSdac:Aside0 (wd.heap.size≤(wda.alloc (.cells #[.int .i64 x] 3)).heap.size):=⟨by rw [size_alloc];have:=HSda.out;omega⟩
     rw [←hgdac]
     generalize wda.alloc (.cells #[.int .i64 x] 3)=wdac at HBdac HOdac HSdac HUdac HXdac ⊢
     clear hgdac
     refine hK.out _ _ (cx'.out _ HBdac.out) (fun hHeld=>?_)
     clear hK K
     refine norm_ (a':=?_) ?_ ?_
     rotate_left
     ·show Act.put _ (some 53) _ = _
      simp only [Act.put,M.sq3,i64_w,i32_w]
      rfl
     refine one_ (i:=4) (N:=(some 48)) #[true,true,true,true,true,true,true,true,true,true,false,true,true,true,false,false] rfl rfl (by kernel_rfl) (by decide) (fun K hK=>?_)
     have HCdacb:Aside0 ((Kd.int .i64).C wdac (some Ad) (out.take 0).length (out.take 0)):=⟨Kd.C_take (Kd.R_reads' HOdac.out).2.2 (by have:=Hk9.out;omega)⟩
     have hlk:(out.take 0).length=0:=by rw [List.length_take];have:=Hk9.out;omega
     refine Kd.R_append_rows_step (Kd.int .i64) (Rr:=(Kd.int .i64).K wdac) (w0:=w) w.heap.size rfl (.tmp 44) (.tmp 47) 22 3 (.int .i64 0) 8 rfl Try.underlying22 infoInt rfl (by decide) (by decide) (.slice (some ⟨gda,0,none⟩) 0 0) [] (out.take 0) (some Ad) 0 _ (fun k=>wd.heap.size≤k) (fun _=>False) rfl rfl HUdac.out ?qa5_2 (fun x cs h=>h) (fun _ h=>h.elim) (fun k hk=>Nat.le_trans HSdac.out hk) HBdac.out HBdac.out.size ?qb5_2 ?_
     case qa5_2=>have h:=HCdacb.out;rw [hlk] at h;exact h
     case qb5_2=>have:=Hk9.out;have:=HS.out.2;have:=HL.out;have:=HL2.out;simp<;>omega
     intro v2 wdacb hr2 hb2 hg2 hat2
     have HVdacb:=Aside0.mk hr2
     have HBdacb:=Aside0.mk hb2
     have HOdacb:=Aside0.mk (Kd.R_grown HOdac.out hg2 (fun k hk e=>by have:=HUdac.out.1 k e.symm;omega))
     have HSdacb:Aside0 (wd.heap.size≤wdacb.heap.size):=⟨Nat.le_trans HSdac.out hg2.size⟩
     rw [List.nil_append] at HVdacb
     have HXdacb:Aside0 (wdacb.heap[gdac]? = some (.cells #[.int .i64 x] 3 (0,0))):=⟨(hg2.block _ (blk_lt HXdac.out) (nes HN5.out)).trans HXdac.out⟩
     clear hr2 hb2 hg2 hat2 hlk HCdacb
     refine hK.out _ _ (cx'.out _ HBdacb.out) (fun hHeld=>?_)
     clear hK K
     refine norm_ (a':=?_) ?_ ?_
     rotate_left
     ·show Act.put _ (some 48) _ = _
      simp only [Act.put,M.sq3,i64_w,i32_w]
      rfl
     exact norm_ (by simp only [putAll,Act.put,M.sq3]) (hCont (.slice (some ⟨gda,0,none⟩) 0 0,v2,gdac) _ ⟨HBdacb.out,HVdacb.out,HXdacb.out,HOdacb.out,HSdacb.out⟩)
    skip
    refine step_run (v:=.slice (some ⟨wd.heap.size,0,none⟩) 1 1) (w1:=wd.alloc (.cells #[.int .i64 x] 3)) rfl (by go_simp) ?_
    obtain⟨gdc,hgdc⟩:∃g,g=wd.heap.size:=⟨_,rfl⟩
    have HBdc:=Aside0.mk (below_alloc HBd.out (.cells #[.int .i64 x] 3))
    have HOdc:=Aside0.mk (Kd.R_alloc HOd.out (.cells #[.int .i64 x] 3))
    have HXdc:Aside0 ((wd.alloc (.cells #[.int .i64 x] 3)).heap[gdc]? = some (.cells #[.int .i64 x] 3 (0,0))):=⟨by rw [hgdc];exact blk_newAt (w:=wd) (n:=wd.heap.size) _ rfl⟩
    have HSdc:Aside0 (wd.heap.size≤(wd.alloc (.cells #[.int .i64 x] 3)).heap.size):=⟨by rw [size_alloc];have:=HSd.out;omega⟩
    rw [←hgdc]
    generalize wd.alloc (.cells #[.int .i64 x] 3)=wdc at HBdc HOdc HSdc HXdc ⊢
    clear hgdc
    refine hK.out _ _ (cx'.out _ HBdc.out) (fun hHeld=>?_)
    clear hK K
    refine norm_ (a':=?_) ?_ ?_
    rotate_left
    ·show Act.put _ (some 53) _ = _
     simp only [Act.put,M.sq3,i64_w,i32_w]
     rfl
    refine one_ (i:=0) (N:=(some 44)) #[true,true,true,true,false,true,true,true,true,true,false,true,true,true,false,false] rfl rfl (by kernel_rfl) (by decide) (fun K hK=>?_)
    refine step_run (v:=.slice (some ⟨wdc.heap.size,0,none⟩) 0 0) (w1:=wdc.alloc (.cells #[] 3)) rfl (by go_simp) ?_
    obtain⟨gdca,hgdca⟩:∃g,g=wdc.heap.size:=⟨_,rfl⟩
    have HBdca:=Aside0.mk (below_alloc HBdc.out (.cells #[] 3))
    have HOdca:=Aside0.mk (Kd.R_alloc HOdc.out (.cells #[] 3))
    have HXdca:=Aside0.mk (blk_old HXdc.out (.cells #[] 3))
    have HUdca:Aside0 ((Kd.int .i64).R 3 (wdc.alloc (.cells #[] 3)) w.heap.size (fun k=>wd.heap.size≤k) (.slice (some ⟨gdca,0,none⟩) 0 0) []):=⟨by rw [hgdca];exact Kd.R_of_own (World.ownsRow_made wdc #[] 0 HBdc.out.size (Nat.zero_le _) rfl) (fun k hk=>by have:=HSdc.out;simp [Value.ownBlock] at hk;omega)⟩
    have HN5:Aside0 (gdc≠gdca):=⟨by have:=blk_lt HXdc.out;omega⟩
    have HSdca:Aside0 (wd.heap.size≤(wdc.alloc (.cells #[] 3)).heap.size):=⟨by rw [size_alloc];have:=HSdc.out;omega⟩
    rw [←hgdca]
    generalize wdc.alloc (.cells #[] 3)=wdca at HBdca HOdca HSdca HUdca HXdca ⊢
    clear hgdca
    refine hK.out _ _ (cx'.out _ HBdca.out) (fun hHeld=>?_)
    clear hK K
    refine norm_ (a':=?_) ?_ ?_
    rotate_left
    ·show Act.put _ (some 44) _ = _
     simp only [Act.put,M.sq3,i64_w,i32_w]
     rfl
    refine one_ (i:=4) (N:=(some 48)) #[true,true,true,true,true,true,true,true,true,true,false,true,true,true,false,false] rfl rfl (by kernel_rfl) (by decide) (fun K hK=>?_)
    have HCdcab:Aside0 ((Kd.int .i64).C wdca (some Ad) (out.take 0).length (out.take 0)):=⟨Kd.C_take (Kd.R_reads' HOdca.out).2.2 (by have:=Hk9.out;omega)⟩
    have hlk:(out.take 0).length=0:=by rw [List.length_take];have:=Hk9.out;omega
    refine Kd.R_append_rows_step (Kd.int .i64) (Rr:=(Kd.int .i64).K wdca) (w0:=w) w.heap.size rfl (.tmp 44) (.tmp 47) 22 3 (.int .i64 0) 8 rfl Try.underlying22 infoInt rfl (by decide) (by decide) (.slice (some ⟨gdca,0,none⟩) 0 0) [] (out.take 0) (some Ad) 0 _ (fun k=>wd.heap.size≤k) (fun _=>False) rfl rfl HUdca.out ?qa5_3 (fun x cs h=>h) (fun _ h=>h.elim) (fun k hk=>Nat.le_trans HSdca.out hk) HBdca.out HBdca.out.size ?qb5_3 ?_
    case qa5_3=>have h:=HCdcab.out;rw [hlk] at h;exact h
    case qb5_3=>have:=Hk9.out;have:=HS.out.2;have:=HL.out;have:=HL2.out;simp<;>omega
    intro v2 wdcab hr2 hb2 hg2 hat2
    have HVdcab:=Aside0.mk hr2
    have HBdcab:=Aside0.mk hb2
    have HOdcab:=Aside0.mk (Kd.R_grown HOdca.out hg2 (fun k hk e=>by have:=HUdca.out.1 k e.symm;omega))
    have HSdcab:Aside0 (wd.heap.size≤wdcab.heap.size):=⟨Nat.le_trans HSdca.out hg2.size⟩
    rw [List.nil_append] at HVdcab
    have HXdcab:Aside0 (wdcab.heap[gdc]? = some (.cells #[.int .i64 x] 3 (0,0))):=⟨(hg2.block _ (blk_lt HXdca.out) (nes HN5.out)).trans HXdca.out⟩
    clear hr2 hb2 hg2 hat2 hlk HCdcab
    refine hK.out _ _ (cx'.out _ HBdcab.out) (fun hHeld=>?_)
    clear hK K
    refine norm_ (a':=?_) ?_ ?_
    rotate_left
    ·show Act.put _ (some 48) _ = _
     simp only [Act.put,M.sq3,i64_w,i32_w]
     rfl
    exact norm_ (by simp only [putAll,Act.put,M.sq3]) (hCont (.slice (some ⟨gdca,0,none⟩) 0 0,v2,gdc) _ ⟨HBdcab.out,HVdcab.out,HXdcab.out,HOdcab.out,HSdcab.out⟩)
   rintro⟨v44,v2,g9⟩ w3 ⟨hb3,hv3,hx3,ho3,hs3⟩
   have HB3:=Aside0.mk hb3
   have HV3:=Aside0.mk hv3
   have HX3:=Aside0.mk (reads_one hx3)
   have HO3:=Aside0.mk ho3
   have HS3:=Aside0.mk hs3
   clear hb3 hv3 hx3 ho3 hs3 HBd HOd HSd
   refine norm_ (a':=?_) ?_ ?_
   rotate_left
   ·simp only [putAll, Act.put, M.sq3, i64_w, i32_w]
    rfl
   refine one_ (i:=10) (N:=(some 54)) #[true,true,true,true,true,true,true,true,true,true,true,true,true,true,false,false] rfl rfl (by kernel_rfl) (by decide) (fun K hK=>?_)
   refine Kd.R_append_rows_step (Kd.int .i64) (Rr:=(Kd.int .i64).K w3) (w0:=w) w.heap.size rfl (.tmp 48) (.tmp 53) 22 3 (.int .i64 0) 8 rfl Try.underlying22 infoInt rfl (by decide) (by decide) v2 (out.take 0) [x] (some ⟨g9,0,none⟩) 1 1 (fun k=>wd.heap.size≤k) (fun _=>False) rfl rfl HV3.out HX3.out (fun x cs h=>h) (fun _ h=>h.elim) (fun k hk=>Nat.le_trans HS3.out hk) HB3.out HB3.out.size ?qc5 ?_
   case qc5=>have:=Hk9.out;have:=HS.out.2;have:=HL.out;have:=HL2.out;simp<;>omega
   intro v4 w4 hr4 hb4 hg4 hat4
   have HV4:=Aside0.mk hr4
   have HB4:=Aside0.mk hb4
   have HO4:=Aside0.mk (Kd.R_grown HO3.out hg4 (fun k hk e=>by have:=HV3.out.1 k e.symm;omega))
   have HS4:Aside0 (wd.heap.size≤w4.heap.size):=⟨Nat.le_trans HS3.out hg4.size⟩
   clear hr4 hb4 hg4 hat4 HO3 HV3 HB3 HX3
   refine hK.out _ _ (cx'.out _ HB4.out) (fun hHeld=>?_)
   clear hK K
   refine norm_ (a':=?_) ?_ ?_
   rotate_left
   ·show Act.put _ (some 54) _ = _
    simp only [Act.put,M.sq3,i64_w,i32_w]
    rfl
   refine one_ (i:=14) (N:=(some 58)) #[true,true,true,true,true,true,true,true,true,true,true,true,true,true,true,false] rfl rfl (by kernel_rfl) (by decide) (fun K hK=>?_)
   have HC4:Aside0 ((Kd.int .i64).C w4 (if co=0 then (some Ad) else Option.map (fun a:Addr=>a.add (0*1)) (some Ad)) (out.drop 0).length (out.drop 0)):=⟨Kd.C_drop (k:=Kd.int .i64) (Kd.R_reads' HO4.out).2.2 (by have:=Hk9.out;omega) HCo.out.1⟩
   refine Kd.R_append_rows_step (Kd.int .i64) (Rr:=(Kd.int .i64).K w4) (w0:=w) w.heap.size rfl (.tmp 54) (.tmp 57) 22 3 (.int .i64 0) 8 rfl Try.underlying22 infoInt rfl (by decide) (by decide) v4 (out.take 0 ++ [x]) (out.drop 0) _ (out.length - 0) _ (fun k=>wd.heap.size≤k) (fun _=>False) rfl rfl HV4.out ?qd5 (fun x cs h=>h) (fun _ h=>h.elim) (fun k hk=>Nat.le_trans HS4.out hk) HB4.out HB4.out.size ?qe5 ?_
   case qd5=>have h:=HC4.out;rw [List.length_drop] at h;rw [if_neg HCO.out,Nat.mul_one] at h;exact h
   case qe5=>have:=Hk9.out;have:=HS.out.2;have:=HL.out;have:=HL2.out;simp<;>omega
   intro v5 w5 hr5 hb5 hg5 hat5
   have HV5:=Aside0.mk hr5
   have HB5:=Aside0.mk hb5
   clear hr5 hb5 hg5 hat5 HO4 HV4 HB4 HC4
   refine hK.out _ _ (cx'.out _ HB5.out) (fun hHeld=>?_)
   clear hK K
   refine norm_ (a':=?_) ?_ ?_
   rotate_left
   ·show Act.put _ (some 58) _ = _
    simp only [Act.put,M.sq3,i64_w,i32_w]
    rfl
   refine pure_ (i:=15) (N:=(some 3)) (v:=?_) (a':=?_) #[true,true,true,true,true,true,true,true,true,true,true,true,true,true,true,true] rfl rfl (by kernel_rfl) (fun _ _ _ h=>h) (Or.inl ⟨by rfl,?_⟩) ?_ ?_
   rotate_left
   ·intro w'
    go_simp
    with_reducible rfl
   rotate_left
   ·simp only [Act.put, M.sq3, i64_w, i32_w]
    rfl
   refine done_ (by kernel_rfl) ?_
   go_wp2
   go_roundg (l.length - (i+1))
   case measure=>have:=Hi.out;have:=HL2.out;omega
   case rel=>exact⟨i+1,by have:=HL.out;have:=HL2.out;rw [show wrap64 ((i:Int)+1)=((i+1:Nat):Int) by unfold wrap64;omega],⟨HL2.out,Nat.le_refl _⟩,⟨by rw [HN.out,←ins_at HS.out.1 Hk9.out Hx.out Hlt9.out];exact Kd.R_mono HV5.out (fun _ _=>trivial)⟩,HB5⟩
 have d1 : (i < l.length) = False := eq_false hlt
 have He:Aside0 (l.take i=l):=⟨List.take_of_length_le (by omega)⟩
 clear hlt
 go_wp2
 go_ret
 rw [He.out] at HO
 exact⟨_,rfl,HO.out,HB.out⟩
theorem canopyref2_Ints.calls (A0:Option Addr) (c0:Nat) (l0:List Int) (r:List Int) (w:World) (hr0:Kd.C (Kd.int .i64) w A0 l0.length l0) (hc0:l0.length≤c0) (h:canopyref2_Ints.f l0=some r) :
 Calls Try.prog 34 #[.slice A0 l0.length c0] w fun e w'=>∃v0_:Value,e=.returned v0_∧Kd.R (Kd.int .i64) 3 w' w.heap.size (fun _=>True) v0_ r∧Below w.heap.size w w':=by
 unfold canopyref2_Ints.f at h
 split at h
 case isFalse=>cases h
 rename_i hl
 obtain rfl:=Option.some.inj h
 exact refints_calls A0 c0 l0 w hr0 hc0 hl
end Go.Proofs.Ytjkhdldgmkkhjaa.P
