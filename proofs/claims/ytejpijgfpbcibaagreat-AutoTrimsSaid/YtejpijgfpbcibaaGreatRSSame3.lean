/- Words and walks of this claim: SSame3. -/
import Derived.Test.YtejpijgfpbcibaaGreatRGOpen
import Derived.Test.YtejpijgfpbcibaaGreatRGClose
import Derived.Test.YtejpijgfpbcibaaGreatRGInner
import Derived.Test.YtejpijgfpbcibaaGreatRP0Etc
import Derived.BigQuiet
set_option linter.unusedVariables false
set_option linter.unusedSimpArgs false
set_option linter.unnecessarySimpa false
namespace Go.Proofs.YtejpijgfpbcibaaGreat.P
open Go.RowKit Go.Proofs.YtejpijgfpbcibaaGreatW.PrintWords Go.Proofs.YtejpijgfpbcibaaGreatW.PrintLast Go.Proofs.YtejpijgfpbcibaaGreatW.PrintMore Go.Proofs.YtejpijgfpbcibaaGreat.M
def sameL {α:Type} (eq:α→α→Bool):List α→List α→Bool
 | [],[]=>true
 | x :: l,y :: m=>eq x y && sameL eq l m
 | _,_=>false
theorem sameL_len {α:Type} {eq:α→α→Bool} : ∀{l m:List α},sameL eq l m=true→l.length=m.length
 | [],[],_=>rfl
 | x :: l,y :: m,h=>by
  simp only [sameL,Bool.and_eq_true] at h
  simp [sameL_len h.2]
 | [],y :: m,h=>by simp [sameL] at h
 | x :: l,[],h=>by simp [sameL] at h
theorem sameL_refl {α:Type} {eq:α→α→Bool} (he:∀x,eq x x=true):∀l:List α,sameL eq l l=true
 | []=>rfl
 | x :: l=>by simp only [sameL,he x,sameL_refl he l,Bool.and_self]
theorem sameL_next {α:Type} (eq:α→α→Bool) (l m:List α) (i:Nat) (h:i < l.length) (h2:i < m.length):sameL eq (l.drop i) (m.drop i)=(eq l[i] m[i] && sameL eq (l.drop (i+1)) (m.drop (i+1))):=by
 rw [List.drop_eq_getElem_cons h,List.drop_eq_getElem_cons h2]
 rfl
theorem ints_go (l m:List Int) (hl:l.length=m.length) (hn:l.length≤1000000000):∀(k i:Nat),l.length - i < k→i≤l.length→canopyref1_Ints.l0 k l m (i:Int)=some (l.drop i == m.drop i)
 | k+1,i,h1,h2=>by
  unfold canopyref1_Ints.l0
  by_cases h:i < l.length
  ·have e1 : rd l (i : Int) = l[i] := by unfold rd; rw [Int.toNat_natCast, List.getD_eq_getElem?_getD, List.getElem?_eq_getElem h]; rfl
   have e2:rd m (i:Int)=m[i]'(by omega):=by unfold rd;rw [Int.toNat_natCast,List.getD_eq_getElem?_getD,List.getElem?_eq_getElem (show i < m.length by omega)];rfl
   rw [if_pos (by omega),if_pos (by omega),if_pos (by omega),e1,e2,show wrap64 ((i:Int)+1)=((i+1:Nat):Int) by unfold wrap64;omega]
   have hb:(l.drop i == m.drop i)=((l[i] == m[i]'(by omega)) && (l.drop (i+1) == m.drop (i+1))):=by
    rw [List.drop_eq_getElem_cons h,List.drop_eq_getElem_cons (show i < m.length by omega)]
    rfl
   rw [hb]
   by_cases he:l[i]=m[i]'(by omega)
   ·rw [if_pos he,ints_go l m hl hn k (i+1) (by omega) (by omega),beq_iff_eq.2 he,Bool.true_and]
   rw [if_neg he,beq_eq_false_iff_ne.2 he,Bool.false_and]
  rw [if_neg (by omega), List.drop_of_length_le (by omega), List.drop_of_length_le (by omega)]
  simp
theorem ints_f (l m:List Int) (hn:l.length≤1000000000):canopyref1_Ints.f (l.length+1) l m=some (l == m):=by
 unfold canopyref1_Ints.f
 by_cases h:l.length=m.length
 ·rw [if_pos (by omega)]
  exact ints_go l m h hn (l.length+1) 0 (by omega) (by omega)
 rw [if_neg (by omega),beq_eq_false_iff_ne.2 (fun e=>h (by rw [e]))]
attribute [local go_sem high] eqA36 eqA38 eqA40
def canopyref3_Same.f (a0_0 a0_1:Int) (l0_2:List Int) (l0_3:List Int) (l0_4:List TOpen) (l0_5:List TClose) (l0_6:List TInner) (a1_0 a1_1:Int) (l1_2:List Int) (l1_3:List Int) (l1_4:List TOpen) (l1_5:List TClose) (l1_6:List TInner):Option Bool:=
 if l0_2.length≤1000000000∧l0_3.length≤1000000000∧l0_4.length≤1000000000∧l0_5.length≤1000000000∧l0_6.length≤1000000000∧l1_2.length≤1000000000∧l1_3.length≤1000000000∧l1_4.length≤1000000000∧l1_5.length≤1000000000∧l1_6.length≤1000000000 then some ((a0_0 == a1_0) && ((a0_1 == a1_1) && ((l0_2 == l1_2) && ((l0_3 == l1_3) && (sameL eqOpen l0_4 l1_4 && (sameL eqClose l0_5 l1_5 && sameL eqInner l0_6 l1_6)))))) else none
set_option maxHeartbeats 16000000 in
set_option maxRecDepth 100000 in
theorem canopyref3_Same.calls (a0_0 a0_1:Int) (A0_2:Option Addr) (c0_2:Nat) (l0_2:List Int) (A0_3:Option Addr) (c0_3:Nat) (l0_3:List Int) (A0_4:Option Addr) (c0_4:Nat) (l0_4:List TOpen) (A0_5:Option Addr) (c0_5:Nat) (l0_5:List TClose) (A0_6:Option Addr) (c0_6:Nat) (l0_6:List TInner) (a1_0 a1_1:Int) (A1_2:Option Addr) (c1_2:Nat) (l1_2:List Int) (A1_3:Option Addr) (c1_3:Nat) (l1_3:List Int) (A1_4:Option Addr) (c1_4:Nat) (l1_4:List TOpen) (A1_5:Option Addr) (c1_5:Nat) (l1_5:List TClose) (A1_6:Option Addr) (c1_6:Nat) (l1_6:List TInner) (r:Bool) (w:World) (hr0_2:Kd.C (Kd.int .i64) w A0_2 l0_2.length l0_2) (hc0_2:l0_2.length≤c0_2) (hr0_3:Kd.C (Kd.int .i64) w A0_3 l0_3.length l0_3) (hc0_3:l0_3.length≤c0_3) (hr0_4:Kd.C k36 w A0_4 l0_4.length l0_4) (hc0_4:l0_4.length≤c0_4) (hr0_5:Kd.C k38 w A0_5 l0_5.length l0_5) (hc0_5:l0_5.length≤c0_5) (hr0_6:Kd.C k40 w A0_6 l0_6.length l0_6) (hc0_6:l0_6.length≤c0_6) (hr1_2:Kd.C (Kd.int .i64) w A1_2 l1_2.length l1_2) (hc1_2:l1_2.length≤c1_2) (hr1_3:Kd.C (Kd.int .i64) w A1_3 l1_3.length l1_3) (hc1_3:l1_3.length≤c1_3) (hr1_4:Kd.C k36 w A1_4 l1_4.length l1_4) (hc1_4:l1_4.length≤c1_4) (hr1_5:Kd.C k38 w A1_5 l1_5.length l1_5) (hc1_5:l1_5.length≤c1_5) (hr1_6:Kd.C k40 w A1_6 l1_6.length l1_6) (hc1_6:l1_6.length≤c1_6) (h:canopyref3_Same.f a0_0 a0_1 l0_2 l0_3 l0_4 l0_5 l0_6 a1_0 a1_1 l1_2 l1_3 l1_4 l1_5 l1_6=some r) :
 Calls Tryz.prog 23 #[.agg #[.int .i64 a0_0,.int .i64 a0_1,.slice A0_2 l0_2.length c0_2,.slice A0_3 l0_3.length c0_3,.slice A0_4 l0_4.length c0_4,.slice A0_5 l0_5.length c0_5,.slice A0_6 l0_6.length c0_6],.agg #[.int .i64 a1_0,.int .i64 a1_1,.slice A1_2 l1_2.length c1_2,.slice A1_3 l1_3.length c1_3,.slice A1_4 l1_4.length c1_4,.slice A1_5 l1_5.length c1_5,.slice A1_6 l1_6.length c1_6]] w fun e w'=>e=.returned (.bool r)∧Below w.heap.size w w':=by
 unfold canopyref3_Same.f at h
 split at h
 case isFalse=>cases h
 rename_i hl
 obtain⟨q0_2,q0_3,q0_4,q0_5,q0_6,q1_2,q1_3,q1_4,q1_5,q1_6⟩:=hl
 simp only [Option.some.injEq] at h
 subst h
 obtain⟨rv,hrv⟩:∃rv:Bool,rv=((a0_0 == a1_0) && ((a0_1 == a1_1) && ((l0_2 == l1_2) && ((l0_3 == l1_3) && (sameL eqOpen l0_4 l1_4 && (sameL eqClose l0_5 l1_5 && sameL eqInner l0_6 l1_6)))))):=⟨_,rfl⟩
 rw [←hrv]
 have HRV:=Aside0.mk hrv
 clear hrv
 have HI2:=Aside0.mk (And.intro (And.intro hr0_2 (And.intro hc0_2 q0_2)) (And.intro hr1_2 (And.intro hc1_2 q1_2)))
 have HI3:=Aside0.mk (And.intro (And.intro hr0_3 (And.intro hc0_3 q0_3)) (And.intro hr1_3 (And.intro hc1_3 q1_3)))
 have HI4:=Aside0.mk (And.intro (And.intro hr0_4 (And.intro hc0_4 q0_4)) (And.intro hr1_4 (And.intro hc1_4 q1_4)))
 have HI5:=Aside0.mk (And.intro (And.intro hr0_5 (And.intro hc0_5 q0_5)) (And.intro hr1_5 (And.intro hc1_5 q1_5)))
 have HI6:=Aside0.mk (And.intro (And.intro hr0_6 (And.intro hc0_6 q0_6)) (And.intro hr1_6 (And.intro hc1_6 q1_6)))
 have m0_4:(l0_4.length:Int)≤1000000000:=by omega
 have m1_4:(l1_4.length:Int)≤1000000000:=by omega
 have m0_5:(l0_5.length:Int)≤1000000000:=by omega
 have m1_5:(l1_5.length:Int)≤1000000000:=by omega
 have m0_6:(l0_6.length:Int)≤1000000000:=by omega
 have m1_6:(l1_6.length:Int)≤1000000000:=by omega
 clear hr0_2 hc0_2 q0_2 hr0_3 hc0_3 q0_3 hr0_4 hc0_4 q0_4 hr0_5 hc0_5 q0_5 hr0_6 hc0_6 q0_6 hr1_2 hc1_2 q1_2 hr1_3 hc1_3 q1_3 hr1_4 hc1_4 q1_4 hr1_5 hc1_5 q1_5 hr1_6 hc1_6 q1_6
 have HA:Aside0 (((w.alloc (.cells #[.int .i64 a0_0,.int .i64 a0_1,.slice A0_2 l0_2.length c0_2,.slice A0_3 l0_3.length c0_3,.slice A0_4 l0_4.length c0_4,.slice A0_5 l0_5.length c0_5,.slice A0_6 l0_6.length c0_6] 30)).alloc (.cells #[.int .i64 a1_0,.int .i64 a1_1,.slice A1_2 l1_2.length c1_2,.slice A1_3 l1_3.length c1_3,.slice A1_4 l1_4.length c1_4,.slice A1_5 l1_5.length c1_5,.slice A1_6 l1_6.length c1_6] 30)).heap[w.heap.size]? = some (.cells #[.int .i64 a0_0,.int .i64 a0_1,.slice A0_2 l0_2.length c0_2,.slice A0_3 l0_3.length c0_3,.slice A0_4 l0_4.length c0_4,.slice A0_5 l0_5.length c0_5,.slice A0_6 l0_6.length c0_6] 30 (0,0))):=⟨blk_old (blk_newAt _ rfl) _⟩
 have HB:Aside0 (((w.alloc (.cells #[.int .i64 a0_0,.int .i64 a0_1,.slice A0_2 l0_2.length c0_2,.slice A0_3 l0_3.length c0_3,.slice A0_4 l0_4.length c0_4,.slice A0_5 l0_5.length c0_5,.slice A0_6 l0_6.length c0_6] 30)).alloc (.cells #[.int .i64 a1_0,.int .i64 a1_1,.slice A1_2 l1_2.length c1_2,.slice A1_3 l1_3.length c1_3,.slice A1_4 l1_4.length c1_4,.slice A1_5 l1_5.length c1_5,.slice A1_6 l1_6.length c1_6] 30)).heap[w.heap.size+1]? = some (.cells #[.int .i64 a1_0,.int .i64 a1_1,.slice A1_2 l1_2.length c1_2,.slice A1_3 l1_3.length c1_3,.slice A1_4 l1_4.length c1_4,.slice A1_5 l1_5.length c1_5,.slice A1_6 l1_6.length c1_6] 30 (0,0))):=⟨blk_newAt _ (size_alloc _ _).symm⟩
 have HW:Aside0 (Below w.heap.size w ((w.alloc (.cells #[.int .i64 a0_0,.int .i64 a0_1,.slice A0_2 l0_2.length c0_2,.slice A0_3 l0_3.length c0_3,.slice A0_4 l0_4.length c0_4,.slice A0_5 l0_5.length c0_5,.slice A0_6 l0_6.length c0_6] 30)).alloc (.cells #[.int .i64 a1_0,.int .i64 a1_1,.slice A1_2 l1_2.length c1_2,.slice A1_3 l1_3.length c1_3,.slice A1_4 l1_4.length c1_4,.slice A1_5 l1_5.length c1_5,.slice A1_6 l1_6.length c1_6] 30))):=⟨below_alloc (below_alloc (Below.refl _ _) _) _⟩
 go_enter Tryz.func23,Tryz.ntmps23
 go_upto_region 1 with (fail)
 obtain⟨wq,hwq⟩:∃wq:World,wq=((w.alloc (.cells #[.int .i64 a0_0,.int .i64 a0_1,.slice A0_2 l0_2.length c0_2,.slice A0_3 l0_3.length c0_3,.slice A0_4 l0_4.length c0_4,.slice A0_5 l0_5.length c0_5,.slice A0_6 l0_6.length c0_6] 30)).alloc (.cells #[.int .i64 a1_0,.int .i64 a1_1,.slice A1_2 l1_2.length c1_2,.slice A1_3 l1_3.length c1_3,.slice A1_4 l1_4.length c1_4,.slice A1_5 l1_5.length c1_5,.slice A1_6 l1_6.length c1_6] 30)):=⟨_,rfl⟩
 obtain⟨ga,hga⟩:∃ga,ga=w.heap.size:=⟨_,rfl⟩
 obtain⟨gb,hgb⟩:∃gb,gb=w.heap.size+1:=⟨_,rfl⟩
 rw [←hgb] at HB
 rw [←hwq,←hgb]
 rw [←hwq] at HA HB HW
 rw [←hga] at HA
 rw [show w.heap.size=ga from hga.symm]
 clear hwq hgb hga
 skip
 have x0:=(blk_cell HA.out 0).trans (show (#[.int .i64 a0_0,.int .i64 a0_1,.slice A0_2 l0_2.length c0_2,.slice A0_3 l0_3.length c0_3,.slice A0_4 l0_4.length c0_4,.slice A0_5 l0_5.length c0_5,.slice A0_6 l0_6.length c0_6]:Array Value)[0]? = some (.int .i64 a0_0) from rfl)
 have x1:=(blk_cell HA.out 1).trans (show (#[.int .i64 a0_0,.int .i64 a0_1,.slice A0_2 l0_2.length c0_2,.slice A0_3 l0_3.length c0_3,.slice A0_4 l0_4.length c0_4,.slice A0_5 l0_5.length c0_5,.slice A0_6 l0_6.length c0_6]:Array Value)[1]? = some (.int .i64 a0_1) from rfl)
 have x2:=(blk_cell HA.out 2).trans (show (#[.int .i64 a0_0,.int .i64 a0_1,.slice A0_2 l0_2.length c0_2,.slice A0_3 l0_3.length c0_3,.slice A0_4 l0_4.length c0_4,.slice A0_5 l0_5.length c0_5,.slice A0_6 l0_6.length c0_6]:Array Value)[2]? = some (.slice A0_2 l0_2.length c0_2) from rfl)
 have x3:=(blk_cell HA.out 3).trans (show (#[.int .i64 a0_0,.int .i64 a0_1,.slice A0_2 l0_2.length c0_2,.slice A0_3 l0_3.length c0_3,.slice A0_4 l0_4.length c0_4,.slice A0_5 l0_5.length c0_5,.slice A0_6 l0_6.length c0_6]:Array Value)[3]? = some (.slice A0_3 l0_3.length c0_3) from rfl)
 have x4:=(blk_cell HA.out 4).trans (show (#[.int .i64 a0_0,.int .i64 a0_1,.slice A0_2 l0_2.length c0_2,.slice A0_3 l0_3.length c0_3,.slice A0_4 l0_4.length c0_4,.slice A0_5 l0_5.length c0_5,.slice A0_6 l0_6.length c0_6]:Array Value)[4]? = some (.slice A0_4 l0_4.length c0_4) from rfl)
 have x5:=(blk_cell HA.out 5).trans (show (#[.int .i64 a0_0,.int .i64 a0_1,.slice A0_2 l0_2.length c0_2,.slice A0_3 l0_3.length c0_3,.slice A0_4 l0_4.length c0_4,.slice A0_5 l0_5.length c0_5,.slice A0_6 l0_6.length c0_6]:Array Value)[5]? = some (.slice A0_5 l0_5.length c0_5) from rfl)
 have x6:=(blk_cell HA.out 6).trans (show (#[.int .i64 a0_0,.int .i64 a0_1,.slice A0_2 l0_2.length c0_2,.slice A0_3 l0_3.length c0_3,.slice A0_4 l0_4.length c0_4,.slice A0_5 l0_5.length c0_5,.slice A0_6 l0_6.length c0_6]:Array Value)[6]? = some (.slice A0_6 l0_6.length c0_6) from rfl)
 have y0:=(blk_cell HB.out 0).trans (show (#[.int .i64 a1_0,.int .i64 a1_1,.slice A1_2 l1_2.length c1_2,.slice A1_3 l1_3.length c1_3,.slice A1_4 l1_4.length c1_4,.slice A1_5 l1_5.length c1_5,.slice A1_6 l1_6.length c1_6]:Array Value)[0]? = some (.int .i64 a1_0) from rfl)
 have y1:=(blk_cell HB.out 1).trans (show (#[.int .i64 a1_0,.int .i64 a1_1,.slice A1_2 l1_2.length c1_2,.slice A1_3 l1_3.length c1_3,.slice A1_4 l1_4.length c1_4,.slice A1_5 l1_5.length c1_5,.slice A1_6 l1_6.length c1_6]:Array Value)[1]? = some (.int .i64 a1_1) from rfl)
 have y2:=(blk_cell HB.out 2).trans (show (#[.int .i64 a1_0,.int .i64 a1_1,.slice A1_2 l1_2.length c1_2,.slice A1_3 l1_3.length c1_3,.slice A1_4 l1_4.length c1_4,.slice A1_5 l1_5.length c1_5,.slice A1_6 l1_6.length c1_6]:Array Value)[2]? = some (.slice A1_2 l1_2.length c1_2) from rfl)
 have y3:=(blk_cell HB.out 3).trans (show (#[.int .i64 a1_0,.int .i64 a1_1,.slice A1_2 l1_2.length c1_2,.slice A1_3 l1_3.length c1_3,.slice A1_4 l1_4.length c1_4,.slice A1_5 l1_5.length c1_5,.slice A1_6 l1_6.length c1_6]:Array Value)[3]? = some (.slice A1_3 l1_3.length c1_3) from rfl)
 have y4:=(blk_cell HB.out 4).trans (show (#[.int .i64 a1_0,.int .i64 a1_1,.slice A1_2 l1_2.length c1_2,.slice A1_3 l1_3.length c1_3,.slice A1_4 l1_4.length c1_4,.slice A1_5 l1_5.length c1_5,.slice A1_6 l1_6.length c1_6]:Array Value)[4]? = some (.slice A1_4 l1_4.length c1_4) from rfl)
 have y5:=(blk_cell HB.out 5).trans (show (#[.int .i64 a1_0,.int .i64 a1_1,.slice A1_2 l1_2.length c1_2,.slice A1_3 l1_3.length c1_3,.slice A1_4 l1_4.length c1_4,.slice A1_5 l1_5.length c1_5,.slice A1_6 l1_6.length c1_6]:Array Value)[5]? = some (.slice A1_5 l1_5.length c1_5) from rfl)
 have y6:=(blk_cell HB.out 6).trans (show (#[.int .i64 a1_0,.int .i64 a1_1,.slice A1_2 l1_2.length c1_2,.slice A1_3 l1_3.length c1_3,.slice A1_4 l1_4.length c1_4,.slice A1_5 l1_5.length c1_5,.slice A1_6 l1_6.length c1_6]:Array Value)[6]? = some (.slice A1_6 l1_6.length c1_6) from rfl)
 by_cases e0:¬a0_0=a1_0
 ·have t0 := eq_false e0
  have t1:(a0_0 == a1_0)=false:=beq_eq_false_iff_ne.2 e0
  have z1:(a0_0 != a1_0)=true:=bne_iff_ne.2 e0
  have HE:=Aside0.mk t1
  have HX:Aside0 (rv=false):=⟨by rw [HRV.out];rw [HE.out];rfl⟩
  go_wp2
  go_ret
  exact⟨by rw [HX.out];rfl,HW.out⟩
 replace e0:=Classical.not_not.1 e0
 have t0_:(a0_0 == a1_0)=true:=beq_iff_eq.2 e0
 have HRn:=Aside0.mk (HRV.out.trans (by rw [t0_,Bool.true_and]))
 clear HRV
 have HRV:=HRn
 clear HRn
 have t0:=eq_true e0
 have n0:(a0_0 != a1_0)=false:=bne_eq_false_iff_eq.2 e0
 clear e0
 by_cases e1:¬a0_1=a1_1
 ·have t0 := eq_false e1
  have t1:(a0_1 == a1_1)=false:=beq_eq_false_iff_ne.2 e1
  have z1:(a0_1 != a1_1)=true:=bne_iff_ne.2 e1
  have HE:=Aside0.mk t1
  have HX:Aside0 (rv=false):=⟨by rw [HRV.out];rw [HE.out];rfl⟩
  go_wp2
  go_ret
  exact⟨by rw [HX.out];rfl,HW.out⟩
 replace e1:=Classical.not_not.1 e1
 have t1_:(a0_1 == a1_1)=true:=beq_iff_eq.2 e1
 have HRn:=Aside0.mk (HRV.out.trans (by rw [t1_,Bool.true_and]))
 clear HRV
 have HRV:=HRn
 clear HRn
 have t1:=eq_true e1
 have n1:(a0_1 != a1_1)=false:=bne_eq_false_iff_eq.2 e1
 clear e1
 go_wp2_with fail
 refine(canopyref1_Ints.calls (l0_2.length+1) A0_2 c0_2 l0_2 A1_2 c1_2 l1_2 _ _ (Kd.C_below HI2.out.1.1 HW.out) HI2.out.1.2.1 (Kd.C_below HI2.out.2.1 HW.out) HI2.out.2.2.1 (ints_f _ _ HI2.out.1.2.2)).mono ?_
 rintro e w2 ⟨rfl,hd⟩
 have HAn:=Aside0.mk (blk_below HA.out hd.below)
 have HBn:=Aside0.mk (blk_below HB.out hd.below)
 have HWn:=Aside0.mk (below_then HW.out HW.out.size hd.below)
 clear HA HB HW
 have HA:=HAn
 have HB:=HBn
 have HW:=HWn
 clear HAn HBn HWn
 clear hd x0 x1 x2 x3 x4 x5 x6 y0 y1 y2 y3 y4 y5 y6
 have x0:=(blk_cell HA.out 0).trans (show (#[.int .i64 a0_0,.int .i64 a0_1,.slice A0_2 l0_2.length c0_2,.slice A0_3 l0_3.length c0_3,.slice A0_4 l0_4.length c0_4,.slice A0_5 l0_5.length c0_5,.slice A0_6 l0_6.length c0_6]:Array Value)[0]? = some (.int .i64 a0_0) from rfl)
 have x1:=(blk_cell HA.out 1).trans (show (#[.int .i64 a0_0,.int .i64 a0_1,.slice A0_2 l0_2.length c0_2,.slice A0_3 l0_3.length c0_3,.slice A0_4 l0_4.length c0_4,.slice A0_5 l0_5.length c0_5,.slice A0_6 l0_6.length c0_6]:Array Value)[1]? = some (.int .i64 a0_1) from rfl)
 have x2:=(blk_cell HA.out 2).trans (show (#[.int .i64 a0_0,.int .i64 a0_1,.slice A0_2 l0_2.length c0_2,.slice A0_3 l0_3.length c0_3,.slice A0_4 l0_4.length c0_4,.slice A0_5 l0_5.length c0_5,.slice A0_6 l0_6.length c0_6]:Array Value)[2]? = some (.slice A0_2 l0_2.length c0_2) from rfl)
 have x3:=(blk_cell HA.out 3).trans (show (#[.int .i64 a0_0,.int .i64 a0_1,.slice A0_2 l0_2.length c0_2,.slice A0_3 l0_3.length c0_3,.slice A0_4 l0_4.length c0_4,.slice A0_5 l0_5.length c0_5,.slice A0_6 l0_6.length c0_6]:Array Value)[3]? = some (.slice A0_3 l0_3.length c0_3) from rfl)
 have x4:=(blk_cell HA.out 4).trans (show (#[.int .i64 a0_0,.int .i64 a0_1,.slice A0_2 l0_2.length c0_2,.slice A0_3 l0_3.length c0_3,.slice A0_4 l0_4.length c0_4,.slice A0_5 l0_5.length c0_5,.slice A0_6 l0_6.length c0_6]:Array Value)[4]? = some (.slice A0_4 l0_4.length c0_4) from rfl)
 have x5:=(blk_cell HA.out 5).trans (show (#[.int .i64 a0_0,.int .i64 a0_1,.slice A0_2 l0_2.length c0_2,.slice A0_3 l0_3.length c0_3,.slice A0_4 l0_4.length c0_4,.slice A0_5 l0_5.length c0_5,.slice A0_6 l0_6.length c0_6]:Array Value)[5]? = some (.slice A0_5 l0_5.length c0_5) from rfl)
 have x6:=(blk_cell HA.out 6).trans (show (#[.int .i64 a0_0,.int .i64 a0_1,.slice A0_2 l0_2.length c0_2,.slice A0_3 l0_3.length c0_3,.slice A0_4 l0_4.length c0_4,.slice A0_5 l0_5.length c0_5,.slice A0_6 l0_6.length c0_6]:Array Value)[6]? = some (.slice A0_6 l0_6.length c0_6) from rfl)
 have y0:=(blk_cell HB.out 0).trans (show (#[.int .i64 a1_0,.int .i64 a1_1,.slice A1_2 l1_2.length c1_2,.slice A1_3 l1_3.length c1_3,.slice A1_4 l1_4.length c1_4,.slice A1_5 l1_5.length c1_5,.slice A1_6 l1_6.length c1_6]:Array Value)[0]? = some (.int .i64 a1_0) from rfl)
 have y1:=(blk_cell HB.out 1).trans (show (#[.int .i64 a1_0,.int .i64 a1_1,.slice A1_2 l1_2.length c1_2,.slice A1_3 l1_3.length c1_3,.slice A1_4 l1_4.length c1_4,.slice A1_5 l1_5.length c1_5,.slice A1_6 l1_6.length c1_6]:Array Value)[1]? = some (.int .i64 a1_1) from rfl)
 have y2:=(blk_cell HB.out 2).trans (show (#[.int .i64 a1_0,.int .i64 a1_1,.slice A1_2 l1_2.length c1_2,.slice A1_3 l1_3.length c1_3,.slice A1_4 l1_4.length c1_4,.slice A1_5 l1_5.length c1_5,.slice A1_6 l1_6.length c1_6]:Array Value)[2]? = some (.slice A1_2 l1_2.length c1_2) from rfl)
 have y3:=(blk_cell HB.out 3).trans (show (#[.int .i64 a1_0,.int .i64 a1_1,.slice A1_2 l1_2.length c1_2,.slice A1_3 l1_3.length c1_3,.slice A1_4 l1_4.length c1_4,.slice A1_5 l1_5.length c1_5,.slice A1_6 l1_6.length c1_6]:Array Value)[3]? = some (.slice A1_3 l1_3.length c1_3) from rfl)
 have y4:=(blk_cell HB.out 4).trans (show (#[.int .i64 a1_0,.int .i64 a1_1,.slice A1_2 l1_2.length c1_2,.slice A1_3 l1_3.length c1_3,.slice A1_4 l1_4.length c1_4,.slice A1_5 l1_5.length c1_5,.slice A1_6 l1_6.length c1_6]:Array Value)[4]? = some (.slice A1_4 l1_4.length c1_4) from rfl)
 have y5:=(blk_cell HB.out 5).trans (show (#[.int .i64 a1_0,.int .i64 a1_1,.slice A1_2 l1_2.length c1_2,.slice A1_3 l1_3.length c1_3,.slice A1_4 l1_4.length c1_4,.slice A1_5 l1_5.length c1_5,.slice A1_6 l1_6.length c1_6]:Array Value)[5]? = some (.slice A1_5 l1_5.length c1_5) from rfl)
 have y6:=(blk_cell HB.out 6).trans (show (#[.int .i64 a1_0,.int .i64 a1_1,.slice A1_2 l1_2.length c1_2,.slice A1_3 l1_3.length c1_3,.slice A1_4 l1_4.length c1_4,.slice A1_5 l1_5.length c1_5,.slice A1_6 l1_6.length c1_6]:Array Value)[6]? = some (.slice A1_6 l1_6.length c1_6) from rfl)
 obtain⟨bb,hbb⟩:∃bb:Bool,bb=(l0_2 == l1_2):=⟨_,rfl⟩
 have HRn:=Aside0.mk (HRV.out.trans (by rw [←hbb]))
 clear HRV
 have HRV:=HRn
 clear HRn
 rw [←hbb]
 clear hbb
 cases bb with
 | false=>
  have HX:Aside0 (rv=false):=⟨by rw [HRV.out];rfl⟩
  go_wp2
  go_ret
  exact⟨by rw [HX.out];rfl,HW.out⟩
 | true=>
  have HRn:=Aside0.mk (HRV.out.trans (Bool.true_and _))
  clear HRV
  have HRV:=HRn
  clear HRn
  go_wp2_with fail
  refine(canopyref1_Ints.calls (l0_3.length+1) A0_3 c0_3 l0_3 A1_3 c1_3 l1_3 _ _ (Kd.C_below HI3.out.1.1 HW.out) HI3.out.1.2.1 (Kd.C_below HI3.out.2.1 HW.out) HI3.out.2.2.1 (ints_f _ _ HI3.out.1.2.2)).mono ?_
  rintro e w3 ⟨rfl,hd⟩
  have HAn:=Aside0.mk (blk_below HA.out hd.below)
  have HBn:=Aside0.mk (blk_below HB.out hd.below)
  have HWn:=Aside0.mk (below_then HW.out HW.out.size hd.below)
  clear HA HB HW
  have HA:=HAn
  have HB:=HBn
  have HW:=HWn
  clear HAn HBn HWn
  clear hd x0 x1 x2 x3 x4 x5 x6 y0 y1 y2 y3 y4 y5 y6
  have x0:=(blk_cell HA.out 0).trans (show (#[.int .i64 a0_0,.int .i64 a0_1,.slice A0_2 l0_2.length c0_2,.slice A0_3 l0_3.length c0_3,.slice A0_4 l0_4.length c0_4,.slice A0_5 l0_5.length c0_5,.slice A0_6 l0_6.length c0_6]:Array Value)[0]? = some (.int .i64 a0_0) from rfl)
  have x1:=(blk_cell HA.out 1).trans (show (#[.int .i64 a0_0,.int .i64 a0_1,.slice A0_2 l0_2.length c0_2,.slice A0_3 l0_3.length c0_3,.slice A0_4 l0_4.length c0_4,.slice A0_5 l0_5.length c0_5,.slice A0_6 l0_6.length c0_6]:Array Value)[1]? = some (.int .i64 a0_1) from rfl)
  have x2:=(blk_cell HA.out 2).trans (show (#[.int .i64 a0_0,.int .i64 a0_1,.slice A0_2 l0_2.length c0_2,.slice A0_3 l0_3.length c0_3,.slice A0_4 l0_4.length c0_4,.slice A0_5 l0_5.length c0_5,.slice A0_6 l0_6.length c0_6]:Array Value)[2]? = some (.slice A0_2 l0_2.length c0_2) from rfl)
  have x3:=(blk_cell HA.out 3).trans (show (#[.int .i64 a0_0,.int .i64 a0_1,.slice A0_2 l0_2.length c0_2,.slice A0_3 l0_3.length c0_3,.slice A0_4 l0_4.length c0_4,.slice A0_5 l0_5.length c0_5,.slice A0_6 l0_6.length c0_6]:Array Value)[3]? = some (.slice A0_3 l0_3.length c0_3) from rfl)
  have x4:=(blk_cell HA.out 4).trans (show (#[.int .i64 a0_0,.int .i64 a0_1,.slice A0_2 l0_2.length c0_2,.slice A0_3 l0_3.length c0_3,.slice A0_4 l0_4.length c0_4,.slice A0_5 l0_5.length c0_5,.slice A0_6 l0_6.length c0_6]:Array Value)[4]? = some (.slice A0_4 l0_4.length c0_4) from rfl)
  have x5:=(blk_cell HA.out 5).trans (show (#[.int .i64 a0_0,.int .i64 a0_1,.slice A0_2 l0_2.length c0_2,.slice A0_3 l0_3.length c0_3,.slice A0_4 l0_4.length c0_4,.slice A0_5 l0_5.length c0_5,.slice A0_6 l0_6.length c0_6]:Array Value)[5]? = some (.slice A0_5 l0_5.length c0_5) from rfl)
  have x6:=(blk_cell HA.out 6).trans (show (#[.int .i64 a0_0,.int .i64 a0_1,.slice A0_2 l0_2.length c0_2,.slice A0_3 l0_3.length c0_3,.slice A0_4 l0_4.length c0_4,.slice A0_5 l0_5.length c0_5,.slice A0_6 l0_6.length c0_6]:Array Value)[6]? = some (.slice A0_6 l0_6.length c0_6) from rfl)
  have y0:=(blk_cell HB.out 0).trans (show (#[.int .i64 a1_0,.int .i64 a1_1,.slice A1_2 l1_2.length c1_2,.slice A1_3 l1_3.length c1_3,.slice A1_4 l1_4.length c1_4,.slice A1_5 l1_5.length c1_5,.slice A1_6 l1_6.length c1_6]:Array Value)[0]? = some (.int .i64 a1_0) from rfl)
  have y1:=(blk_cell HB.out 1).trans (show (#[.int .i64 a1_0,.int .i64 a1_1,.slice A1_2 l1_2.length c1_2,.slice A1_3 l1_3.length c1_3,.slice A1_4 l1_4.length c1_4,.slice A1_5 l1_5.length c1_5,.slice A1_6 l1_6.length c1_6]:Array Value)[1]? = some (.int .i64 a1_1) from rfl)
  have y2:=(blk_cell HB.out 2).trans (show (#[.int .i64 a1_0,.int .i64 a1_1,.slice A1_2 l1_2.length c1_2,.slice A1_3 l1_3.length c1_3,.slice A1_4 l1_4.length c1_4,.slice A1_5 l1_5.length c1_5,.slice A1_6 l1_6.length c1_6]:Array Value)[2]? = some (.slice A1_2 l1_2.length c1_2) from rfl)
  have y3:=(blk_cell HB.out 3).trans (show (#[.int .i64 a1_0,.int .i64 a1_1,.slice A1_2 l1_2.length c1_2,.slice A1_3 l1_3.length c1_3,.slice A1_4 l1_4.length c1_4,.slice A1_5 l1_5.length c1_5,.slice A1_6 l1_6.length c1_6]:Array Value)[3]? = some (.slice A1_3 l1_3.length c1_3) from rfl)
  have y4:=(blk_cell HB.out 4).trans (show (#[.int .i64 a1_0,.int .i64 a1_1,.slice A1_2 l1_2.length c1_2,.slice A1_3 l1_3.length c1_3,.slice A1_4 l1_4.length c1_4,.slice A1_5 l1_5.length c1_5,.slice A1_6 l1_6.length c1_6]:Array Value)[4]? = some (.slice A1_4 l1_4.length c1_4) from rfl)
  have y5:=(blk_cell HB.out 5).trans (show (#[.int .i64 a1_0,.int .i64 a1_1,.slice A1_2 l1_2.length c1_2,.slice A1_3 l1_3.length c1_3,.slice A1_4 l1_4.length c1_4,.slice A1_5 l1_5.length c1_5,.slice A1_6 l1_6.length c1_6]:Array Value)[5]? = some (.slice A1_5 l1_5.length c1_5) from rfl)
  have y6:=(blk_cell HB.out 6).trans (show (#[.int .i64 a1_0,.int .i64 a1_1,.slice A1_2 l1_2.length c1_2,.slice A1_3 l1_3.length c1_3,.slice A1_4 l1_4.length c1_4,.slice A1_5 l1_5.length c1_5,.slice A1_6 l1_6.length c1_6]:Array Value)[6]? = some (.slice A1_6 l1_6.length c1_6) from rfl)
  obtain⟨bb,hbb⟩:∃bb:Bool,bb=(l0_3 == l1_3):=⟨_,rfl⟩
  have HRn:=Aside0.mk (HRV.out.trans (by rw [←hbb]))
  clear HRV
  have HRV:=HRn
  clear HRn
  rw [←hbb]
  clear hbb
  cases bb with
  | false=>
   have HX:Aside0 (rv=false):=⟨by rw [HRV.out];rfl⟩
   go_wp2
   go_ret
   exact⟨by rw [HX.out];rfl,HW.out⟩
  | true=>
   have HRn:=Aside0.mk (HRV.out.trans (Bool.true_and _))
   clear HRV
   have HRV:=HRn
   clear HRn
   by_cases e4:¬l0_4.length=l1_4.length
   ·have t4 := eq_false (show ¬ (l0_4.length : Int) = (l1_4.length : Int) by omega)
    have u4:((l0_4.length:Int) == (l1_4.length:Int))=false:=beq_eq_false_iff_ne.2 (by omega)
    have z4:((l0_4.length:Int) != (l1_4.length:Int))=true:=bne_iff_ne.2 (by omega)
    have d4:=decide_eq_false (show ¬(l0_4.length:Int)=(l1_4.length:Int) by omega)
    have HE:Aside0 (sameL eqOpen l0_4 l1_4=false):=⟨Bool.eq_false_iff.2 fun h=>e4 (sameL_len h)⟩
    have HX:Aside0 (rv=false):=⟨by rw [HRV.out];rw [HE.out];simp⟩
    go_wp2
    go_ret
    exact⟨by rw [HX.out];rfl,HW.out⟩
   have HLL4:=Aside0.mk (Classical.not_not.1 e4)
   have t4:=eq_true (show (l0_4.length:Int)=(l1_4.length:Int) by omega)
   have u4:((l0_4.length:Int) == (l1_4.length:Int))=true:=beq_iff_eq.2 (by omega)
   have z4:((l0_4.length:Int) != (l1_4.length:Int))=false:=bne_eq_false_iff_eq.2 (by omega)
   have d4:=decide_eq_true (show (l0_4.length:Int)=(l1_4.length:Int) by omega)
   clear e4
   by_cases e5:¬l0_5.length=l1_5.length
   ·have t5 := eq_false (show ¬ (l0_5.length : Int) = (l1_5.length : Int) by omega)
    have u5:((l0_5.length:Int) == (l1_5.length:Int))=false:=beq_eq_false_iff_ne.2 (by omega)
    have z5:((l0_5.length:Int) != (l1_5.length:Int))=true:=bne_iff_ne.2 (by omega)
    have d5:=decide_eq_false (show ¬(l0_5.length:Int)=(l1_5.length:Int) by omega)
    have HE:Aside0 (sameL eqClose l0_5 l1_5=false):=⟨Bool.eq_false_iff.2 fun h=>e5 (sameL_len h)⟩
    have HX:Aside0 (rv=false):=⟨by rw [HRV.out];rw [HE.out];simp⟩
    go_wp2
    go_ret
    exact⟨by rw [HX.out];rfl,HW.out⟩
   have HLL5:=Aside0.mk (Classical.not_not.1 e5)
   have t5:=eq_true (show (l0_5.length:Int)=(l1_5.length:Int) by omega)
   have u5:((l0_5.length:Int) == (l1_5.length:Int))=true:=beq_iff_eq.2 (by omega)
   have z5:((l0_5.length:Int) != (l1_5.length:Int))=false:=bne_eq_false_iff_eq.2 (by omega)
   have d5:=decide_eq_true (show (l0_5.length:Int)=(l1_5.length:Int) by omega)
   clear e5
   by_cases e6:¬l0_6.length=l1_6.length
   ·have t6 := eq_false (show ¬ (l0_6.length : Int) = (l1_6.length : Int) by omega)
    have u6:((l0_6.length:Int) == (l1_6.length:Int))=false:=beq_eq_false_iff_ne.2 (by omega)
    have z6:((l0_6.length:Int) != (l1_6.length:Int))=true:=bne_iff_ne.2 (by omega)
    have d6:=decide_eq_false (show ¬(l0_6.length:Int)=(l1_6.length:Int) by omega)
    have HE:Aside0 (sameL eqInner l0_6 l1_6=false):=⟨Bool.eq_false_iff.2 fun h=>e6 (sameL_len h)⟩
    have HX:Aside0 (rv=false):=⟨by rw [HRV.out];rw [HE.out];simp⟩
    go_wp2
    go_ret
    exact⟨by rw [HX.out];rfl,HW.out⟩
   have HLL6:=Aside0.mk (Classical.not_not.1 e6)
   have t6:=eq_true (show (l0_6.length:Int)=(l1_6.length:Int) by omega)
   have u6:((l0_6.length:Int) == (l1_6.length:Int))=true:=beq_iff_eq.2 (by omega)
   have z6:((l0_6.length:Int) != (l1_6.length:Int))=false:=bne_eq_false_iff_eq.2 (by omega)
   have d6:=decide_eq_true (show (l0_6.length:Int)=(l1_6.length:Int) by omega)
   clear e6
   go_upto_region 3 with (fail)
   clear x0 y0 x1 y1 x2 y2 x3 y3 x4 y4 x5 y5 x6 y6 t0 t1 t0_ t1_ t4 t5 t6 u4 u5 u6 z4 z5 z6 d4 d5 d6 n0 n1
   obtain⟨wr0,hwr0⟩:∃wr0:World,wr0=w3:=⟨_,rfl⟩
   rw [←hwr0] at HA HB HW ⊢
   clear hwr0
   have x4:=(blk_cell HA.out 4).trans (show (#[.int .i64 a0_0,.int .i64 a0_1,.slice A0_2 l0_2.length c0_2,.slice A0_3 l0_3.length c0_3,.slice A0_4 l0_4.length c0_4,.slice A0_5 l0_5.length c0_5,.slice A0_6 l0_6.length c0_6]:Array Value)[4]? = some (.slice A0_4 l0_4.length c0_4) from rfl)
   have y4:=(blk_cell HB.out 4).trans (show (#[.int .i64 a1_0,.int .i64 a1_1,.slice A1_2 l1_2.length c1_2,.slice A1_3 l1_3.length c1_3,.slice A1_4 l1_4.length c1_4,.slice A1_5 l1_5.length c1_5,.slice A1_6 l1_6.length c1_6]:Array Value)[4]? = some (.slice A1_4 l1_4.length c1_4) from rfl)
   go_wp2
   clear x4 y4
   go_loopg [5] l0_4.length (fun gk v5 w'=>∃i:Nat,v5=.int .i64 (i:Int)∧Aside0 (i≤l0_4.length∧l0_4.length - i≤gk)∧Aside0 (sameL eqOpen l0_4 l1_4=sameL eqOpen (l0_4.drop i) (l1_4.drop i))∧Aside0 (w'.heap[ga]? = some (.cells #[.int .i64 a0_0,.int .i64 a0_1,.slice A0_2 l0_2.length c0_2,.slice A0_3 l0_3.length c0_3,.slice A0_4 l0_4.length c0_4,.slice A0_5 l0_5.length c0_5,.slice A0_6 l0_6.length c0_6] 30 (0,0)))∧Aside0 (w'.heap[gb]? = some (.cells #[.int .i64 a1_0,.int .i64 a1_1,.slice A1_2 l1_2.length c1_2,.slice A1_3 l1_3.length c1_3,.slice A1_4 l1_4.length c1_4,.slice A1_5 l1_5.length c1_5,.slice A1_6 l1_6.length c1_6] 30 (0,0)))∧Aside0 (Below w.heap.size w w'))
   case atStart=>exact⟨0,rfl,⟨by omega,by omega⟩,⟨rfl⟩,HA,HB,HW⟩
   case' round=>skip
   clear HA HB HW
   obtain⟨i,rfl,Hi,HS,HA,HB,HW⟩:=hrel
   obtain⟨wo,rfl⟩:∃wo:World,wo=wr:=⟨_,rfl⟩
   have x4:=(blk_cell HA.out 4).trans (show (#[.int .i64 a0_0,.int .i64 a0_1,.slice A0_2 l0_2.length c0_2,.slice A0_3 l0_3.length c0_3,.slice A0_4 l0_4.length c0_4,.slice A0_5 l0_5.length c0_5,.slice A0_6 l0_6.length c0_6]:Array Value)[4]? = some (.slice A0_4 l0_4.length c0_4) from rfl)
   have y4:=(blk_cell HB.out 4).trans (show (#[.int .i64 a1_0,.int .i64 a1_1,.slice A1_2 l1_2.length c1_2,.slice A1_3 l1_3.length c1_3,.slice A1_4 l1_4.length c1_4,.slice A1_5 l1_5.length c1_5,.slice A1_6 l1_6.length c1_6]:Array Value)[4]? = some (.slice A1_4 l1_4.length c1_4) from rfl)
   by_cases hlt:i < l0_4.length
   ·have HLT := Aside0.mk hlt
    have hlt2:i < l1_4.length:=by have:=HLL4.out;omega
    obtain⟨ad,ea,a_0,a_1,a_2,a_3⟩:=at_T36 (Kd.C_below HI4.out.1.1 HW.out) (i:Int) (by omega) (by omega)
    have hrd0:rd_T36 l0_4 (i:Int)=l0_4[i]:=by unfold rd_T36;rw [Int.toNat_natCast,List.getD_eq_getElem?_getD,List.getElem?_eq_getElem (by omega)];rfl
    rw [hrd0,Int.toNat_natCast] at a_0 a_1 a_2 a_3
    obtain⟨bd,eb,b_0,b_1,b_2,b_3⟩:=at_T36 (Kd.C_below HI4.out.2.1 HW.out) (i:Int) (by omega) (by omega)
    have hrd1:rd_T36 l1_4 (i:Int)=l1_4[i]:=by unfold rd_T36;rw [Int.toNat_natCast,List.getD_eq_getElem?_getD,List.getElem?_eq_getElem (by omega)];rfl
    rw [hrd1,Int.toNat_natCast] at b_0 b_1 b_2 b_3
    have HN:=Aside0.mk (sameL_next eqOpen l0_4 l1_4 i hlt hlt2)
    generalize l0_4[i]=xx at HN a_0 a_1 a_2 a_3
    generalize l1_4[i]=yy at HN b_0 b_1 b_2 b_3
    obtain⟨p0,p1,p2,p3⟩:=xx
    obtain⟨r0,r1,r2,r3⟩:=yy
    have Hc:Aside0 (eqOpen ⟨p0,p1,p2,p3⟩ ⟨r0,r1,r2,r3⟩=(p0 == r0 && (p1 == r1 && (p2 == r2 && p3 == r3)))):=⟨rfl⟩
    have t1:=eq_true (show (i:Int) < (l0_4.length:Int) by omega)
    have t2:=eq_true (show (0:Int)≤(i:Int) by omega)
    have t3:=eq_true (show (i:Int) < (l1_4.length:Int) by omega)
    subst ea
    subst eb
    clear hlt hlt2 hrd0 hrd1
    go_wp2
    go_quiet (fail)
    obtain⟨nq1,rfl⟩:∃m:Nat,m=nq:=⟨_,rfl⟩
    have HAn:=Aside0.mk (show (wo.drewN nq1).heap[ga]? = _ from HA.out)
    have HBn:=Aside0.mk (show (wo.drewN nq1).heap[gb]? = _ from HB.out)
    have HWn:Aside0 (Below w.heap.size w (wo.drewN nq1)):=⟨by apply pw_below_drewN;exact HW.out⟩
    generalize wo.drewN nq1=w4 at HAn HBn HWn ⊢
    clear HA HB HW x4 y4 t1 t2 t3 a_0 b_0 a_1 b_1 a_2 b_2 a_3 b_3
    repeat rw [←Bool.not_and]
    generalize (p0 == r0 && (p1 == r1 && (p2 == r2 && p3 == r3)))=bb at Hc ⊢
    cases bb with
    | false=>
     have HX:Aside0 (rv=false):=⟨by rw [HRV.out,HS.out,HN.out,Hc.out];rfl⟩
     go_wp2
     go_ret
     exact⟨by rw [HX.out];rfl,HWn.out⟩
    | true=>
     go_wp2
     go_roundg (l0_4.length - (i+1))
     case measure=>have:=Hi.out;have:=HLT.out;omega
     case rel=>exact⟨i+1,by first|rfl|rw [show wrap64 ((i:Int)+1)=((i+1:Nat):Int) by have:=HLT.out;have:=HI4.out.1.2.2;unfold wrap64;omega],⟨HLT.out,Nat.le_refl _⟩,⟨by rw [HS.out,HN.out,Hc.out,Bool.true_and]⟩,HAn,HBn,HWn⟩
   have HRn : Aside0 (rv = (sameL eqClose l0_5 l1_5 && sameL eqInner l0_6 l1_6)) := ⟨by rw [HRV.out, HS.out, List.drop_of_length_le (by omega), List.drop_of_length_le (by have := HLL4.out; omega)]; rfl⟩
   clear HRV
   have HRV:=HRn
   clear HRn
   have t1:=eq_false (show ¬(i:Int) < (l0_4.length:Int) by omega)
   clear hlt Hi HS
   skip
   have x5:=(blk_cell HA.out 5).trans (show (#[.int .i64 a0_0,.int .i64 a0_1,.slice A0_2 l0_2.length c0_2,.slice A0_3 l0_3.length c0_3,.slice A0_4 l0_4.length c0_4,.slice A0_5 l0_5.length c0_5,.slice A0_6 l0_6.length c0_6]:Array Value)[5]? = some (.slice A0_5 l0_5.length c0_5) from rfl)
   have y5:=(blk_cell HB.out 5).trans (show (#[.int .i64 a1_0,.int .i64 a1_1,.slice A1_2 l1_2.length c1_2,.slice A1_3 l1_3.length c1_3,.slice A1_4 l1_4.length c1_4,.slice A1_5 l1_5.length c1_5,.slice A1_6 l1_6.length c1_6]:Array Value)[5]? = some (.slice A1_5 l1_5.length c1_5) from rfl)
   go_wp2
   clear x5 y5
   clear t1
   go_loopg [6] l0_5.length (fun gk v6 w'=>∃i:Nat,v6=.int .i64 (i:Int)∧Aside0 (i≤l0_5.length∧l0_5.length - i≤gk)∧Aside0 (sameL eqClose l0_5 l1_5=sameL eqClose (l0_5.drop i) (l1_5.drop i))∧Aside0 (w'.heap[ga]? = some (.cells #[.int .i64 a0_0,.int .i64 a0_1,.slice A0_2 l0_2.length c0_2,.slice A0_3 l0_3.length c0_3,.slice A0_4 l0_4.length c0_4,.slice A0_5 l0_5.length c0_5,.slice A0_6 l0_6.length c0_6] 30 (0,0)))∧Aside0 (w'.heap[gb]? = some (.cells #[.int .i64 a1_0,.int .i64 a1_1,.slice A1_2 l1_2.length c1_2,.slice A1_3 l1_3.length c1_3,.slice A1_4 l1_4.length c1_4,.slice A1_5 l1_5.length c1_5,.slice A1_6 l1_6.length c1_6] 30 (0,0)))∧Aside0 (Below w.heap.size w w'))
   case atStart=>exact⟨0,rfl,⟨by omega,by omega⟩,⟨rfl⟩,HA,HB,HW⟩
   case' round=>skip
   clear HA HB HW
   obtain⟨i,rfl,Hi,HS,HA,HB,HW⟩:=hrel
   obtain⟨wo,rfl⟩:∃wo:World,wo=wr:=⟨_,rfl⟩
   have x5:=(blk_cell HA.out 5).trans (show (#[.int .i64 a0_0,.int .i64 a0_1,.slice A0_2 l0_2.length c0_2,.slice A0_3 l0_3.length c0_3,.slice A0_4 l0_4.length c0_4,.slice A0_5 l0_5.length c0_5,.slice A0_6 l0_6.length c0_6]:Array Value)[5]? = some (.slice A0_5 l0_5.length c0_5) from rfl)
   have y5:=(blk_cell HB.out 5).trans (show (#[.int .i64 a1_0,.int .i64 a1_1,.slice A1_2 l1_2.length c1_2,.slice A1_3 l1_3.length c1_3,.slice A1_4 l1_4.length c1_4,.slice A1_5 l1_5.length c1_5,.slice A1_6 l1_6.length c1_6]:Array Value)[5]? = some (.slice A1_5 l1_5.length c1_5) from rfl)
   by_cases hlt:i < l0_5.length
   ·have HLT := Aside0.mk hlt
    have hlt2:i < l1_5.length:=by have:=HLL5.out;omega
    obtain⟨ad,ea,a_0,a_1,a_2,a_3⟩:=at_T38 (Kd.C_below HI5.out.1.1 HW.out) (i:Int) (by omega) (by omega)
    have hrd0:rd_T38 l0_5 (i:Int)=l0_5[i]:=by unfold rd_T38;rw [Int.toNat_natCast,List.getD_eq_getElem?_getD,List.getElem?_eq_getElem (by omega)];rfl
    rw [hrd0,Int.toNat_natCast] at a_0 a_1 a_2 a_3
    obtain⟨bd,eb,b_0,b_1,b_2,b_3⟩:=at_T38 (Kd.C_below HI5.out.2.1 HW.out) (i:Int) (by omega) (by omega)
    have hrd1:rd_T38 l1_5 (i:Int)=l1_5[i]:=by unfold rd_T38;rw [Int.toNat_natCast,List.getD_eq_getElem?_getD,List.getElem?_eq_getElem (by omega)];rfl
    rw [hrd1,Int.toNat_natCast] at b_0 b_1 b_2 b_3
    have HN:=Aside0.mk (sameL_next eqClose l0_5 l1_5 i hlt hlt2)
    generalize l0_5[i]=xx at HN a_0 a_1 a_2 a_3
    generalize l1_5[i]=yy at HN b_0 b_1 b_2 b_3
    obtain⟨p0,p1,p2,p3⟩:=xx
    obtain⟨r0,r1,r2,r3⟩:=yy
    have Hc:Aside0 (eqClose ⟨p0,p1,p2,p3⟩ ⟨r0,r1,r2,r3⟩=(p0 == r0 && (p1 == r1 && (p2 == r2 && p3 == r3)))):=⟨rfl⟩
    have t1:=eq_true (show (i:Int) < (l0_5.length:Int) by omega)
    have t2:=eq_true (show (0:Int)≤(i:Int) by omega)
    have t3:=eq_true (show (i:Int) < (l1_5.length:Int) by omega)
    subst ea
    subst eb
    clear hlt hlt2 hrd0 hrd1
    go_wp2
    go_quiet (fail)
    obtain⟨nq1,rfl⟩:∃m:Nat,m=nq:=⟨_,rfl⟩
    have HAn:=Aside0.mk (show (wo.drewN nq1).heap[ga]? = _ from HA.out)
    have HBn:=Aside0.mk (show (wo.drewN nq1).heap[gb]? = _ from HB.out)
    have HWn:Aside0 (Below w.heap.size w (wo.drewN nq1)):=⟨by apply pw_below_drewN;exact HW.out⟩
    generalize wo.drewN nq1=w4 at HAn HBn HWn ⊢
    clear HA HB HW x5 y5 t1 t2 t3 a_0 b_0 a_1 b_1 a_2 b_2 a_3 b_3
    repeat rw [←Bool.not_and]
    generalize (p0 == r0 && (p1 == r1 && (p2 == r2 && p3 == r3)))=bb at Hc ⊢
    cases bb with
    | false=>
     have HX:Aside0 (rv=false):=⟨by rw [HRV.out,HS.out,HN.out,Hc.out];rfl⟩
     go_wp2
     go_ret
     exact⟨by rw [HX.out];rfl,HWn.out⟩
    | true=>
     go_wp2
     go_roundg (l0_5.length - (i+1))
     case measure=>have:=Hi.out;have:=HLT.out;omega
     case rel=>exact⟨i+1,by first|rfl|rw [show wrap64 ((i:Int)+1)=((i+1:Nat):Int) by have:=HLT.out;have:=HI5.out.1.2.2;unfold wrap64;omega],⟨HLT.out,Nat.le_refl _⟩,⟨by rw [HS.out,HN.out,Hc.out,Bool.true_and]⟩,HAn,HBn,HWn⟩
   have HRn : Aside0 (rv = sameL eqInner l0_6 l1_6) := ⟨by rw [HRV.out, HS.out, List.drop_of_length_le (by omega), List.drop_of_length_le (by have := HLL5.out; omega)]; rfl⟩
   clear HRV
   have HRV:=HRn
   clear HRn
   have t1:=eq_false (show ¬(i:Int) < (l0_5.length:Int) by omega)
   clear hlt Hi HS
   skip
   have x6:=(blk_cell HA.out 6).trans (show (#[.int .i64 a0_0,.int .i64 a0_1,.slice A0_2 l0_2.length c0_2,.slice A0_3 l0_3.length c0_3,.slice A0_4 l0_4.length c0_4,.slice A0_5 l0_5.length c0_5,.slice A0_6 l0_6.length c0_6]:Array Value)[6]? = some (.slice A0_6 l0_6.length c0_6) from rfl)
   have y6:=(blk_cell HB.out 6).trans (show (#[.int .i64 a1_0,.int .i64 a1_1,.slice A1_2 l1_2.length c1_2,.slice A1_3 l1_3.length c1_3,.slice A1_4 l1_4.length c1_4,.slice A1_5 l1_5.length c1_5,.slice A1_6 l1_6.length c1_6]:Array Value)[6]? = some (.slice A1_6 l1_6.length c1_6) from rfl)
   go_wp2
   clear x6 y6
   clear t1
   go_loopg [7] l0_6.length (fun gk v7 w'=>∃i:Nat,v7=.int .i64 (i:Int)∧Aside0 (i≤l0_6.length∧l0_6.length - i≤gk)∧Aside0 (sameL eqInner l0_6 l1_6=sameL eqInner (l0_6.drop i) (l1_6.drop i))∧Aside0 (w'.heap[ga]? = some (.cells #[.int .i64 a0_0,.int .i64 a0_1,.slice A0_2 l0_2.length c0_2,.slice A0_3 l0_3.length c0_3,.slice A0_4 l0_4.length c0_4,.slice A0_5 l0_5.length c0_5,.slice A0_6 l0_6.length c0_6] 30 (0,0)))∧Aside0 (w'.heap[gb]? = some (.cells #[.int .i64 a1_0,.int .i64 a1_1,.slice A1_2 l1_2.length c1_2,.slice A1_3 l1_3.length c1_3,.slice A1_4 l1_4.length c1_4,.slice A1_5 l1_5.length c1_5,.slice A1_6 l1_6.length c1_6] 30 (0,0)))∧Aside0 (Below w.heap.size w w'))
   case atStart=>exact⟨0,rfl,⟨by omega,by omega⟩,⟨rfl⟩,HA,HB,HW⟩
   case' round=>skip
   clear HA HB HW
   obtain⟨i,rfl,Hi,HS,HA,HB,HW⟩:=hrel
   obtain⟨wo,rfl⟩:∃wo:World,wo=wr:=⟨_,rfl⟩
   have x6:=(blk_cell HA.out 6).trans (show (#[.int .i64 a0_0,.int .i64 a0_1,.slice A0_2 l0_2.length c0_2,.slice A0_3 l0_3.length c0_3,.slice A0_4 l0_4.length c0_4,.slice A0_5 l0_5.length c0_5,.slice A0_6 l0_6.length c0_6]:Array Value)[6]? = some (.slice A0_6 l0_6.length c0_6) from rfl)
   have y6:=(blk_cell HB.out 6).trans (show (#[.int .i64 a1_0,.int .i64 a1_1,.slice A1_2 l1_2.length c1_2,.slice A1_3 l1_3.length c1_3,.slice A1_4 l1_4.length c1_4,.slice A1_5 l1_5.length c1_5,.slice A1_6 l1_6.length c1_6]:Array Value)[6]? = some (.slice A1_6 l1_6.length c1_6) from rfl)
   by_cases hlt:i < l0_6.length
   ·have HLT := Aside0.mk hlt
    have hlt2:i < l1_6.length:=by have:=HLL6.out;omega
    obtain⟨ad,ea,a_0,a_1,a_2⟩:=at_T40 (Kd.C_below HI6.out.1.1 HW.out) (i:Int) (by omega) (by omega)
    have hrd0:rd_T40 l0_6 (i:Int)=l0_6[i]:=by unfold rd_T40;rw [Int.toNat_natCast,List.getD_eq_getElem?_getD,List.getElem?_eq_getElem (by omega)];rfl
    rw [hrd0,Int.toNat_natCast] at a_0 a_1 a_2
    obtain⟨bd,eb,b_0,b_1,b_2⟩:=at_T40 (Kd.C_below HI6.out.2.1 HW.out) (i:Int) (by omega) (by omega)
    have hrd1:rd_T40 l1_6 (i:Int)=l1_6[i]:=by unfold rd_T40;rw [Int.toNat_natCast,List.getD_eq_getElem?_getD,List.getElem?_eq_getElem (by omega)];rfl
    rw [hrd1,Int.toNat_natCast] at b_0 b_1 b_2
    have HN:=Aside0.mk (sameL_next eqInner l0_6 l1_6 i hlt hlt2)
    generalize l0_6[i]=xx at HN a_0 a_1 a_2
    generalize l1_6[i]=yy at HN b_0 b_1 b_2
    obtain⟨p0,p1,p2⟩:=xx
    obtain⟨r0,r1,r2⟩:=yy
    have Hc:Aside0 (eqInner ⟨p0,p1,p2⟩ ⟨r0,r1,r2⟩=(p0 == r0 && (p1 == r1 && p2 == r2))):=⟨rfl⟩
    have t1:=eq_true (show (i:Int) < (l0_6.length:Int) by omega)
    have t2:=eq_true (show (0:Int)≤(i:Int) by omega)
    have t3:=eq_true (show (i:Int) < (l1_6.length:Int) by omega)
    subst ea
    subst eb
    clear hlt hlt2 hrd0 hrd1
    go_wp2
    go_quiet (fail)
    obtain⟨nq1,rfl⟩:∃m:Nat,m=nq:=⟨_,rfl⟩
    have HAn:=Aside0.mk (show (wo.drewN nq1).heap[ga]? = _ from HA.out)
    have HBn:=Aside0.mk (show (wo.drewN nq1).heap[gb]? = _ from HB.out)
    have HWn:Aside0 (Below w.heap.size w (wo.drewN nq1)):=⟨by apply pw_below_drewN;exact HW.out⟩
    generalize wo.drewN nq1=w4 at HAn HBn HWn ⊢
    clear HA HB HW x6 y6 t1 t2 t3 a_0 b_0 a_1 b_1 a_2 b_2
    repeat rw [←Bool.not_and]
    generalize (p0 == r0 && (p1 == r1 && p2 == r2))=bb at Hc ⊢
    cases bb with
    | false=>
     have HX:Aside0 (rv=false):=⟨by rw [HRV.out,HS.out,HN.out,Hc.out];rfl⟩
     go_wp2
     go_ret
     exact⟨by rw [HX.out];rfl,HWn.out⟩
    | true=>
     go_wp2
     go_roundg (l0_6.length - (i+1))
     case measure=>have:=Hi.out;have:=HLT.out;omega
     case rel=>exact⟨i+1,by first|rfl|rw [show wrap64 ((i:Int)+1)=((i+1:Nat):Int) by have:=HLT.out;have:=HI6.out.1.2.2;unfold wrap64;omega],⟨HLT.out,Nat.le_refl _⟩,⟨by rw [HS.out,HN.out,Hc.out,Bool.true_and]⟩,HAn,HBn,HWn⟩
   have HRn : Aside0 (rv = true) := ⟨by rw [HRV.out, HS.out, List.drop_of_length_le (by omega), List.drop_of_length_le (by have := HLL6.out; omega)]; rfl⟩
   clear HRV
   have HRV:=HRn
   clear HRn
   have t1:=eq_false (show ¬(i:Int) < (l0_6.length:Int) by omega)
   clear hlt Hi HS
   go_wp2
   go_ret
   exact⟨by rw [HRV.out];rfl,HW.out⟩
end Go.Proofs.YtejpijgfpbcibaaGreat.P
