/- Words and walks of this claim: SCheck. -/
import Derived.Test.YtejpijgfpbcibaaGreatRMHasEtc
import Derived.Test.YtejpijgfpbcibaaGreatRP0Etc
set_option linter.unusedVariables false
set_option linter.unusedSimpArgs false
set_option linter.unnecessarySimpa false
namespace Go.Proofs.YtejpijgfpbcibaaGreat.P
open Go.RowKit Go.Proofs.YtejpijgfpbcibaaGreatW.PrintWords Go.Proofs.YtejpijgfpbcibaaGreatW.PrintLast Go.Proofs.YtejpijgfpbcibaaGreatW.PrintMore Go.Proofs.YtejpijgfpbcibaaGreat.M
def outB (n s:Int):Bool:=decide (s < 0) || decide (n≤s)
def isB (l:List S51) (k kind:Int):Bool:=decide (0≤k) && (decide (k < (l.length:Int)) && ((rd_T51 l k).f1 == kind))
theorem is_f (l:List S51) (k kind:Int):auto_is.f l k kind=some (isB l k kind):=by
 unfold auto_is.f isB
 by_cases h1:k≥0
 ·rw [if_pos h1, if_pos h1, decide_eq_true (show 0 ≤ k from h1)]
  by_cases h2:k < (l.length:Int)
  ·rw [if_pos h2, decide_eq_true h2]
   rfl
  rw [if_neg h2, decide_eq_false h2]
  rfl
 rw [if_neg h1, decide_eq_false (show ¬ 0 ≤ k from h1)]
 rfl
def badO (l:List S51) (n g:Int) (x:S36):Bool:=outB n x.f0 || (outB n x.f2 || (!(isB l x.f1 1) || (decide (x.f3 < 1) || decide (g < x.f3))))
def badC (l:List S51) (n g:Int) (x:S38):Bool:=outB n x.f0 || (outB n x.f3 || (!(isB l x.f1 2) || (decide (x.f2 < 0) || decide (g < x.f2))))
def badI (l:List S51) (n:Int) (x:S40):Bool:=outB n x.f0 || (outB n x.f2 || !(isB l x.f1 3))
set_option maxHeartbeats 4000000 in
set_option maxRecDepth 100000 in
theorem no_calls (s n:Int) (gb:Nat) (cs:Array Value) (w:World) (hb:w.heap[gb]? = some (.cells cs 30 (0,0))) (hc:cs[0]? = some (.int .i64 n)) :
 Calls Tryz.prog 31 #[.int .i64 s,.pointer (some ⟨gb,0,none⟩)] w fun e w'=>e=.returned (.bool (outB n s))∧w' = w:=by
 have c0:=(blk_cell hb 0).trans hc
 clear hb hc
 by_cases h1:s < 0
 ·have HO : Aside0 (outB n s = true) := ⟨by unfold outB; rw [decide_eq_true h1]; rfl⟩
  have t1:=eq_true h1
  have t2:=decide_eq_true h1
  rw [HO.out]
  clear h1 HO
  go_enter Tryz.func31,Tryz.ntmps31
  go_wp2
  go_ret
  exact⟨rfl,rfl⟩
 have HO : Aside0 (outB n s = decide (n ≤ s)) := ⟨by unfold outB; rw [decide_eq_false h1]; rfl⟩
 have t1:=eq_false h1
 have t2:=decide_eq_false h1
 rw [HO.out]
 clear h1 HO
 go_enter Tryz.func31,Tryz.ntmps31
 go_wp2
 go_ret
 exact⟨rfl,rfl⟩
set_option maxHeartbeats 4000000 in
set_option maxRecDepth 100000 in
theorem index_out (A:Option Addr) (c:Nat) (l:List Int) (n:Int) (gb:Nat) (cs:Array Value) (w:World) (hr:Kd.C (Kd.int .i64) w A l.length l) (hl:l.length≤1000000000) (hb:w.heap[gb]? = some (.cells cs 30 (0,0))) (hc:cs[0]? = some (.int .i64 n)) :
 Calls Tryz.prog 53 #[.slice A l.length c,.func (.func 31) #[] #[.pointer (some ⟨gb,0,none⟩)]] w fun e w'=>(∃i:Int,e=.returned (.int .i64 i)∧decide (0≤i)=l.any (outB n))∧Below w.heap.size w w':=by
 have HR:=Aside0.mk hr
 have HL:=Aside0.mk hl
 have HB:=Aside0.mk (And.intro hb hc)
 have HP:Aside0 (∀(e:Ending) (w' : World),(∃i:Int,e=.returned (.int .i64 i)∧decide (0≤i)=l.any (outB n))∧Below w.heap.size w w'→(∃i:Int,e=.returned (.int .i64 i)∧decide (0≤i)=l.any (outB n))∧Below w.heap.size w w'):=⟨fun _ _ h=>h⟩
 obtain⟨Q,hQ⟩:∃Q:Ending→World→Prop,Q=fun e w'=>(∃i:Int,e=.returned (.int .i64 i)∧decide (0≤i)=l.any (outB n))∧Below w.heap.size w w':=⟨_,rfl⟩
 show Calls _ _ _ _ (fun e w'=>(∃i:Int,e=.returned (.int .i64 i)∧decide (0≤i)=l.any (outB n))∧Below w.heap.size w w')
 rw [←hQ]
 have HQ:=Aside0.mk hQ
 clear hr hl hb hc HP hQ
 go_enter Tryz.func53,Tryz.ntmps53
 go_wp2
 go_loopg [8] l.length (fun gq v8 w'=>∃i:Nat,v8=.int .i64 (i:Int)∧Aside0 (i≤l.length∧l.length - i≤gq)∧Aside0 ((l.take i).any (outB n)=false)∧w' = w)
 case atStart=>exact⟨0,rfl,⟨by omega,by omega⟩,⟨by simp⟩,rfl⟩
 case' round=>skip
 obtain⟨i,rfl,Hi,Ha,rfl⟩:=hrel
 obtain⟨w,rfl⟩:∃w:World,w=wr:=⟨_,rfl⟩
 by_cases hlt:i < l.length
 ·have HLT := Aside0.mk hlt
  obtain⟨ad,eA,cx⟩:=int_at HR.out i hlt
  have Hn:Aside0 ((l.take (i+1)).any (outB n)=outB n l[i]):=⟨by rw [List.take_add_one,List.getElem?_eq_getElem hlt,List.any_append,Ha.out];simp⟩
  have Hm:Aside0 (outB n l[i]=true→l.any (outB n)=true):=⟨fun h=>List.any_eq_true.2 ⟨_,List.getElem_mem hlt,h⟩⟩
  generalize l[i]=x at cx Hn Hm
  have t1:=eq_true hlt
  have t2:=eq_true (show (0:Int)≤(i:Int) by omega)
  have t3:=eq_true (show (i:Int) < (l.length:Int) by omega)
  subst eA
  clear hlt
  go_wp2_with fail
  refine(no_calls x n gb cs _ HB.out.1 HB.out.2).mono ?_
  rintro e w1 ⟨rfl,rfl⟩
  cases hx:outB n x with
  | true=>
   have HX:=Aside0.mk (Hm.out hx)
   clear hx
   go_wp2
   rw [HQ.out]
   exact⟨⟨_,rfl,by rw [HX.out];exact decide_eq_true (by omega)⟩,Below.refl _ _⟩
  | false=>
   have HX:=Aside0.mk (Hn.out.trans hx)
   clear hx
   go_wp2
   go_roundg (l.length - (i+1))
   case measure=>have:=Hi.out;have:=HLT.out;omega
   case rel=>exact⟨i+1,by rw [show wrap64 ((i:Int)+1)=((i+1:Nat):Int) by have:=HLT.out;have:=HL.out;unfold wrap64;omega],⟨HLT.out,Nat.le_refl _⟩,HX,rfl⟩
 have HX : Aside0 (l.any (outB n) = false) := ⟨by have h := Ha.out; rw [List.take_of_length_le (by omega)] at h; exact h⟩
 have t1:=eq_false hlt
 clear hlt
 go_wp2
 rw [HQ.out]
 exact⟨⟨-1,rfl,by rw [HX.out];exact decide_eq_false (by omega)⟩,Below.refl _ _⟩
set_option maxHeartbeats 4000000 in
set_option maxRecDepth 100000 in
theorem contains_out (A:Option Addr) (c:Nat) (l:List Int) (n:Int) (gb:Nat) (cs:Array Value) (w:World) (hr:Kd.C (Kd.int .i64) w A l.length l) (hl:l.length≤1000000000) (hb:w.heap[gb]? = some (.cells cs 30 (0,0))) (hc:cs[0]? = some (.int .i64 n)) :
 Calls Tryz.prog 32 #[.slice A l.length c,.func (.func 31) #[] #[.pointer (some ⟨gb,0,none⟩)]] w fun e w'=>e=.returned (.bool (l.any (outB n)))∧Below w.heap.size w w':=by
 have HI:=Aside0.mk (index_out A c l n gb cs w hr hl hb hc)
 clear hr hl hb hc
 go_enter Tryz.func32,Tryz.ntmps32
 go_wp2_with fail
 refine HI.out.mono ?_
 rintro e w1 ⟨⟨i,rfl,hi⟩,hb1⟩
 have HB1:=Aside0.mk (And.intro hi hb1)
 clear hi hb1
 go_wp2
 go_ret
 exact⟨by rw [←HB1.out.1];rfl,HB1.out.2⟩
theorem take_any {α:Type} (p:α→Bool) (l:List α) (i:Nat) (h:i < l.length):(l.take (i+1)).any p=((l.take i).any p || p l[i]):=by
 rw [List.take_add_one,List.getElem?_eq_getElem h,List.any_append]
 simp
def bigA (n g:Int) (a b c:Nat):Bool:=decide (n < 0) || (decide (200 < n) || (decide (g < 0) || (decide (10000 < g) || decide (100000 < (a:Int)+b+c))))
def auto_Check.f (l0:List S51) (a1_0 a1_1:Int) (l1_2 l1_3:List Int) (l1_4:List S36) (l1_5:List S38) (l1_6:List S40):Option Int:=
 if l0.length≤1000000000∧l1_2.length≤1000000000∧l1_3.length≤1000000000∧l1_4.length≤1000000000∧l1_5.length≤1000000000∧l1_6.length≤1000000000 then
  some (if bigA a1_0 a1_1 l1_4.length l1_5.length l1_6.length then 9 else if ((((l1_2.any (outB a1_0) || l1_3.any (outB a1_0)) || l1_4.any (badO l0 a1_0 a1_1)) || l1_5.any (badC l0 a1_0 a1_1)) || l1_6.any (badI l0 a1_0))=true then 9 else 0) else none
set_option maxHeartbeats 16000000 in
set_option maxRecDepth 100000 in
theorem check_own (A0:Option Addr) (c0:Nat) (l0:List S51) (n g:Int) (A2:Option Addr) (c2:Nat) (l2:List Int) (A3:Option Addr) (c3:Nat) (l3:List Int) (A4:Option Addr) (c4:Nat) (l4:List S36) (A5:Option Addr) (c5:Nat) (l5:List S38) (A6:Option Addr) (c6:Nat) (l6:List S40) (w:World) (h0:Kd.C k51 w A0 l0.length l0) (hc0:l0.length≤c0) (hl0:l0.length≤1000000000) (h2:Kd.C (Kd.int .i64) w A2 l2.length l2) (hc2:l2.length≤c2) (hl2:l2.length≤1000000000) (h3:Kd.C (Kd.int .i64) w A3 l3.length l3) (hc3:l3.length≤c3) (hl3:l3.length≤1000000000) (h4:Kd.C k36 w A4 l4.length l4) (hc4:l4.length≤c4) (hl4:l4.length≤1000000000) (h5:Kd.C k38 w A5 l5.length l5) (hc5:l5.length≤c5) (hl5:l5.length≤1000000000) (h6:Kd.C k40 w A6 l6.length l6) (hc6:l6.length≤c6) (hl6:l6.length≤1000000000) :
 Calls Tryz.prog 15 #[.slice A0 l0.length c0,.agg #[.int .i64 n,.int .i64 g,.slice A2 l2.length c2,.slice A3 l3.length c3,.slice A4 l4.length c4,.slice A5 l5.length c5,.slice A6 l6.length c6]] w fun e w'=>e=.returned (.int .i64 (if bigA n g l4.length l5.length l6.length then 9 else if ((((l2.any (outB n) || l3.any (outB n)) || l4.any (badO l0 n g)) || l5.any (badC l0 n g)) || l6.any (badI l0 n))=true then 9 else 0))∧Below w.heap.size w w':=by
 obtain⟨rv,hrv⟩:∃rv:Int,rv=(if bigA n g l4.length l5.length l6.length then 9 else if ((((l2.any (outB n) || l3.any (outB n)) || l4.any (badO l0 n g)) || l5.any (badC l0 n g)) || l6.any (badI l0 n))=true then 9 else 0):=⟨_,rfl⟩
 rw [←hrv]
 have HRV:=Aside0.mk hrv
 have HI0:=Aside0.mk (And.intro h0 (And.intro hc0 hl0))
 have HI2:=Aside0.mk (And.intro h2 (And.intro hc2 hl2))
 have HI3:=Aside0.mk (And.intro h3 (And.intro hc3 hl3))
 have HI4:=Aside0.mk (And.intro h4 (And.intro hc4 hl4))
 have HI5:=Aside0.mk (And.intro h5 (And.intro hc5 hl5))
 have HI6:=Aside0.mk (And.intro h6 (And.intro hc6 hl6))
 have m4:(l4.length:Int)≤1000000000:=by omega
 have m5:(l5.length:Int)≤1000000000:=by omega
 have m6:(l6.length:Int)≤1000000000:=by omega
 clear hrv h0 hc0 hl0 h2 hc2 hl2 h3 hc3 hl3 h4 hc4 hl4 h5 hc5 hl5 h6 hc6 hl6
 obtain⟨B0,hB0⟩:∃B0,B0=(l2.any (outB n) || l3.any (outB n)):=⟨_,rfl⟩
 have HB0:=Aside0.mk hB0
 clear hB0
 by_cases q0:n < 0
 ·have HX : Aside0 (rv = 9) := ⟨by rw [HRV.out, show bigA n g l4.length l5.length l6.length = true by unfold bigA; simp [q0]]; rfl⟩
  have s0:=eq_true q0
  have d0:=decide_eq_true q0
  rw [HX.out]
  clear HRV HX q0
  go_enter Tryz.func15,Tryz.ntmps15
  go_wp2
  go_ret
  exact⟨rfl,below_alloc (Below.refl _ _) _⟩
 skip
 by_cases q1:200 < n
 ·have HX : Aside0 (rv = 9) := ⟨by rw [HRV.out, show bigA n g l4.length l5.length l6.length = true by unfold bigA; simp [q0, q1]]; rfl⟩
  have s0:=eq_false q0
  have d0:=decide_eq_false q0
  have s1:=eq_true q1
  have d1:=decide_eq_true q1
  rw [HX.out]
  clear HRV HX q0 q1
  go_enter Tryz.func15,Tryz.ntmps15
  go_wp2
  go_ret
  exact⟨rfl,below_alloc (Below.refl _ _) _⟩
 skip
 by_cases q2:g < 0
 ·have HX : Aside0 (rv = 9) := ⟨by rw [HRV.out, show bigA n g l4.length l5.length l6.length = true by unfold bigA; simp [q0, q1, q2]]; rfl⟩
  have s0:=eq_false q0
  have d0:=decide_eq_false q0
  have s1:=eq_false q1
  have d1:=decide_eq_false q1
  have s2:=eq_true q2
  have d2:=decide_eq_true q2
  rw [HX.out]
  clear HRV HX q0 q1 q2
  go_enter Tryz.func15,Tryz.ntmps15
  go_wp2
  go_ret
  exact⟨rfl,below_alloc (Below.refl _ _) _⟩
 skip
 by_cases q3:10000 < g
 ·have HX : Aside0 (rv = 9) := ⟨by rw [HRV.out, show bigA n g l4.length l5.length l6.length = true by unfold bigA; simp [q0, q1, q2, q3]]; rfl⟩
  have s0:=eq_false q0
  have d0:=decide_eq_false q0
  have s1:=eq_false q1
  have d1:=decide_eq_false q1
  have s2:=eq_false q2
  have d2:=decide_eq_false q2
  have s3:=eq_true q3
  have d3:=decide_eq_true q3
  rw [HX.out]
  clear HRV HX q0 q1 q2 q3
  go_enter Tryz.func15,Tryz.ntmps15
  go_wp2
  go_ret
  exact⟨rfl,below_alloc (Below.refl _ _) _⟩
 skip
 by_cases q4:100000 < (l4.length:Int)+(l5.length:Int)+(l6.length:Int)
 ·have HX : Aside0 (rv = 9) := ⟨by rw [HRV.out, show bigA n g l4.length l5.length l6.length = true by unfold bigA; simp [q0, q1, q2, q3, q4]]; rfl⟩
  have s0:=eq_false q0
  have d0:=decide_eq_false q0
  have s1:=eq_false q1
  have d1:=decide_eq_false q1
  have s2:=eq_false q2
  have d2:=decide_eq_false q2
  have s3:=eq_false q3
  have d3:=decide_eq_false q3
  have s4:=eq_true q4
  have d4:=decide_eq_true q4
  rw [HX.out]
  clear HRV HX q0 q1 q2 q3 q4
  go_enter Tryz.func15,Tryz.ntmps15
  go_wp2
  go_ret
  exact⟨rfl,below_alloc (Below.refl _ _) _⟩
 skip
 have HBG:Aside0 (bigA n g l4.length l5.length l6.length=false):=⟨by unfold bigA;simp [q0,q1,q2,q3,q4]<;>omega⟩
 have s0:=eq_false q0
 have d0:=decide_eq_false q0
 have s1:=eq_false q1
 have d1:=decide_eq_false q1
 have s2:=eq_false q2
 have d2:=decide_eq_false q2
 have s3:=eq_false q3
 have d3:=decide_eq_false q3
 have s4:=eq_false q4
 have d4:=decide_eq_false q4
 clear q0 q1 q2 q3 q4
 have H2:Aside0 ((w.alloc (.cells #[.int .i64 n,.int .i64 g,.slice A2 l2.length c2,.slice A3 l3.length c3,.slice A4 l4.length c4,.slice A5 l5.length c5,.slice A6 l6.length c6] 30)).heap[w.heap.size]? = some (.cells #[.int .i64 n,.int .i64 g,.slice A2 l2.length c2,.slice A3 l3.length c3,.slice A4 l4.length c4,.slice A5 l5.length c5,.slice A6 l6.length c6] 30 (0,0))):=⟨blk_newAt _ rfl⟩
 have HB:Aside0 (Below w.heap.size w (w.alloc (.cells #[.int .i64 n,.int .i64 g,.slice A2 l2.length c2,.slice A3 l3.length c3,.slice A4 l4.length c4,.slice A5 l5.length c5,.slice A6 l6.length c6] 30))):=⟨below_alloc (Below.refl _ _) _⟩
 go_enter Tryz.func15,Tryz.ntmps15
 go_upto_region 4 with (fail)
 generalize w.alloc (.cells #[.int .i64 n,.int .i64 g,.slice A2 l2.length c2,.slice A3 l3.length c3,.slice A4 l4.length c4,.slice A5 l5.length c5,.slice A6 l6.length c6] 30)=wb at H2 HB ⊢
 clear s0 d0 s1 d1 s2 d2 s3 d3 s4 d4
 go_cut [6] (fun v6 wc=>v6=.bool B0∧Aside0 (Below wb.heap.size wb wc))
 case first=>
  have b0:=(blk_cell H2.out 0).trans (show (#[.int .i64 n,.int .i64 g,.slice A2 l2.length c2,.slice A3 l3.length c3,.slice A4 l4.length c4,.slice A5 l5.length c5,.slice A6 l6.length c6]:Array Value)[0]? = some (.int .i64 n) from rfl)
  have b1:=(blk_cell H2.out 1).trans (show (#[.int .i64 n,.int .i64 g,.slice A2 l2.length c2,.slice A3 l3.length c3,.slice A4 l4.length c4,.slice A5 l5.length c5,.slice A6 l6.length c6]:Array Value)[1]? = some (.int .i64 g) from rfl)
  have b2:=(blk_cell H2.out 2).trans (show (#[.int .i64 n,.int .i64 g,.slice A2 l2.length c2,.slice A3 l3.length c3,.slice A4 l4.length c4,.slice A5 l5.length c5,.slice A6 l6.length c6]:Array Value)[2]? = some (.slice A2 l2.length c2) from rfl)
  have b3:=(blk_cell H2.out 3).trans (show (#[.int .i64 n,.int .i64 g,.slice A2 l2.length c2,.slice A3 l3.length c3,.slice A4 l4.length c4,.slice A5 l5.length c5,.slice A6 l6.length c6]:Array Value)[3]? = some (.slice A3 l3.length c3) from rfl)
  have b4:=(blk_cell H2.out 4).trans (show (#[.int .i64 n,.int .i64 g,.slice A2 l2.length c2,.slice A3 l3.length c3,.slice A4 l4.length c4,.slice A5 l5.length c5,.slice A6 l6.length c6]:Array Value)[4]? = some (.slice A4 l4.length c4) from rfl)
  have b5:=(blk_cell H2.out 5).trans (show (#[.int .i64 n,.int .i64 g,.slice A2 l2.length c2,.slice A3 l3.length c3,.slice A4 l4.length c4,.slice A5 l5.length c5,.slice A6 l6.length c6]:Array Value)[5]? = some (.slice A5 l5.length c5) from rfl)
  have b6:=(blk_cell H2.out 6).trans (show (#[.int .i64 n,.int .i64 g,.slice A2 l2.length c2,.slice A3 l3.length c3,.slice A4 l4.length c4,.slice A5 l5.length c5,.slice A6 l6.length c6]:Array Value)[6]? = some (.slice A6 l6.length c6) from rfl)
  by_cases hA:l2.any (outB n)=true
  ·have HX := Aside0.mk hA
   clear hA
   go_wp2_with fail
   refine(contains_out A2 c2 l2 n w.heap.size _ _ (Kd.C_below HI2.out.1 HB.out) HI2.out.2.2 H2.out rfl).mono ?_
   rintro e w1 ⟨rfl,hb1⟩
   rw [HX.out]
   have HB1:=Aside0.mk hb1
   clear hb1
   go_wp2
   go_meet
   case rel=>exact⟨by rw [HB0.out,HX.out];rfl,HB1⟩
  have HX := Aside0.mk (Bool.eq_false_iff.2 hA)
  clear hA
  go_wp2_with fail
  refine(contains_out A2 c2 l2 n w.heap.size _ _ (Kd.C_below HI2.out.1 HB.out) HI2.out.2.2 H2.out rfl).mono ?_
  rintro e w1 ⟨rfl,hb1⟩
  rw [HX.out]
  have HB1:=Aside0.mk hb1
  have H21:=Aside0.mk (blk_below H2.out hb1)
  clear b0 b1 b2 b3 b4 b5 b6 hb1
  have b0:=(blk_cell H21.out 0).trans (show (#[.int .i64 n,.int .i64 g,.slice A2 l2.length c2,.slice A3 l3.length c3,.slice A4 l4.length c4,.slice A5 l5.length c5,.slice A6 l6.length c6]:Array Value)[0]? = some (.int .i64 n) from rfl)
  have b1:=(blk_cell H21.out 1).trans (show (#[.int .i64 n,.int .i64 g,.slice A2 l2.length c2,.slice A3 l3.length c3,.slice A4 l4.length c4,.slice A5 l5.length c5,.slice A6 l6.length c6]:Array Value)[1]? = some (.int .i64 g) from rfl)
  have b2:=(blk_cell H21.out 2).trans (show (#[.int .i64 n,.int .i64 g,.slice A2 l2.length c2,.slice A3 l3.length c3,.slice A4 l4.length c4,.slice A5 l5.length c5,.slice A6 l6.length c6]:Array Value)[2]? = some (.slice A2 l2.length c2) from rfl)
  have b3:=(blk_cell H21.out 3).trans (show (#[.int .i64 n,.int .i64 g,.slice A2 l2.length c2,.slice A3 l3.length c3,.slice A4 l4.length c4,.slice A5 l5.length c5,.slice A6 l6.length c6]:Array Value)[3]? = some (.slice A3 l3.length c3) from rfl)
  have b4:=(blk_cell H21.out 4).trans (show (#[.int .i64 n,.int .i64 g,.slice A2 l2.length c2,.slice A3 l3.length c3,.slice A4 l4.length c4,.slice A5 l5.length c5,.slice A6 l6.length c6]:Array Value)[4]? = some (.slice A4 l4.length c4) from rfl)
  have b5:=(blk_cell H21.out 5).trans (show (#[.int .i64 n,.int .i64 g,.slice A2 l2.length c2,.slice A3 l3.length c3,.slice A4 l4.length c4,.slice A5 l5.length c5,.slice A6 l6.length c6]:Array Value)[5]? = some (.slice A5 l5.length c5) from rfl)
  have b6:=(blk_cell H21.out 6).trans (show (#[.int .i64 n,.int .i64 g,.slice A2 l2.length c2,.slice A3 l3.length c3,.slice A4 l4.length c4,.slice A5 l5.length c5,.slice A6 l6.length c6]:Array Value)[6]? = some (.slice A6 l6.length c6) from rfl)
  go_wp2_with fail
  refine(contains_out A3 c3 l3 n w.heap.size _ _ (Kd.C_below HI3.out.1 (below_then HB.out HB.out.size HB1.out)) HI3.out.2.2 H21.out rfl).mono ?_
  rintro e w2 ⟨rfl,hb2⟩
  have HB2:=Aside0.mk (below_then HB1.out HB1.out.size hb2)
  clear hb2
  go_wp2
  go_meet
  case rel=>exact⟨by rw [HB0.out,HX.out];rfl,HB2⟩
 case' rest=>skip
 obtain⟨rfl,HBc⟩:=hcut
 have HBx:=Aside0.mk (below_then HB.out HB.out.size HBc.out)
 have H2x:=Aside0.mk (blk_below H2.out HBc.out)
 clear HB H2 HBc
 obtain⟨wo,rfl⟩:∃wo:World,wo=wc:=⟨_,rfl⟩
 have b0:=(blk_cell H2x.out 0).trans (show (#[.int .i64 n,.int .i64 g,.slice A2 l2.length c2,.slice A3 l3.length c3,.slice A4 l4.length c4,.slice A5 l5.length c5,.slice A6 l6.length c6]:Array Value)[0]? = some (.int .i64 n) from rfl)
 have b1:=(blk_cell H2x.out 1).trans (show (#[.int .i64 n,.int .i64 g,.slice A2 l2.length c2,.slice A3 l3.length c3,.slice A4 l4.length c4,.slice A5 l5.length c5,.slice A6 l6.length c6]:Array Value)[1]? = some (.int .i64 g) from rfl)
 have b2:=(blk_cell H2x.out 2).trans (show (#[.int .i64 n,.int .i64 g,.slice A2 l2.length c2,.slice A3 l3.length c3,.slice A4 l4.length c4,.slice A5 l5.length c5,.slice A6 l6.length c6]:Array Value)[2]? = some (.slice A2 l2.length c2) from rfl)
 have b3:=(blk_cell H2x.out 3).trans (show (#[.int .i64 n,.int .i64 g,.slice A2 l2.length c2,.slice A3 l3.length c3,.slice A4 l4.length c4,.slice A5 l5.length c5,.slice A6 l6.length c6]:Array Value)[3]? = some (.slice A3 l3.length c3) from rfl)
 have b4:=(blk_cell H2x.out 4).trans (show (#[.int .i64 n,.int .i64 g,.slice A2 l2.length c2,.slice A3 l3.length c3,.slice A4 l4.length c4,.slice A5 l5.length c5,.slice A6 l6.length c6]:Array Value)[4]? = some (.slice A4 l4.length c4) from rfl)
 have b5:=(blk_cell H2x.out 5).trans (show (#[.int .i64 n,.int .i64 g,.slice A2 l2.length c2,.slice A3 l3.length c3,.slice A4 l4.length c4,.slice A5 l5.length c5,.slice A6 l6.length c6]:Array Value)[5]? = some (.slice A5 l5.length c5) from rfl)
 have b6:=(blk_cell H2x.out 6).trans (show (#[.int .i64 n,.int .i64 g,.slice A2 l2.length c2,.slice A3 l3.length c3,.slice A4 l4.length c4,.slice A5 l5.length c5,.slice A6 l6.length c6]:Array Value)[6]? = some (.slice A6 l6.length c6) from rfl)
 go_wp2
 go_loopg [6,59] l4.length (fun gq v6 v59 w'=>∃i:Nat,v59=.int .i64 (i:Int)∧v6=.bool (B0 || (l4.take i).any (badO l0 n g))∧Aside0 (i≤l4.length∧l4.length - i≤gq)∧Aside0 (Below w.heap.size w w')∧Aside0 (w'.heap[w.heap.size]? = some (.cells #[.int .i64 n,.int .i64 g,.slice A2 l2.length c2,.slice A3 l3.length c3,.slice A4 l4.length c4,.slice A5 l5.length c5,.slice A6 l6.length c6] 30 (0,0))))
 case atStart=>exact⟨0,rfl,by simp,⟨by omega,by omega⟩,HBx,H2x⟩
 case' round=>skip
 try clear HBx H2x
 clear b0 b1 b2 b3 b4 b5 b6
 obtain⟨i,rfl,rfl,Hi,HBx,H2x⟩:=hrel
 obtain⟨wo,rfl⟩:∃wo:World,wo=wr:=⟨_,rfl⟩
 by_cases hlt:i < l4.length
 ·have HLT := Aside0.mk hlt
  obtain⟨ad,eA,k0,k1,k2,k3⟩:=at_T36 (Kd.C_below HI4.out.1 HBx.out) (i:Int) (by omega) (by omega)
  have hrd:rd_T36 l4 (i:Int)=l4[i]:=by unfold rd_T36;rw [Int.toNat_natCast,List.getD_eq_getElem?_getD,List.getElem?_eq_getElem hlt];rfl
  rw [hrd,Int.toNat_natCast] at k0 k1 k2 k3
  have HN:=Aside0.mk (take_any (badO l0 n g) l4 i hlt)
  generalize l4[i]=x at HN k0 k1 k2 k3
  obtain⟨x0,x1,x2,x3⟩:=x
  clear hrd
  obtain⟨bb,hbb⟩:∃bb,bb=(B0 || (l4.take i).any (badO l0 n g)):=⟨_,rfl⟩
  rw [←hbb]
  have HBB:=Aside0.mk hbb
  clear hbb
  have HNX:Aside0 (∀v,(bb || badO l0 n g ⟨x0,x1,x2,x3⟩)=v→v=(B0 || (l4.take (i+1)).any (badO l0 n g))):=⟨fun v hv=>by rw [HN.out,←Bool.or_assoc,←HBB.out,hv]⟩
  have t1:=eq_true hlt
  have t2:=eq_true (show (0:Int)≤(i:Int) by omega)
  have t3:=eq_true (show (i:Int) < (l4.length:Int) by omega)
  subst eA
  clear hlt HN
  have HX1:Aside0 ((wo.alloc (.cells #[.int .i64 x0,.int .i64 x1,.int .i64 x2,.int .i64 x3] 36)).heap[wo.heap.size]? = some (.cells #[.int .i64 x0,.int .i64 x1,.int .i64 x2,.int .i64 x3] 36 (0,0))):=⟨blk_newAt _ rfl⟩
  have H21:Aside0 ((wo.alloc (.cells #[.int .i64 x0,.int .i64 x1,.int .i64 x2,.int .i64 x3] 36)).heap[w.heap.size]? = some (.cells #[.int .i64 n,.int .i64 g,.slice A2 l2.length c2,.slice A3 l3.length c3,.slice (some ad) l4.length c4,.slice A5 l5.length c5,.slice A6 l6.length c6] 30 (0,0))):=⟨blk_old H2x.out _⟩
  have HB1:Aside0 (Below w.heap.size w (wo.alloc (.cells #[.int .i64 x0,.int .i64 x1,.int .i64 x2,.int .i64 x3] 36))):=⟨below_alloc HBx.out _⟩
  have e0:=(blk_cell HX1.out 0).trans (show (#[Value.int .i64 x0,Value.int .i64 x1,Value.int .i64 x2,Value.int .i64 x3]:Array Value)[0]? = some (.int .i64 x0) from rfl)
  have e1:=(blk_cell HX1.out 1).trans (show (#[Value.int .i64 x0,Value.int .i64 x1,Value.int .i64 x2,Value.int .i64 x3]:Array Value)[1]? = some (.int .i64 x1) from rfl)
  have e2:=(blk_cell HX1.out 2).trans (show (#[Value.int .i64 x0,Value.int .i64 x1,Value.int .i64 x2,Value.int .i64 x3]:Array Value)[2]? = some (.int .i64 x2) from rfl)
  have e3:=(blk_cell HX1.out 3).trans (show (#[Value.int .i64 x0,Value.int .i64 x1,Value.int .i64 x2,Value.int .i64 x3]:Array Value)[3]? = some (.int .i64 x3) from rfl)
  have b1:=(blk_cell H21.out 1).trans (show (#[.int .i64 n,.int .i64 g,.slice A2 l2.length c2,.slice A3 l3.length c3,.slice (some ad) l4.length c4,.slice A5 l5.length c5,.slice A6 l6.length c6]:Array Value)[1]? = some (.int .i64 g) from rfl)
  cases bb with
  | true=>
   go_wp2
   go_roundg (l4.length - (i+1))
   case measure=>have:=Hi.out;have:=HLT.out;omega
   case rel=>exact⟨i+1,by rw [show wrap64 ((i:Int)+1)=((i+1:Nat):Int) by have:=HLT.out;have:=HI4.out;unfold wrap64;omega],congrArg Value.bool (HNX.out _ (Bool.true_or _)),⟨HLT.out,Nat.le_refl _⟩,HB1,H21⟩
  | false=>
   go_wp2_with fail
   refine(no_calls x0 n w.heap.size _ _ H21.out rfl).mono ?_
   rintro e w1 ⟨rfl,rfl⟩
   by_cases r0:outB n x0=true
   ·have HR0 := Aside0.mk r0
    rw [HR0.out]
    clear r0
    go_wp2
    go_roundg (l4.length - (i+1))
    case measure=>have:=Hi.out;have:=HLT.out;omega
    case rel=>exact⟨i+1,by rw [show wrap64 ((i:Int)+1)=((i+1:Nat):Int) by have:=HLT.out;have:=HI4.out;unfold wrap64;omega],congrArg Value.bool (HNX.out _ (by unfold badO;simp [HR0.out])),⟨HLT.out,Nat.le_refl _⟩,HB1,H21⟩
   skip
   have HR0:=Aside0.mk (Bool.eq_false_iff.2 r0)
   rw [HR0.out]
   clear r0
   go_wp2_with fail
   refine(no_calls x2 n w.heap.size _ _ H21.out rfl).mono ?_
   rintro e w2 ⟨rfl,rfl⟩
   by_cases r1:outB n x2=true
   ·have HR1 := Aside0.mk r1
    rw [HR1.out]
    clear r1
    go_wp2
    go_roundg (l4.length - (i+1))
    case measure=>have:=Hi.out;have:=HLT.out;omega
    case rel=>exact⟨i+1,by rw [show wrap64 ((i:Int)+1)=((i+1:Nat):Int) by have:=HLT.out;have:=HI4.out;unfold wrap64;omega],congrArg Value.bool (HNX.out _ (by unfold badO;simp [HR0.out,HR1.out])),⟨HLT.out,Nat.le_refl _⟩,HB1,H21⟩
   skip
   have HR1:=Aside0.mk (Bool.eq_false_iff.2 r1)
   rw [HR1.out]
   clear r1
   go_wp2_with fail
   refine(auto_is.calls A0 c0 l0 x1 1 (isB l0 x1 1) _ (Kd.C_below HI0.out.1 HB1.out) HI0.out.2.1 (is_f _ _ _)).mono ?_
   rintro e w3 ⟨rfl,hd⟩
   have HX1n:=Aside0.mk (blk_below HX1.out hd.below)
   have H21n:=Aside0.mk (blk_below H21.out hd.below)
   have HB1n:=Aside0.mk (below_then HB1.out HB1.out.size hd.below)
   clear hd HX1 H21 HB1 b1 e0 e1 e2 e3
   have HX1:=HX1n
   have H21:=H21n
   have HB1:=HB1n
   clear HX1n H21n HB1n
   have e0:=(blk_cell HX1.out 0).trans (show (#[Value.int .i64 x0,Value.int .i64 x1,Value.int .i64 x2,Value.int .i64 x3]:Array Value)[0]? = some (.int .i64 x0) from rfl)
   have e1:=(blk_cell HX1.out 1).trans (show (#[Value.int .i64 x0,Value.int .i64 x1,Value.int .i64 x2,Value.int .i64 x3]:Array Value)[1]? = some (.int .i64 x1) from rfl)
   have e2:=(blk_cell HX1.out 2).trans (show (#[Value.int .i64 x0,Value.int .i64 x1,Value.int .i64 x2,Value.int .i64 x3]:Array Value)[2]? = some (.int .i64 x2) from rfl)
   have e3:=(blk_cell HX1.out 3).trans (show (#[Value.int .i64 x0,Value.int .i64 x1,Value.int .i64 x2,Value.int .i64 x3]:Array Value)[3]? = some (.int .i64 x3) from rfl)
   have b1:=(blk_cell H21.out 1).trans (show (#[.int .i64 n,.int .i64 g,.slice A2 l2.length c2,.slice A3 l3.length c3,.slice (some ad) l4.length c4,.slice A5 l5.length c5,.slice A6 l6.length c6]:Array Value)[1]? = some (.int .i64 g) from rfl)
   by_cases r2:isB l0 x1 1=true
   ·skip
    have HR2:=Aside0.mk r2
    rw [HR2.out]
    clear r2
    by_cases r3:x3 < 1
    ·have HR3 : Aside0 (decide (x3 < 1) = true) := ⟨decide_eq_true r3⟩
     have u3:=eq_true r3
     have z3:=decide_eq_true r3
     clear r3
     go_wp2
     go_roundg (l4.length - (i+1))
     case measure=>have:=Hi.out;have:=HLT.out;omega
     case rel=>exact⟨i+1,by rw [show wrap64 ((i:Int)+1)=((i+1:Nat):Int) by have:=HLT.out;have:=HI4.out;unfold wrap64;omega],congrArg Value.bool (HNX.out _ (by unfold badO;simp [HR0.out,HR1.out,HR2.out,of_decide_eq_true HR3.out];try omega)),⟨HLT.out,Nat.le_refl _⟩,HB1,H21⟩
    have HR3 : Aside0 (decide (x3 < 1) = false) := ⟨decide_eq_false r3⟩
    have u3:=eq_false r3
    have z3:=decide_eq_false r3
    clear r3
    by_cases r4:g < x3
    ·have HR4 : Aside0 (decide (g < x3) = true) := ⟨decide_eq_true r4⟩
     have u4:=eq_true r4
     have z4:=decide_eq_true r4
     clear r4
     go_wp2
     go_roundg (l4.length - (i+1))
     case measure=>have:=Hi.out;have:=HLT.out;omega
     case rel=>exact⟨i+1,by rw [show wrap64 ((i:Int)+1)=((i+1:Nat):Int) by have:=HLT.out;have:=HI4.out;unfold wrap64;omega],congrArg Value.bool (HNX.out _ (by unfold badO;simp [HR0.out,HR1.out,HR2.out,HR3.out,of_decide_eq_true HR4.out];try omega)),⟨HLT.out,Nat.le_refl _⟩,HB1,H21⟩
    have HR4 : Aside0 (decide (g < x3) = false) := ⟨decide_eq_false r4⟩
    have u4:=eq_false r4
    have z4:=decide_eq_false r4
    clear r4
    go_wp2
    go_roundg (l4.length - (i+1))
    case measure=>have:=Hi.out;have:=HLT.out;omega
    case rel=>exact⟨i+1,by rw [show wrap64 ((i:Int)+1)=((i+1:Nat):Int) by have:=HLT.out;have:=HI4.out;unfold wrap64;omega],congrArg Value.bool (HNX.out _ (by unfold badO;simp [HR0.out,HR1.out,HR2.out];first|done|(constructor<;>(have:=of_decide_eq_false HR3.out;have:=of_decide_eq_false HR4.out;omega)))),⟨HLT.out,Nat.le_refl _⟩,HB1,H21⟩
   have HR2 := Aside0.mk (Bool.eq_false_iff.2 r2)
   rw [HR2.out]
   clear r2
   go_wp2
   go_roundg (l4.length - (i+1))
   case measure=>have:=Hi.out;have:=HLT.out;omega
   case rel=>exact⟨i+1,by rw [show wrap64 ((i:Int)+1)=((i+1:Nat):Int) by have:=HLT.out;have:=HI4.out;unfold wrap64;omega],congrArg Value.bool (HNX.out _ (by unfold badO;simp [HR0.out,HR1.out,HR2.out])),⟨HLT.out,Nat.le_refl _⟩,HB1,H21⟩
 have t1 := eq_false hlt
 have e4:l4.take i=l4:=List.take_of_length_le (by omega)
 rw [e4]
 clear hlt e4
 have b0:=(blk_cell H2x.out 0).trans (show (#[.int .i64 n,.int .i64 g,.slice A2 l2.length c2,.slice A3 l3.length c3,.slice A4 l4.length c4,.slice A5 l5.length c5,.slice A6 l6.length c6]:Array Value)[0]? = some (.int .i64 n) from rfl)
 have b1:=(blk_cell H2x.out 1).trans (show (#[.int .i64 n,.int .i64 g,.slice A2 l2.length c2,.slice A3 l3.length c3,.slice A4 l4.length c4,.slice A5 l5.length c5,.slice A6 l6.length c6]:Array Value)[1]? = some (.int .i64 g) from rfl)
 have b2:=(blk_cell H2x.out 2).trans (show (#[.int .i64 n,.int .i64 g,.slice A2 l2.length c2,.slice A3 l3.length c3,.slice A4 l4.length c4,.slice A5 l5.length c5,.slice A6 l6.length c6]:Array Value)[2]? = some (.slice A2 l2.length c2) from rfl)
 have b3:=(blk_cell H2x.out 3).trans (show (#[.int .i64 n,.int .i64 g,.slice A2 l2.length c2,.slice A3 l3.length c3,.slice A4 l4.length c4,.slice A5 l5.length c5,.slice A6 l6.length c6]:Array Value)[3]? = some (.slice A3 l3.length c3) from rfl)
 have b4:=(blk_cell H2x.out 4).trans (show (#[.int .i64 n,.int .i64 g,.slice A2 l2.length c2,.slice A3 l3.length c3,.slice A4 l4.length c4,.slice A5 l5.length c5,.slice A6 l6.length c6]:Array Value)[4]? = some (.slice A4 l4.length c4) from rfl)
 have b5:=(blk_cell H2x.out 5).trans (show (#[.int .i64 n,.int .i64 g,.slice A2 l2.length c2,.slice A3 l3.length c3,.slice A4 l4.length c4,.slice A5 l5.length c5,.slice A6 l6.length c6]:Array Value)[5]? = some (.slice A5 l5.length c5) from rfl)
 have b6:=(blk_cell H2x.out 6).trans (show (#[.int .i64 n,.int .i64 g,.slice A2 l2.length c2,.slice A3 l3.length c3,.slice A4 l4.length c4,.slice A5 l5.length c5,.slice A6 l6.length c6]:Array Value)[6]? = some (.slice A6 l6.length c6) from rfl)
 obtain⟨B1,hB1⟩:∃B1,B1=(B0 || l4.any (badO l0 n g)):=⟨_,rfl⟩
 rw [←hB1]
 have HB1_:=Aside0.mk hB1
 clear hB1
 go_wp2
 clear t1 Hi
 go_loopg [6,99] l5.length (fun gq v6 v99 w'=>∃i:Nat,v99=.int .i64 (i:Int)∧v6=.bool (B1 || (l5.take i).any (badC l0 n g))∧Aside0 (i≤l5.length∧l5.length - i≤gq)∧Aside0 (Below w.heap.size w w')∧Aside0 (w'.heap[w.heap.size]? = some (.cells #[.int .i64 n,.int .i64 g,.slice A2 l2.length c2,.slice A3 l3.length c3,.slice A4 l4.length c4,.slice A5 l5.length c5,.slice A6 l6.length c6] 30 (0,0))))
 case atStart=>exact⟨0,rfl,by simp,⟨by omega,by omega⟩,HBx,H2x⟩
 case' round=>skip
 try clear HBx H2x
 clear b0 b1 b2 b3 b4 b5 b6
 obtain⟨i,rfl,rfl,Hi,HBx,H2x⟩:=hrel
 obtain⟨wo,rfl⟩:∃wo:World,wo=wr:=⟨_,rfl⟩
 by_cases hlt:i < l5.length
 ·have HLT := Aside0.mk hlt
  obtain⟨ad,eA,k0,k1,k2,k3⟩:=at_T38 (Kd.C_below HI5.out.1 HBx.out) (i:Int) (by omega) (by omega)
  have hrd:rd_T38 l5 (i:Int)=l5[i]:=by unfold rd_T38;rw [Int.toNat_natCast,List.getD_eq_getElem?_getD,List.getElem?_eq_getElem hlt];rfl
  rw [hrd,Int.toNat_natCast] at k0 k1 k2 k3
  have HN:=Aside0.mk (take_any (badC l0 n g) l5 i hlt)
  generalize l5[i]=x at HN k0 k1 k2 k3
  obtain⟨x0,x1,x2,x3⟩:=x
  clear hrd
  obtain⟨bb,hbb⟩:∃bb,bb=(B1 || (l5.take i).any (badC l0 n g)):=⟨_,rfl⟩
  rw [←hbb]
  have HBB:=Aside0.mk hbb
  clear hbb
  have HNX:Aside0 (∀v,(bb || badC l0 n g ⟨x0,x1,x2,x3⟩)=v→v=(B1 || (l5.take (i+1)).any (badC l0 n g))):=⟨fun v hv=>by rw [HN.out,←Bool.or_assoc,←HBB.out,hv]⟩
  have t1:=eq_true hlt
  have t2:=eq_true (show (0:Int)≤(i:Int) by omega)
  have t3:=eq_true (show (i:Int) < (l5.length:Int) by omega)
  subst eA
  clear hlt HN
  have HX1:Aside0 ((wo.alloc (.cells #[.int .i64 x0,.int .i64 x1,.int .i64 x2,.int .i64 x3] 38)).heap[wo.heap.size]? = some (.cells #[.int .i64 x0,.int .i64 x1,.int .i64 x2,.int .i64 x3] 38 (0,0))):=⟨blk_newAt _ rfl⟩
  have H21:Aside0 ((wo.alloc (.cells #[.int .i64 x0,.int .i64 x1,.int .i64 x2,.int .i64 x3] 38)).heap[w.heap.size]? = some (.cells #[.int .i64 n,.int .i64 g,.slice A2 l2.length c2,.slice A3 l3.length c3,.slice A4 l4.length c4,.slice (some ad) l5.length c5,.slice A6 l6.length c6] 30 (0,0))):=⟨blk_old H2x.out _⟩
  have HB1:Aside0 (Below w.heap.size w (wo.alloc (.cells #[.int .i64 x0,.int .i64 x1,.int .i64 x2,.int .i64 x3] 38))):=⟨below_alloc HBx.out _⟩
  have e0:=(blk_cell HX1.out 0).trans (show (#[Value.int .i64 x0,Value.int .i64 x1,Value.int .i64 x2,Value.int .i64 x3]:Array Value)[0]? = some (.int .i64 x0) from rfl)
  have e1:=(blk_cell HX1.out 1).trans (show (#[Value.int .i64 x0,Value.int .i64 x1,Value.int .i64 x2,Value.int .i64 x3]:Array Value)[1]? = some (.int .i64 x1) from rfl)
  have e2:=(blk_cell HX1.out 2).trans (show (#[Value.int .i64 x0,Value.int .i64 x1,Value.int .i64 x2,Value.int .i64 x3]:Array Value)[2]? = some (.int .i64 x2) from rfl)
  have e3:=(blk_cell HX1.out 3).trans (show (#[Value.int .i64 x0,Value.int .i64 x1,Value.int .i64 x2,Value.int .i64 x3]:Array Value)[3]? = some (.int .i64 x3) from rfl)
  have b1:=(blk_cell H21.out 1).trans (show (#[.int .i64 n,.int .i64 g,.slice A2 l2.length c2,.slice A3 l3.length c3,.slice A4 l4.length c4,.slice (some ad) l5.length c5,.slice A6 l6.length c6]:Array Value)[1]? = some (.int .i64 g) from rfl)
  cases bb with
  | true=>
   go_wp2
   go_roundg (l5.length - (i+1))
   case measure=>have:=Hi.out;have:=HLT.out;omega
   case rel=>exact⟨i+1,by rw [show wrap64 ((i:Int)+1)=((i+1:Nat):Int) by have:=HLT.out;have:=HI5.out;unfold wrap64;omega],congrArg Value.bool (HNX.out _ (Bool.true_or _)),⟨HLT.out,Nat.le_refl _⟩,HB1,H21⟩
  | false=>
   go_wp2_with fail
   refine(no_calls x0 n w.heap.size _ _ H21.out rfl).mono ?_
   rintro e w1 ⟨rfl,rfl⟩
   by_cases r0:outB n x0=true
   ·have HR0 := Aside0.mk r0
    rw [HR0.out]
    clear r0
    go_wp2
    go_roundg (l5.length - (i+1))
    case measure=>have:=Hi.out;have:=HLT.out;omega
    case rel=>exact⟨i+1,by rw [show wrap64 ((i:Int)+1)=((i+1:Nat):Int) by have:=HLT.out;have:=HI5.out;unfold wrap64;omega],congrArg Value.bool (HNX.out _ (by unfold badC;simp [HR0.out])),⟨HLT.out,Nat.le_refl _⟩,HB1,H21⟩
   skip
   have HR0:=Aside0.mk (Bool.eq_false_iff.2 r0)
   rw [HR0.out]
   clear r0
   go_wp2_with fail
   refine(no_calls x3 n w.heap.size _ _ H21.out rfl).mono ?_
   rintro e w2 ⟨rfl,rfl⟩
   by_cases r1:outB n x3=true
   ·have HR1 := Aside0.mk r1
    rw [HR1.out]
    clear r1
    go_wp2
    go_roundg (l5.length - (i+1))
    case measure=>have:=Hi.out;have:=HLT.out;omega
    case rel=>exact⟨i+1,by rw [show wrap64 ((i:Int)+1)=((i+1:Nat):Int) by have:=HLT.out;have:=HI5.out;unfold wrap64;omega],congrArg Value.bool (HNX.out _ (by unfold badC;simp [HR0.out,HR1.out])),⟨HLT.out,Nat.le_refl _⟩,HB1,H21⟩
   skip
   have HR1:=Aside0.mk (Bool.eq_false_iff.2 r1)
   rw [HR1.out]
   clear r1
   go_wp2_with fail
   refine(auto_is.calls A0 c0 l0 x1 2 (isB l0 x1 2) _ (Kd.C_below HI0.out.1 HB1.out) HI0.out.2.1 (is_f _ _ _)).mono ?_
   rintro e w3 ⟨rfl,hd⟩
   have HX1n:=Aside0.mk (blk_below HX1.out hd.below)
   have H21n:=Aside0.mk (blk_below H21.out hd.below)
   have HB1n:=Aside0.mk (below_then HB1.out HB1.out.size hd.below)
   clear hd HX1 H21 HB1 b1 e0 e1 e2 e3
   have HX1:=HX1n
   have H21:=H21n
   have HB1:=HB1n
   clear HX1n H21n HB1n
   have e0:=(blk_cell HX1.out 0).trans (show (#[Value.int .i64 x0,Value.int .i64 x1,Value.int .i64 x2,Value.int .i64 x3]:Array Value)[0]? = some (.int .i64 x0) from rfl)
   have e1:=(blk_cell HX1.out 1).trans (show (#[Value.int .i64 x0,Value.int .i64 x1,Value.int .i64 x2,Value.int .i64 x3]:Array Value)[1]? = some (.int .i64 x1) from rfl)
   have e2:=(blk_cell HX1.out 2).trans (show (#[Value.int .i64 x0,Value.int .i64 x1,Value.int .i64 x2,Value.int .i64 x3]:Array Value)[2]? = some (.int .i64 x2) from rfl)
   have e3:=(blk_cell HX1.out 3).trans (show (#[Value.int .i64 x0,Value.int .i64 x1,Value.int .i64 x2,Value.int .i64 x3]:Array Value)[3]? = some (.int .i64 x3) from rfl)
   have b1:=(blk_cell H21.out 1).trans (show (#[.int .i64 n,.int .i64 g,.slice A2 l2.length c2,.slice A3 l3.length c3,.slice A4 l4.length c4,.slice (some ad) l5.length c5,.slice A6 l6.length c6]:Array Value)[1]? = some (.int .i64 g) from rfl)
   by_cases r2:isB l0 x1 2=true
   ·skip
    have HR2:=Aside0.mk r2
    rw [HR2.out]
    clear r2
    by_cases r3:x2 < 0
    ·have HR3 : Aside0 (decide (x2 < 0) = true) := ⟨decide_eq_true r3⟩
     have u3:=eq_true r3
     have z3:=decide_eq_true r3
     clear r3
     go_wp2
     go_roundg (l5.length - (i+1))
     case measure=>have:=Hi.out;have:=HLT.out;omega
     case rel=>exact⟨i+1,by rw [show wrap64 ((i:Int)+1)=((i+1:Nat):Int) by have:=HLT.out;have:=HI5.out;unfold wrap64;omega],congrArg Value.bool (HNX.out _ (by unfold badC;simp [HR0.out,HR1.out,HR2.out,of_decide_eq_true HR3.out];try omega)),⟨HLT.out,Nat.le_refl _⟩,HB1,H21⟩
    have HR3 : Aside0 (decide (x2 < 0) = false) := ⟨decide_eq_false r3⟩
    have u3:=eq_false r3
    have z3:=decide_eq_false r3
    clear r3
    by_cases r4:g < x2
    ·have HR4 : Aside0 (decide (g < x2) = true) := ⟨decide_eq_true r4⟩
     have u4:=eq_true r4
     have z4:=decide_eq_true r4
     clear r4
     go_wp2
     go_roundg (l5.length - (i+1))
     case measure=>have:=Hi.out;have:=HLT.out;omega
     case rel=>exact⟨i+1,by rw [show wrap64 ((i:Int)+1)=((i+1:Nat):Int) by have:=HLT.out;have:=HI5.out;unfold wrap64;omega],congrArg Value.bool (HNX.out _ (by unfold badC;simp [HR0.out,HR1.out,HR2.out,HR3.out,of_decide_eq_true HR4.out];try omega)),⟨HLT.out,Nat.le_refl _⟩,HB1,H21⟩
    have HR4 : Aside0 (decide (g < x2) = false) := ⟨decide_eq_false r4⟩
    have u4:=eq_false r4
    have z4:=decide_eq_false r4
    clear r4
    go_wp2
    go_roundg (l5.length - (i+1))
    case measure=>have:=Hi.out;have:=HLT.out;omega
    case rel=>exact⟨i+1,by rw [show wrap64 ((i:Int)+1)=((i+1:Nat):Int) by have:=HLT.out;have:=HI5.out;unfold wrap64;omega],congrArg Value.bool (HNX.out _ (by unfold badC;simp [HR0.out,HR1.out,HR2.out];first|done|(constructor<;>(have:=of_decide_eq_false HR3.out;have:=of_decide_eq_false HR4.out;omega)))),⟨HLT.out,Nat.le_refl _⟩,HB1,H21⟩
   have HR2 := Aside0.mk (Bool.eq_false_iff.2 r2)
   rw [HR2.out]
   clear r2
   go_wp2
   go_roundg (l5.length - (i+1))
   case measure=>have:=Hi.out;have:=HLT.out;omega
   case rel=>exact⟨i+1,by rw [show wrap64 ((i:Int)+1)=((i+1:Nat):Int) by have:=HLT.out;have:=HI5.out;unfold wrap64;omega],congrArg Value.bool (HNX.out _ (by unfold badC;simp [HR0.out,HR1.out,HR2.out])),⟨HLT.out,Nat.le_refl _⟩,HB1,H21⟩
 have t1 := eq_false hlt
 have e4:l5.take i=l5:=List.take_of_length_le (by omega)
 rw [e4]
 clear hlt e4
 have b0:=(blk_cell H2x.out 0).trans (show (#[.int .i64 n,.int .i64 g,.slice A2 l2.length c2,.slice A3 l3.length c3,.slice A4 l4.length c4,.slice A5 l5.length c5,.slice A6 l6.length c6]:Array Value)[0]? = some (.int .i64 n) from rfl)
 have b1:=(blk_cell H2x.out 1).trans (show (#[.int .i64 n,.int .i64 g,.slice A2 l2.length c2,.slice A3 l3.length c3,.slice A4 l4.length c4,.slice A5 l5.length c5,.slice A6 l6.length c6]:Array Value)[1]? = some (.int .i64 g) from rfl)
 have b2:=(blk_cell H2x.out 2).trans (show (#[.int .i64 n,.int .i64 g,.slice A2 l2.length c2,.slice A3 l3.length c3,.slice A4 l4.length c4,.slice A5 l5.length c5,.slice A6 l6.length c6]:Array Value)[2]? = some (.slice A2 l2.length c2) from rfl)
 have b3:=(blk_cell H2x.out 3).trans (show (#[.int .i64 n,.int .i64 g,.slice A2 l2.length c2,.slice A3 l3.length c3,.slice A4 l4.length c4,.slice A5 l5.length c5,.slice A6 l6.length c6]:Array Value)[3]? = some (.slice A3 l3.length c3) from rfl)
 have b4:=(blk_cell H2x.out 4).trans (show (#[.int .i64 n,.int .i64 g,.slice A2 l2.length c2,.slice A3 l3.length c3,.slice A4 l4.length c4,.slice A5 l5.length c5,.slice A6 l6.length c6]:Array Value)[4]? = some (.slice A4 l4.length c4) from rfl)
 have b5:=(blk_cell H2x.out 5).trans (show (#[.int .i64 n,.int .i64 g,.slice A2 l2.length c2,.slice A3 l3.length c3,.slice A4 l4.length c4,.slice A5 l5.length c5,.slice A6 l6.length c6]:Array Value)[5]? = some (.slice A5 l5.length c5) from rfl)
 have b6:=(blk_cell H2x.out 6).trans (show (#[.int .i64 n,.int .i64 g,.slice A2 l2.length c2,.slice A3 l3.length c3,.slice A4 l4.length c4,.slice A5 l5.length c5,.slice A6 l6.length c6]:Array Value)[6]? = some (.slice A6 l6.length c6) from rfl)
 obtain⟨B2,hB2⟩:∃B2,B2=(B1 || l5.any (badC l0 n g)):=⟨_,rfl⟩
 rw [←hB2]
 have HB2_:=Aside0.mk hB2
 clear hB2
 go_wp2
 clear t1 Hi
 go_loopg [6,139] l6.length (fun gq v6 v139 w'=>∃i:Nat,v139=.int .i64 (i:Int)∧v6=.bool (B2 || (l6.take i).any (badI l0 n))∧Aside0 (i≤l6.length∧l6.length - i≤gq)∧Aside0 (Below w.heap.size w w')∧Aside0 (w'.heap[w.heap.size]? = some (.cells #[.int .i64 n,.int .i64 g,.slice A2 l2.length c2,.slice A3 l3.length c3,.slice A4 l4.length c4,.slice A5 l5.length c5,.slice A6 l6.length c6] 30 (0,0))))
 case atStart=>exact⟨0,rfl,by simp,⟨by omega,by omega⟩,HBx,H2x⟩
 case' round=>skip
 try clear HBx H2x
 clear b0 b1 b2 b3 b4 b5 b6
 obtain⟨i,rfl,rfl,Hi,HBx,H2x⟩:=hrel
 obtain⟨wo,rfl⟩:∃wo:World,wo=wr:=⟨_,rfl⟩
 by_cases hlt:i < l6.length
 ·have HLT := Aside0.mk hlt
  obtain⟨ad,eA,k0,k1,k2⟩:=at_T40 (Kd.C_below HI6.out.1 HBx.out) (i:Int) (by omega) (by omega)
  have hrd:rd_T40 l6 (i:Int)=l6[i]:=by unfold rd_T40;rw [Int.toNat_natCast,List.getD_eq_getElem?_getD,List.getElem?_eq_getElem hlt];rfl
  rw [hrd,Int.toNat_natCast] at k0 k1 k2
  have HN:=Aside0.mk (take_any (badI l0 n) l6 i hlt)
  generalize l6[i]=x at HN k0 k1 k2
  obtain⟨x0,x1,x2⟩:=x
  clear hrd
  obtain⟨bb,hbb⟩:∃bb,bb=(B2 || (l6.take i).any (badI l0 n)):=⟨_,rfl⟩
  rw [←hbb]
  have HBB:=Aside0.mk hbb
  clear hbb
  have HNX:Aside0 (∀v,(bb || badI l0 n ⟨x0,x1,x2⟩)=v→v=(B2 || (l6.take (i+1)).any (badI l0 n))):=⟨fun v hv=>by rw [HN.out,←Bool.or_assoc,←HBB.out,hv]⟩
  have t1:=eq_true hlt
  have t2:=eq_true (show (0:Int)≤(i:Int) by omega)
  have t3:=eq_true (show (i:Int) < (l6.length:Int) by omega)
  subst eA
  clear hlt HN
  have HX1:Aside0 ((wo.alloc (.cells #[.int .i64 x0,.int .i64 x1,.int .i64 x2] 40)).heap[wo.heap.size]? = some (.cells #[.int .i64 x0,.int .i64 x1,.int .i64 x2] 40 (0,0))):=⟨blk_newAt _ rfl⟩
  have H21:Aside0 ((wo.alloc (.cells #[.int .i64 x0,.int .i64 x1,.int .i64 x2] 40)).heap[w.heap.size]? = some (.cells #[.int .i64 n,.int .i64 g,.slice A2 l2.length c2,.slice A3 l3.length c3,.slice A4 l4.length c4,.slice A5 l5.length c5,.slice (some ad) l6.length c6] 30 (0,0))):=⟨blk_old H2x.out _⟩
  have HB1:Aside0 (Below w.heap.size w (wo.alloc (.cells #[.int .i64 x0,.int .i64 x1,.int .i64 x2] 40))):=⟨below_alloc HBx.out _⟩
  have e0:=(blk_cell HX1.out 0).trans (show (#[Value.int .i64 x0,Value.int .i64 x1,Value.int .i64 x2]:Array Value)[0]? = some (.int .i64 x0) from rfl)
  have e1:=(blk_cell HX1.out 1).trans (show (#[Value.int .i64 x0,Value.int .i64 x1,Value.int .i64 x2]:Array Value)[1]? = some (.int .i64 x1) from rfl)
  have e2:=(blk_cell HX1.out 2).trans (show (#[Value.int .i64 x0,Value.int .i64 x1,Value.int .i64 x2]:Array Value)[2]? = some (.int .i64 x2) from rfl)
  have b1:=(blk_cell H21.out 1).trans (show (#[.int .i64 n,.int .i64 g,.slice A2 l2.length c2,.slice A3 l3.length c3,.slice A4 l4.length c4,.slice A5 l5.length c5,.slice (some ad) l6.length c6]:Array Value)[1]? = some (.int .i64 g) from rfl)
  cases bb with
  | true=>
   go_wp2
   go_roundg (l6.length - (i+1))
   case measure=>have:=Hi.out;have:=HLT.out;omega
   case rel=>exact⟨i+1,by rw [show wrap64 ((i:Int)+1)=((i+1:Nat):Int) by have:=HLT.out;have:=HI6.out;unfold wrap64;omega],congrArg Value.bool (HNX.out _ (Bool.true_or _)),⟨HLT.out,Nat.le_refl _⟩,HB1,H21⟩
  | false=>
   go_wp2_with fail
   refine(no_calls x0 n w.heap.size _ _ H21.out rfl).mono ?_
   rintro e w1 ⟨rfl,rfl⟩
   by_cases r0:outB n x0=true
   ·have HR0 := Aside0.mk r0
    rw [HR0.out]
    clear r0
    go_wp2
    go_roundg (l6.length - (i+1))
    case measure=>have:=Hi.out;have:=HLT.out;omega
    case rel=>exact⟨i+1,by rw [show wrap64 ((i:Int)+1)=((i+1:Nat):Int) by have:=HLT.out;have:=HI6.out;unfold wrap64;omega],congrArg Value.bool (HNX.out _ (by unfold badI;simp [HR0.out])),⟨HLT.out,Nat.le_refl _⟩,HB1,H21⟩
   skip
   have HR0:=Aside0.mk (Bool.eq_false_iff.2 r0)
   rw [HR0.out]
   clear r0
   go_wp2_with fail
   refine(no_calls x2 n w.heap.size _ _ H21.out rfl).mono ?_
   rintro e w2 ⟨rfl,rfl⟩
   by_cases r1:outB n x2=true
   ·have HR1 := Aside0.mk r1
    rw [HR1.out]
    clear r1
    go_wp2
    go_roundg (l6.length - (i+1))
    case measure=>have:=Hi.out;have:=HLT.out;omega
    case rel=>exact⟨i+1,by rw [show wrap64 ((i:Int)+1)=((i+1:Nat):Int) by have:=HLT.out;have:=HI6.out;unfold wrap64;omega],congrArg Value.bool (HNX.out _ (by unfold badI;simp [HR0.out,HR1.out])),⟨HLT.out,Nat.le_refl _⟩,HB1,H21⟩
   skip
   have HR1:=Aside0.mk (Bool.eq_false_iff.2 r1)
   rw [HR1.out]
   clear r1
   go_wp2_with fail
   refine(auto_is.calls A0 c0 l0 x1 3 (isB l0 x1 3) _ (Kd.C_below HI0.out.1 HB1.out) HI0.out.2.1 (is_f _ _ _)).mono ?_
   rintro e w3 ⟨rfl,hd⟩
   have HX1n:=Aside0.mk (blk_below HX1.out hd.below)
   have H21n:=Aside0.mk (blk_below H21.out hd.below)
   have HB1n:=Aside0.mk (below_then HB1.out HB1.out.size hd.below)
   clear hd HX1 H21 HB1 b1 e0 e1 e2
   have HX1:=HX1n
   have H21:=H21n
   have HB1:=HB1n
   clear HX1n H21n HB1n
   have e0:=(blk_cell HX1.out 0).trans (show (#[Value.int .i64 x0,Value.int .i64 x1,Value.int .i64 x2]:Array Value)[0]? = some (.int .i64 x0) from rfl)
   have e1:=(blk_cell HX1.out 1).trans (show (#[Value.int .i64 x0,Value.int .i64 x1,Value.int .i64 x2]:Array Value)[1]? = some (.int .i64 x1) from rfl)
   have e2:=(blk_cell HX1.out 2).trans (show (#[Value.int .i64 x0,Value.int .i64 x1,Value.int .i64 x2]:Array Value)[2]? = some (.int .i64 x2) from rfl)
   have b1:=(blk_cell H21.out 1).trans (show (#[.int .i64 n,.int .i64 g,.slice A2 l2.length c2,.slice A3 l3.length c3,.slice A4 l4.length c4,.slice A5 l5.length c5,.slice (some ad) l6.length c6]:Array Value)[1]? = some (.int .i64 g) from rfl)
   by_cases r2:isB l0 x1 3=true
   ·have HR2 := Aside0.mk r2
    rw [HR2.out]
    clear r2
    go_wp2
    go_roundg (l6.length - (i+1))
    case measure=>have:=Hi.out;have:=HLT.out;omega
    case rel=>exact⟨i+1,by rw [show wrap64 ((i:Int)+1)=((i+1:Nat):Int) by have:=HLT.out;have:=HI6.out;unfold wrap64;omega],congrArg Value.bool (HNX.out _ (by unfold badI;simp [HR0.out,HR1.out,HR2.out])),⟨HLT.out,Nat.le_refl _⟩,HB1,H21⟩
   have HR2 := Aside0.mk (Bool.eq_false_iff.2 r2)
   rw [HR2.out]
   clear r2
   go_wp2
   go_roundg (l6.length - (i+1))
   case measure=>have:=Hi.out;have:=HLT.out;omega
   case rel=>exact⟨i+1,by rw [show wrap64 ((i:Int)+1)=((i+1:Nat):Int) by have:=HLT.out;have:=HI6.out;unfold wrap64;omega],congrArg Value.bool (HNX.out _ (by unfold badI;simp [HR0.out,HR1.out,HR2.out])),⟨HLT.out,Nat.le_refl _⟩,HB1,H21⟩
 have t1 := eq_false hlt
 have e4:l6.take i=l6:=List.take_of_length_le (by omega)
 rw [e4]
 clear hlt e4
 have b0:=(blk_cell H2x.out 0).trans (show (#[.int .i64 n,.int .i64 g,.slice A2 l2.length c2,.slice A3 l3.length c3,.slice A4 l4.length c4,.slice A5 l5.length c5,.slice A6 l6.length c6]:Array Value)[0]? = some (.int .i64 n) from rfl)
 have b1:=(blk_cell H2x.out 1).trans (show (#[.int .i64 n,.int .i64 g,.slice A2 l2.length c2,.slice A3 l3.length c3,.slice A4 l4.length c4,.slice A5 l5.length c5,.slice A6 l6.length c6]:Array Value)[1]? = some (.int .i64 g) from rfl)
 have b2:=(blk_cell H2x.out 2).trans (show (#[.int .i64 n,.int .i64 g,.slice A2 l2.length c2,.slice A3 l3.length c3,.slice A4 l4.length c4,.slice A5 l5.length c5,.slice A6 l6.length c6]:Array Value)[2]? = some (.slice A2 l2.length c2) from rfl)
 have b3:=(blk_cell H2x.out 3).trans (show (#[.int .i64 n,.int .i64 g,.slice A2 l2.length c2,.slice A3 l3.length c3,.slice A4 l4.length c4,.slice A5 l5.length c5,.slice A6 l6.length c6]:Array Value)[3]? = some (.slice A3 l3.length c3) from rfl)
 have b4:=(blk_cell H2x.out 4).trans (show (#[.int .i64 n,.int .i64 g,.slice A2 l2.length c2,.slice A3 l3.length c3,.slice A4 l4.length c4,.slice A5 l5.length c5,.slice A6 l6.length c6]:Array Value)[4]? = some (.slice A4 l4.length c4) from rfl)
 have b5:=(blk_cell H2x.out 5).trans (show (#[.int .i64 n,.int .i64 g,.slice A2 l2.length c2,.slice A3 l3.length c3,.slice A4 l4.length c4,.slice A5 l5.length c5,.slice A6 l6.length c6]:Array Value)[5]? = some (.slice A5 l5.length c5) from rfl)
 have b6:=(blk_cell H2x.out 6).trans (show (#[.int .i64 n,.int .i64 g,.slice A2 l2.length c2,.slice A3 l3.length c3,.slice A4 l4.length c4,.slice A5 l5.length c5,.slice A6 l6.length c6]:Array Value)[6]? = some (.slice A6 l6.length c6) from rfl)
 obtain⟨B3,hB3⟩:∃B3,B3=(B2 || l6.any (badI l0 n)):=⟨_,rfl⟩
 rw [←hB3]
 have HRV2:Aside0 (rv=if B3=true then 9 else 0):=⟨by rw [HRV.out,HBG.out,hB3,HB2_.out,HB1_.out,HB0.out];rfl⟩
 clear hB3 HRV
 cases B3 with
 | true=>
  go_wp2
  go_ret
  exact⟨by rw [HRV2.out];rfl,HBx.out⟩
 | false=>
  go_wp2
  go_ret
  exact⟨by rw [HRV2.out];rfl,HBx.out⟩
theorem auto_Check.calls (A0:Option Addr) (c0:Nat) (l0:List S51) (a1_0 a1_1:Int) (A1_2:Option Addr) (c1_2:Nat) (l1_2:List Int) (A1_3:Option Addr) (c1_3:Nat) (l1_3:List Int) (A1_4:Option Addr) (c1_4:Nat) (l1_4:List S36) (A1_5:Option Addr) (c1_5:Nat) (l1_5:List S38) (A1_6:Option Addr) (c1_6:Nat) (l1_6:List S40) (r:Int) (w:World) (hr0:Kd.C k51 w A0 l0.length l0) (hc0:l0.length≤c0) (hr1_2:Kd.C (Kd.int .i64) w A1_2 l1_2.length l1_2) (hc1_2:l1_2.length≤c1_2) (hr1_3:Kd.C (Kd.int .i64) w A1_3 l1_3.length l1_3) (hc1_3:l1_3.length≤c1_3) (hr1_4:Kd.C k36 w A1_4 l1_4.length l1_4) (hc1_4:l1_4.length≤c1_4) (hr1_5:Kd.C k38 w A1_5 l1_5.length l1_5) (hc1_5:l1_5.length≤c1_5) (hr1_6:Kd.C k40 w A1_6 l1_6.length l1_6) (hc1_6:l1_6.length≤c1_6) (h:auto_Check.f l0 a1_0 a1_1 l1_2 l1_3 l1_4 l1_5 l1_6=some r) :
 Calls Tryz.prog 15 #[.slice A0 l0.length c0,.agg #[.int .i64 a1_0,.int .i64 a1_1,.slice A1_2 l1_2.length c1_2,.slice A1_3 l1_3.length c1_3,.slice A1_4 l1_4.length c1_4,.slice A1_5 l1_5.length c1_5,.slice A1_6 l1_6.length c1_6]] w fun e w'=>e=.returned (.int .i64 r)∧Below w.heap.size w w':=by
 unfold auto_Check.f at h
 split at h
 case isFalse=>cases h
 rename_i hl
 obtain⟨q0,q2,q3,q4,q5,q6⟩:=hl
 obtain rfl:=Option.some.inj h
 exact check_own A0 c0 l0 a1_0 a1_1 A1_2 c1_2 l1_2 A1_3 c1_3 l1_3 A1_4 c1_4 l1_4 A1_5 c1_5 l1_5 A1_6 c1_6 l1_6 w hr0 hc0 q0 hr1_2 hc1_2 q2 hr1_3 hc1_3 q3 hr1_4 hc1_4 q4 hr1_5 hc1_5 q5 hr1_6 hc1_6 q6
end Go.Proofs.YtejpijgfpbcibaaGreat.P
